/-
  Part of the proof of the law ProofToolsSpec over this seat: the small logic, the data, the contracts of functions (no condition).
-/
import Derived.Test.YtkeanlfhghlgiaaGreatDoorQProofToolsSpec4
import Derived.Test.YtkeanlfhghlgiaaGreatDoorQProofToolsSpec2
set_option linter.unusedVariables false
set_option linter.unusedSimpArgs false
set_option linter.unusedSectionVars false
set_option maxHeartbeats 1000000
namespace Go.Vs
open Go Go.Sx
def bm_ (m:Nat) (y:Fc) (q:List Fc):List Fc:=if q.length≤m∧y ∉ q then q++[y] else q
abbrev idk:List Fc→List Fc:=fun q=>q
theorem mQ_ (m:Nat) (y:Fc) (q:List Fc):∃ t,bm_ m y q=q++t:=by
 unfold bm_;split
 ·exact⟨[y],rfl⟩
 exact⟨[],by simp⟩
theorem iI_ (m:Nat):∀ (L q:List Fc),∃ t,emits (bm_ m) L q=q++t
  | [],q=>⟨[],by simp[emits]⟩
  | y::L,q=>by
    obtain⟨t,h⟩:=mQ_ m y q
    obtain⟨u,h'⟩:=iI_ m L (bm_ m y q)
    exact⟨t++u,by rw[← List.append_assoc,← h,← h'];rfl⟩
theorem fb_ (m:Nat):Grows (bm_ m) idk:=⟨fun y s z hz=>by obtain⟨t,h⟩:=mQ_ m y s;rw[h];exact List.mem_append_left _ hz⟩
theorem fM_ (m:Nat):∀ (L q:List Fc) (z:Fc),z∈emits (bm_ m) L q→z∈q∨z∈L
 | [],q,z,h=>.inl h
 | y::L,q,z,h=>by
   rcases fM_ m L (bm_ m y q) z h with h|h
   · unfold bm_ at h
     split at h
     · rcases List.mem_append.1 h with h|h
       · exact .inl h
       · exact .inr (by simp at h;simp[h])
     · exact .inl h
   · exact .inr (List.mem_cons_of_mem _ h)
theorem hK_ (m:Nat):∀ (L q:List Fc),q.Nodup→(emits (bm_ m) L q).Nodup
 | [],q,h=>h
 | y::L,q,h=>by
   refine hK_ m L (bm_ m y q) ?_
   unfold bm_
   split
   · rename_i hc
     rw[List.nodup_append]
     exact⟨h,by simp,fun a ha b hb e=>by simp at hb;subst hb;subst e;exact hc.2 ha⟩
   · exact h
theorem mz_ (m:Nat):∀ (L q:List Fc),q.length≤m+1→(emits (bm_ m) L q).length≤m+1
 | [],q,h=>h
 | y::L,q,h=>by
   refine mz_ m L (bm_ m y q) ?_
   unfold bm_
   split
   · rename_i hc;simp;exact hc.1
   · exact h
theorem hL_ (m:Nat):∀ (L q:List Fc),(emits (bm_ m) L q).length≤m→∀ y∈L,y∈emits (bm_ m) L q
 | [],q,_,y,hy=>by simp at hy
 | x::L,q,h,y,hy=>by
   have e:emits (bm_ m) (x::L) q=emits (bm_ m) L (bm_ m x q):=rfl
   rw[e]at h ⊢
   rcases List.mem_cons.1 hy with rfl|hy
   · obtain⟨t,ht⟩:=iI_ m L (bm_ m y q)
     rw[ht]at h ⊢
     refine List.mem_append_left _ ?_
     have hl:(bm_ m y q).length≤m:=by rw[List.length_append]at h;omega
     unfold bm_ at hl ⊢
     split
     · simp
     · rename_i hc
       rw[if_neg hc]at hl
       exact Classical.byContradiction fun hn=>hc ⟨hl,hn⟩
   · exact hL_ m L _ h y hy
theorem jq_ {ps:List Pc} {A:List Str} {m:Nat} {f:Fc}:∀ (l:List Pc) (s:List Fc),(∀ z∈l,z∈ps∧z.kind=2)→(∀ y∈s,Der ps A y)→∀ y∈ed_ (bm_ m) idk f l s,Der ps A y
 | [],s,_,hs,y,hy=>hs y hy
 | z::l,s,hl,hs,y,hy=>by
   have hz:=hl z (by simp)
   simp only[ed_,List.foldl_cons]at hy
   refine jq_ l _ (fun z hz=>hl z (by simp[hz])) (fun y hy=>?_) y hy
   split at hy
   · rename_i hc
     have:=fM_ m [C_ f.a z.c] s y hy
     rcases this with h|h
     · exact hs y h
     · simp at h;subst h
       exact Der.step (.r4 hz.1 hz.2 (hs _ hc.1) (hs _ hc.2))
   · exact hs y hy
section
variable {ps:List Pc} {A:List Str} {m:Nat} {x:Ix} {S Fm:Fc→Prop} {f:Fc}
theorem pI_ (hr:∀ x∈ps,x.vok) (hx:x.of S Fm) (hS:∀ y,S y→y.form) (hk:f.kind=1∨f.kind=2∨f.kind=3) (hf:f.form) (j:Nat) (s:List Fc×List Fc) (hSs:∀ y,S y→y∈s.1) (hfs:f∈s.1) (hs:∀ y∈s.1,Der ps A y) :
    ∀ y∈(rl (bm_ m) idk (aI_ ps) x f j s).1,Der ps A y:=by
  have E:∀ L,(∀ y∈L,fX_ ps A (·∈s.1) y)→∀ y∈emits (bm_ m) L s.1,Der ps A y:=fun L hL y hy=>by
    rcases fM_ m L s.1 y hy with h|h
    · exact hs y h
    · exact Der.step ((hL y h).mono (fun x hx=>⟨x,hx,x.frm,rfl⟩) (fun _ h=>h) hs (fun _ _ h=>h))
  unfold rl
  split
  · rename_i h1
    split
    · exact E _ (lb_ h1 hf hfs)
    · exact jq_ _ s.1 (fun z hz=>by have:=pm2.1 hz;exact⟨this.1,this.2.1⟩) hs
    · exact E _ (oe_ h1 hf hfs)
    · exact E _ (kI_ hr hx hS hSs h1 hf hfs)
    · exact E _ (jv_ hx hS hSs h1 hf hfs)
    · rw[eE_];exact E _ (mM_ h1 hf hfs)
  · split
    · rename_i h2
      split
      · exact E _ (kY_ h2 hf hfs)
      · exact E _ (nQ_ hx hS hSs h2 hf hfs)
      · exact E _ (kH_ hx hS hSs h2 hf hfs)
      · simp only
        split
        · rename_i hc
          exact E [C_ f.a [33]] (fun y hy=>by simp at hy;subst hy;exact ju_ h2 hf hfs hc)
        · exact hs
    · rename_i h1 h2
      have h3:f.kind=3:=by omega
      split
      · exact E _ (oq_ hx hS hSs h3 hf hfs)
      · exact E _ (pS_ h3 hf hfs)
theorem kd_ (hr:∀ x∈ps,x.vok) (hx:x.of S Fm) (hS:∀ y,S y→y.form) (hf:f.form) (s:List Fc×List Fc) (hSs:∀ y,S y→y∈s.1) (hfs:f∈s.1) (hs:∀ y∈s.1,Der ps A y) (j:Nat) :
    ∀ y∈(rls (bm_ m) idk (aI_ ps) x f j s).1,Der ps A y:=by
  induction j with
  | zero=>exact hs
  | succ j ih=>exact pI_ hr hx hS (gp_ hf) hf j _ (fun y hy=>iP_ (fb_ m) j s y (hSs y hy)) (iP_ (fb_ m) j s f hfs) ih
end
inductive Fmd (fm:List Fc):Fc→Prop
  | base {y:Fc} (h:y∈fm):Fmd fm y
  | meet {y z:Fc} (hy:Fmd fm y) (hz:Fmd fm z) (ha:z.a=y.a) (hr:z.r=y.r) (hl:max y.lo z.lo≤min y.hi z.hi):Fmd fm (cT_ y z)
theorem Fmd.mono {fm fm':List Fc} (h:∀ y∈fm,y∈fm') {y:Fc} (hy:Fmd fm y):Fmd fm' y:=by
  induction hy with
  | base h1=>exact .base (h _ h1)
  | meet _ _ ha hr hl ih1 ih2=>exact .meet ih1 ih2 ha hr hl
structure InvA (ps:List Pc) (A:List Str) (m n:Nat) (q fm:List Fc) (x:Ix):Prop where
  nd:q.Nodup
  len:q.length≤m
  le:n≤q.length
  der:∀ y∈q,Der ps A y
  form:∀ y∈q,y.form
  ix:x.of (·∈q.take n) (·∈fm)
  fmq:∀ y∈fm,y∈q∧y.kind=3
  firm:∀ y∈q,y.kind=3→Fmd fm y
  st:∀ a∈A,C_ a a∈q∧C_ a [42]∈q∧∀ z∈ps,z.kind=7→I_ a z.r a∈q
  cl:∀ y,One ps A (·∈q.take n) (fun y z=>y∈fm∨z∈fm) y→y∈q
theorem Der.form {p:List Pc} {A:List Str} (hp:∀ x∈p,x.vok) {y:Fc} (h:Der p A y):y.form:=h _ fun _ hz=>One.form hp (fun _ h=>h) hz
theorem jf_ {stp:Fc→List Fc→List Fc} {kof:List Fc→List Fc} (hk:∀ i s z,z∈kof (stp i s)→z∈kof s∨z=i) (h:Grows stp kof) (f:Fc):∀ (l:List Pc) (s fm:List Fc),∀ y∈l,T_ f.a y.r y.lo y.hi∈kof s∨T_ f.a y.r y.lo y.hi∈(ci_ stp kof f l (s,fm)).2
 | [],s,fm,y,hy=>by simp at hy
 | x::l,s,fm,y,hy=>by
   have e:ci_ stp kof f (x::l) (s,fm)=ci_ stp kof f l (stp (T_ f.a x.r x.lo x.hi) s,if T_ f.a x.r x.lo x.hi∈kof s then fm else T_ f.a x.r x.lo x.hi::fm):=rfl
   rw[e]
   by_cases he:T_ f.a y.r y.lo y.hi=T_ f.a x.r x.lo x.hi
   · rw[he]
     by_cases hc:T_ f.a x.r x.lo x.hi∈kof s
     · exact .inl hc
     · refine .inr ((gD_ h f l _ _ _).2 (.inl ?_))
       rw[if_neg hc];simp
   · rcases List.mem_cons.1 hy with rfl|hy
     · exact absurd rfl he
     · rcases jf_ hk h f l (stp (T_ f.a x.r x.lo x.hi) s) (if T_ f.a x.r x.lo x.hi∈kof s then fm else T_ f.a x.r x.lo x.hi::fm) y hy with h1|h1
       · exact (hk _ _ _ h1).imp id fun q=>absurd q he
       · exact .inr h1
theorem qK_ {q:List Fc} {n:Nat} {f z:Fc} (hn:q[n]? = some f):z∈q.take (n+1)↔z∈q.take n∨z=f:=by
  rw[List.take_add_one,hn];simp
theorem po_ {ps:List Pc} {A:List Str} {S Fm kn good:Fc→Prop} {f:Fc} (hc:Cmpl ps (fun y=>S y∨y=f) Fm kn good f) (hkn:∀ y,S y∨y=f→kn y) (h:∀ y,One ps A S (fun y z=>Fm y∨Fm z) y→good y) (y:Fc) (hy:One ps A (fun y=>S y∨y=f) (fun y z=>Fm y∨Fm z) y):good y:=by
 cases hy with
 | r1 h1=>exact h _ (.r1 h1)
 | r2 h1=>exact h _ (.r2 h1)
 | r10 hx hk h1=>exact h _ (.r10 hx hk h1)
 | r3 hx hk h1=>exact h1.elim (fun q=>h _ (.r3 hx hk q)) (fun q=>hc.c3 _ _ hx hk q.symm)
 | r4 hx hk h1 h2 =>
   rcases h1 with h1|h1
   · rcases h2 with h2|h2
     · exact h _ (.r4 hx hk h1 h2)
     · exact hc.c4' _ _ hx hk h2.symm (hkn _ (.inl h1))
   · exact hc.c4 _ _ hx hk h1.symm (hkn _ h2)
 | r5 hx hk h1=>exact h1.elim (fun q=>h _ (.r5 hx hk q)) (fun q=>hc.c5 _ _ hx hk q.symm)
 | r6 hx hk h1=>exact h1.elim (fun q=>h _ (.r6 hx hk q)) (fun q=>hc.c6 _ _ _ hx hk q.symm)
 | r7 hx hk h1 h2 =>
   rcases h1 with h1|h1
   · rcases h2 with h2|h2
     · exact h _ (.r7 hx hk h1 h2)
     · exact hc.c7' _ _ _ _ hx hk h2.symm (.inl h1)
   · exact hc.c7 _ _ _ _ hx hk h1.symm h2
 | r8 hx hk h1 h2 =>
   rcases h1 with h1|h1
   · rcases h2 with h2|h2
     · exact h _ (.r8 hx hk h1 h2)
     · exact hc.c8' _ _ _ hx hk h2.symm (.inl h1)
   · exact hc.c8 _ _ _ hx hk h1.symm h2
 | r9 h1 h2 =>
   rcases h1 with h1|h1
   · rcases h2 with h2|h2
     · exact h _ (.r9 h1 h2)
     · exact hc.c9' _ _ _ h2.symm (.inl h1)
   · exact hc.c9 _ _ _ h1.symm (hkn _ h2)
 | r11 hx hk h1=>exact h1.elim (fun q=>h _ (.r11 hx hk q)) (fun q=>hc.c11 _ _ hx hk q.symm)
 | @r12 a r lo hi lo' hi' h1 h2 hm hl =>
   rcases h1 with h1|h1
   · rcases h2 with h2|h2
     · exact h _ (.r12 h1 h2 hm hl)
     · have:=hc.c12 (T_ a r lo hi) (by rw[← h2];rfl) (.inl h1) rfl (by rw[← h2];rfl) (by rw[← h2];rfl) (by rw[← h2];exact hm.symm) (by rw[← h2];simp only[T_];omega)
       rw[← h2]at this
       rw[Int.max_comm,Int.min_comm];exact this
   · have:=hc.c12 (T_ a r lo' hi') (by rw[← h1];rfl) h2 rfl (by rw[← h1];rfl) (by rw[← h1];rfl) (by rw[← h1];exact hm) (by rw[← h1];exact hl)
     rw[← h1]at this
     exact this
 | @r13 a r lo hi lo' hi' h1 h2 hm hl =>
   rcases h1 with h1|h1
   · rcases h2 with h2|h2
     · exact h _ (.r13 h1 h2 hm hl)
     · have:=hc.c13 (T_ a r lo hi) (by rw[← h2];rfl) (.inl h1) rfl (by rw[← h2];rfl) (by rw[← h2];rfl) (by rw[← h2];exact hm.symm) (by rw[← h2];simp only[T_];omega)
       rw[← h2]at this
       exact this
   · have:=hc.c13 (T_ a r lo' hi') (by rw[← h1];rfl) h2 rfl (by rw[← h1];rfl) (by rw[← h1];rfl) (by rw[← h1];exact hm) (by rw[← h1];exact hl)
     rw[← h1]at this
     exact this
 | r14 hx hk h1 g1 g2=>exact h1.elim (fun q=>h _ (.r14 hx hk q g1 g2)) (fun q=>hc.c14 _ _ _ _ hx hk q.symm g1 g2)
theorem One.congrM {p:List Pc} {A:List Str} {S:Fc→Prop} {M M':Fc→Fc→Prop} (hM:∀ y z,S y→S z→M y z→M' y z) {y:Fc} (h:One p A S M y):One p A S M' y:=by
  cases h with
  | r1 h=>exact .r1 h
  | r2 h=>exact .r2 h
  | r10 hx hk h=>exact .r10 hx hk h
  | r3 hx hk h=>exact .r3 hx hk h
  | r4 hx hk h h'=>exact .r4 hx hk h h'
  | r5 hx hk h=>exact .r5 hx hk h
  | r6 hx hk h=>exact .r6 hx hk h
  | r7 hx hk h h'=>exact .r7 hx hk h h'
  | r8 hx hk h h'=>exact .r8 hx hk h h'
  | r9 h h'=>exact .r9 h h'
  | r11 hx hk h=>exact .r11 hx hk h
  | r12 h h' hm hl=>exact .r12 h h' (hM _ _ h h' hm) hl
  | r13 h h' hm hl=>exact .r13 h h' (hM _ _ h h' hm) hl
  | r14 hx hk h h1 h2=>exact .r14 hx hk h h1 h2
section
variable {ps:List Pc} {A:List Str} {m n:Nat} {q fm:List Fc} {x:Ix} {f:Fc}
theorem rd_ (j k:Nat) (s:List Fc×List Fc):∃ t,(rls (bm_ m) idk (aI_ ps) x f (j+k) s).1=(rls (bm_ m) idk (aI_ ps) x f j s).1++t:=by
  induction k with
  | zero=>exact⟨[],by simp⟩
  | succ k ih =>
    obtain⟨t,h⟩:=ih
    obtain⟨L,h'⟩:=mW_ (ps:=ps) (x:=x) (f:=f) (fb_ m) (j+k) (rls (bm_ m) idk (aI_ ps) x f (j+k) s)
    obtain⟨u,h''⟩:=iI_ m L (rls (bm_ m) idk (aI_ ps) x f (j+k) s).1
    exact⟨t++u,by rw[← Nat.add_assoc,rls,h',h'',h,List.append_assoc]⟩
theorem mX_ (j:Nat) (s:List Fc×List Fc) (h:f.kind=1→j≤4) (h3:f.kind=3→j≠0) (hk:f.kind=1∨f.kind=2∨f.kind=3):∀ y∈(rl (bm_ m) idk (aI_ ps) x f j s).1,y.kind=3→y∈s.1:=by
 have E:∀ L:List Fc,(∀ y∈L,y.kind≠3)→∀ y∈emits (bm_ m) L s.1,y.kind=3→y∈s.1:=fun L hL y hy hk =>
   (fM_ m L s.1 y hy).elim id fun q=>absurd hk (hL y q)
 have mp:∀ {α:Type} (l:List α) (g:α→Fc),(∀ a,(g a).kind≠3)→∀ y∈l.map g,y.kind≠3:=fun l g hg y hy=>by
   obtain⟨a,_,rfl⟩:=List.mem_map.1 hy;exact hg a
 have fmp:∀ {α β:Type} (l:List α) (k:α→List β) (g:α→β→Fc),(∀ a b,(g a b).kind≠3)→∀ y∈l.flatMap (fun a=>(k a).map (g a)),y.kind≠3:=fun l k g hg y hy=>by
   obtain⟨a,_,hy⟩:=List.mem_flatMap.1 hy
   exact mp _ _ (hg a) y hy
 unfold rl
 split
 ·rename_i h1
  split
  ·exact E _ (mp _ _ fun _=>by simp[C_])
  ·obtain⟨L,e1,e2,_⟩:=eV_ (fb_ m) f (lat (aI_ ps) ⟨2,[],f.b⟩) s.1
   rw[e1]
   exact E L fun y hy=>by obtain⟨_,_,rfl,_⟩:=e2 y hy;simp[C_]
  ·exact E _ (mp _ _ fun _=>by simp[I_])
  ·exact E _ (fmp _ _ _ fun _ _=>by simp[C_])
  ·refine E _ fun y hy=>?_
   unfold db_ at hy
   split at hy
   ·exact mp _ _ (fun _=>by simp[C_]) y hy
   simp at hy
  have:=h h1
  rename_i a1 a2 a3 a4 a5
  have hj:j=0∨j=1∨j=2∨j=3∨j=4:=by omega
  rcases hj with hj|hj|hj|hj|hj
  ·exact (a1 hj).elim
  ·exact (a2 hj).elim
  ·exact (a3 hj).elim
  ·exact (a4 hj).elim
  exact (a5 hj).elim
 split
 ·split
  ·exact E _ (mp _ _ fun _=>by simp[I_])
  ·refine E _ fun y hy=>?_
   rcases List.mem_append.1 hy with hy|hy
   ·exact fmp _ _ _ (fun _ _=>by simp[I_]) y hy
   exact fmp _ _ _ (fun _ _=>by simp[I_]) y hy
  ·exact E _ (fmp _ _ _ fun _ _=>by simp[C_])
  simp only
  split
  ·exact E [C_ f.a [33]] (by simp[C_])
  exact fun y hy _=>hy
 rename_i h1 h2
 split
 ·exact absurd rfl (h3 (by omega))
 exact E _ (mp _ _ fun _=>by simp[C_])
theorem lt_ (j:Nat) (s:List Fc×List Fc) (h:f.kind=1→j≤5) (h3:f.kind≠3) (hk:f.kind=1∨f.kind=2∨f.kind=3):∀ y∈(rls (bm_ m) idk (aI_ ps) x f j s).1,y.kind=3→y∈s.1:=by
  induction j with
  | zero=>exact fun y hy _=>hy
  | succ j ih=>exact fun y hy hk3=>ih (fun hh=>by have:=h hh;omega) y (mX_ j _ (fun hh=>by have:=h hh;omega) (fun hh=>absurd hh h3) hk y hy hk3) hk3
theorem sb_ (hr:∀ x∈ps,x.vok) (inv:InvA ps A m n q fm x) (hn:q[n]? = some f) {s':List Fc×List Fc} (hs:rls (bm_ m) idk (aI_ ps) (x.add (decide (f∈fm)) f) f (nrl f) (q,fm)=s') (hl:s'.1.length≤m) :
    InvA ps A m (n+1) s'.1 s'.2 (x.add (decide (f∈fm)) f):=by
  have hfq:f∈q:=List.mem_of_getElem? hn
  have hlt:n<q.length:=(List.getElem?_eq_some_iff.1 hn).1
  have hform:=inv.form f hfq
  have hk:=gp_ hform
  have hx':(x.add (decide (f∈fm)) f).of (fun y=>y∈q.take n∨y=f) (·∈fm):=Ix.of_add inv.ix f (by simp)
  have hSq:∀ y,(y∈q.take n∨y=f)→y∈q:=fun y hy=>hy.elim (fun h=>List.mem_of_mem_take h) (fun h=>h▸hfq)
  obtain⟨L,hL⟩:=iQ_ (ps:=ps) (x:=x.add (decide (f∈fm)) f) (f:=f) (fb_ m) (nrl f) (q,fm)
  rw[hs]at hL
  obtain⟨t,ht⟩:=iI_ m L q
  have hpre:s'.1=q++t:=by rw[hL];exact ht
  have hsub:∀ y∈q,y∈s'.1:=fun y hy=>by rw[hpre];exact List.mem_append_left _ hy
  have htake:s'.1.take (n+1)=q.take (n+1):=by rw[hpre,List.take_append_of_le_length (by omega)]
  have hmem:∀ y,y∈s'.1.take (n+1)↔(y∈q.take n∨y=f):=fun y=>by rw[htake];exact qK_ hn
  have hder:∀ y∈s'.1,Der ps A y:=by rw[← hs];exact kd_ hr hx' (fun y hy=>inv.form y (hSq y hy)) hform (q,fm) hSq hfq inv.der (nrl f)
  have H:∀ j,j<nrl f→∀ L,(rls (bm_ m) idk (aI_ ps) (x.add (decide (f∈fm)) f) f (j+1) (q,fm)).1=emits (bm_ m) L (rls (bm_ m) idk (aI_ ps) (x.add (decide (f∈fm)) f) f j (q,fm)).1→∀ y∈L,y∈s'.1:=by
    intro j hj L hL y hy
    obtain⟨u,hu⟩:=rd_ (m:=m) (ps:=ps) (x:=x.add (decide (f∈fm)) f) (f:=f) (j+1) (nrl f - (j+1)) (q,fm)
    rw[show j+1+(nrl f - (j+1))=nrl f by omega,hs]at hu
    have hle:(rls (bm_ m) idk (aI_ ps) (x.add (decide (f∈fm)) f) f (j+1) (q,fm)).1.length≤m:=by rw[hu,List.length_append]at hl;omega
    rw[hL]at hle
    have:=hL_ m L _ hle y hy
    rw[hu,hL]
    exact List.mem_append_left _ this
  have hc:=rc_ (fb_ m) hr hx' (q,fm) (fun _ _=>Iff.rfl) (.inr rfl) hSq (·∈s'.1) (fun y hy=>hsub y (hSq y hy)) H
  -- the firm ones
  have hfm:(∀ y∈fm,y∈s'.2)∧(∀ y∈s'.2,y∈fm∨(y ∉ q∧y∈s'.1∧y.kind=3))∧(∀ y∈s'.1,y.kind=3→y∈q∨y∈s'.2∨∃ z,(z∈q.take n∨z=f)∧z.kind=3∧f.kind=3∧z.a=f.a∧z.r=f.r∧max f.lo z.lo≤min f.hi z.hi∧y=cT_ f z):=by
    by_cases h1:f.kind=1
    · have e6:nrl f=5+1:=by simp[nrl,h1]
      rw[e6,rls]at hs
      have hf5:(rls (bm_ m) idk (aI_ ps) (x.add (decide (f∈fm)) f) f 5 (q,fm)).2=fm:=mV_ 5 (q,fm) (fun _=>Nat.le_refl _)
      have hk5:=lt_ (m:=m) (ps:=ps) (x:=x.add (decide (f∈fm)) f) (f:=f) 5 (q,fm) (fun _=>Nat.le_refl _) (by omega) hk
      have hq5:∀ y∈q,y∈(rls (bm_ m) idk (aI_ ps) (x.add (decide (f∈fm)) f) f 5 (q,fm)).1:=fun y hy=>iP_ (fb_ m) 5 (q,fm) y hy
      have H5:=H 5 (by omega)
      rw[rls]at H5
      generalize rls (bm_ m) idk (aI_ ps) (x.add (decide (f∈fm)) f) f 5 (q,fm)=s5 at hs hf5 hk5 hq5 H5
      have er:rl (bm_ m) idk (aI_ ps) (x.add (decide (f∈fm)) f) f 5 s5=ci_ (bm_ m) idk f (lat (aI_ ps) ⟨8,[],f.b⟩) s5:=by rw[rl.eq_def,if_pos h1]<;>rfl
      rw[er]at hs H5
      have es5:s5=(s5.1,fm):=by rw[← hf5]
      rw[es5]at hs H5
      have Hv:=H5 _ (eE_ (bm_ m) idk f _ s5.1 fm)
      refine⟨fun y hy=>?_,fun y hy=>?_,fun y hy hy3=>?_⟩
      · rw[← hs];exact (gD_ (fb_ m) f _ _ _ _).2 (.inl hy)
      · rw[← hs]at hy
        rcases (gD_ (fb_ m) f _ _ _ _).1 hy with h|h
        · exact .inl h
        · rcases jU_ f _ _ _ _ h.2 with g|⟨z,hz,rfl⟩
          · exact .inl g
          · exact .inr ⟨fun hq=>h.1 (hq5 _ hq),Hv _ (List.mem_map.2 ⟨z,hz,rfl⟩),rfl⟩
      · have hy':=hy
        rw[← hs,eE_]at hy
        rcases fM_ m _ _ y hy with h|h
        · exact .inl (hk5 y h hy3)
        · obtain⟨z,hz,rfl⟩:=List.mem_map.1 h
          rcases jf_ (stp:=bm_ m) (kof:=idk) (fun i s z hz=>(fM_ m [i] s z hz).imp id (by simp)) (fb_ m) f _ s5.1 fm z hz with g|g
          · exact .inl (hk5 _ g rfl)
          · exact .inr (.inl (by rw[← hs];exact g))
    · have hf2:s'.2=fm:=by rw[← hs];exact mV_ _ (q,fm) (fun h=>absurd h h1)
      refine⟨fun y hy=>by rw[hf2];exact hy,fun y hy=>.inl (by rw[← hf2];exact hy),fun y hy hy3=>?_⟩
      by_cases h3:f.kind=3
      · have e2:nrl f=0+1+1:=by simp[nrl,h3]
        rw[e2,rls]at hs
        rw[← hs]at hy
        have hy1:=mX_ 1 _ (fun h=>absurd h h1) (fun _=>by decide) hk y hy hy3
        rw[rls,rl.eq_def,if_neg h1,if_neg (by omega)]at hy1
        rcases fM_ m _ _ y hy1 with h|h
        · exact .inl h
        · rcases List.mem_append.1 h with h|h
          · obtain⟨z,hz,rfl⟩:=List.mem_map.1 h
            obtain⟨hz,hcc⟩:=List.mem_filter.1 hz
            obtain⟨g1,g2,g3,g4⟩:=iT_ hx' hz
            simp only[cz_,Bool.and_eq_true,Bool.not_eq_true',decide_eq_false_iff_not,Int.not_lt]at hcc
            exact .inr (.inr ⟨z,g1,g2,h3,g3,g4,hcc.1,rfl⟩)
          · unfold gT_ at h
            split at h
            · simp at h;rw[h]at hy3;simp[C_]at hy3
            · simp at h
      · rw[← hs]at hy
        exact .inl (lt_ _ _ (fun h=>absurd h h1) h3 hk y hy hy3)
  have hSfm:∀ y,(y∈q.take n∨y=f)→(y∈fm↔y∈s'.2):=fun y hy=>⟨fun h=>hfm.1 y h,fun h=>(hfm.2.1 y h).elim id fun g=>absurd (hSq y hy) g.1⟩
  refine⟨?_,hl,?_,hder,fun y hy=>(hder y hy).form hr,?_,?_,?_,?_,?_⟩
  · rw[hL];exact hK_ m L q inv.nd
  · rw[hpre,List.length_append];omega
  · have:=Ix.of_firm hx' hSfm
    have e:(fun y=>y∈s'.1.take (n+1))=(fun y=>y∈q.take n∨y=f):=funext fun y=>propext (hmem y)
    rw[e];exact this
  · intro y hy
    rcases hfm.2.1 y hy with h|h
    · exact⟨hsub y (inv.fmq y h).1,(inv.fmq y h).2⟩
    · exact h.2
  · intro y hy hk3
    rcases hfm.2.2 y hy hk3 with h|h|⟨z,h1,h2,h3,h4,h5,h6,rfl⟩
    · exact (inv.firm y h hk3).mono hfm.1
    · exact .base h
    · exact .meet ((inv.firm f hfq h3).mono hfm.1) ((inv.firm z (hSq z h1) h2).mono hfm.1) h4 h5 h6
  · intro a ha
    obtain⟨g1,g2,g3⟩:=inv.st a ha
    exact⟨hsub _ g1,hsub _ g2,fun z hz hk=>hsub _ (g3 z hz hk)⟩
  · intro y hy
    have e:(fun y=>y∈s'.1.take (n+1))=(fun y=>y∈q.take n∨y=f):=funext fun y=>propext (hmem y)
    rw[e]at hy
    refine po_ (A:=A) hc hSq (fun z hz=>hsub z (inv.cl z hz)) y (hy.congrM fun u v hu hv hm=>hm.imp (hSfm u hu).2 (hSfm v hv).2)
theorem mm_le {a b c d e g:Int} (h:max a (max b c)≤min d (min e g)):max a b≤min d e:=by omega
theorem ny_ (inv:InvA ps A m q.length q fm x) (y:Fc):Der ps A y↔y∈q:=by
 refine⟨fun h=>h.least fun y hy=>?_,inv.der y⟩
 have hcl:∀ y,One ps A (·∈q) (fun y z=>y∈fm∨z∈fm) y→y∈q:=fun y hy=>inv.cl y (by rw[List.take_length];exact hy)
 have key:∀ f,Fmd fm f→∀ z∈q,z.kind=3→z.a=f.a→z.r=f.r→(max z.lo f.lo≤min z.hi f.hi→cT_ z f∈q)∧(min z.hi f.hi<max z.lo f.lo→C_ z.a [33]∈q):=by
   intro f hf
   induction hf with
   | @base f hb =>
     intro z hz hk ha hr'
     obtain⟨hfq,hfk⟩:=inv.fmq f hb
     have ez:=(gq_ (inv.form z hz) hk).1
     have ef:=(gq_ (inv.form f hfq) hfk).1
     rw[← ha,← hr']at ef
     refine⟨fun hl=>hcl _ (.r12 (by rw[← ez];exact hz) (by rw[← ef];exact hfq) (.inr (by rw[← ef];exact hb)) hl),fun hl=>hcl _ (.r13 (r:=z.r) (by rw[← ez];exact hz) (by rw[← ef];exact hfq) (.inr (by rw[← ef];exact hb)) hl)⟩
   | @meet y w hy hw ha hr' hl ih1 ih2 =>
     intro z hz hk hza hzr
     have hza':z.a=y.a:=hza
     have hzr':z.r=y.r:=hzr
     obtain⟨i1,i2⟩:=ih1 z hz hk hza' hzr'
     have hlo:(cT_ y w).lo=max y.lo w.lo:=rfl
     have hhi:(cT_ y w).hi=min y.hi w.hi:=rfl
     rw[hlo,hhi]
     by_cases hc:max z.lo y.lo≤min z.hi y.hi
     · have h1:=i1 hc
       obtain⟨j1,j2⟩:=ih2 (cT_ z y) h1 rfl (by rw[ha,← hza'];rfl) (by rw[hr',← hzr'];rfl)
       have e1:(cT_ z y).lo=max z.lo y.lo:=rfl
       have e2:(cT_ z y).hi=min z.hi y.hi:=rfl
       rw[e1,e2]at j1 j2
       refine⟨fun hl'=>?_,fun hl'=>j2 (by rw[Int.max_assoc,Int.min_assoc];exact hl')⟩
       have:=j1 (by rw[Int.max_assoc,Int.min_assoc];exact hl')
       have e:cT_ (cT_ z y) w=cT_ z (cT_ y w):=by
         simp only[cT_,T_]
         rw[Int.max_assoc,Int.min_assoc]
       rw[← e];exact this
     · exact⟨fun hl'=>absurd (mm_le hl') hc,fun _=>i2 (Int.not_le.1 hc)⟩
 have key2:∀ {a r:Str} {lo hi lo' hi':Int},T_ a r lo hi∈q→T_ a r lo' hi'∈q→(max lo lo'≤min hi hi'→T_ a r (max lo lo') (min hi hi')∈q)∧(min hi hi'<max lo lo'→C_ a [33]∈q):=fun h h'=>key _ (inv.firm _ h' rfl) _ h rfl rfl rfl
 cases hy with
 | r1 h=>exact hcl _ (.r1 h)
 | r2 h=>exact hcl _ (.r2 h)
 | r10 hx hk h=>exact hcl _ (.r10 hx hk h)
 | r3 hx hk h=>exact hcl _ (.r3 hx hk h)
 | r4 hx hk h h'=>exact hcl _ (.r4 hx hk h h')
 | r5 hx hk h=>exact hcl _ (.r5 hx hk h)
 | r6 hx hk h=>exact hcl _ (.r6 hx hk h)
 | r7 hx hk h h'=>exact hcl _ (.r7 hx hk h h')
 | r8 hx hk h h'=>exact hcl _ (.r8 hx hk h h')
 | r9 h h'=>exact hcl _ (.r9 h h')
 | r11 hx hk h=>exact hcl _ (.r11 hx hk h)
 | r12 h h' hm hl=>exact (key2 h h').1 hl
 | r13 h h' hm hl=>exact (key2 h h').2 hl
 | r14 hx hk h h1 h2=>exact hcl _ (.r14 hx hk h h1 h2)
end
def eM_ (loops:List Str) (A:List Str):List Fc:=A.flatMap fun a=>C_ a a::C_ a [42]::loops.map fun r=>I_ a r a
theorem jr_ {ps:List Pc} {A:List Str} {S:Fc→Prop} {M:Fc→Fc→Prop}:∀ y∈eM_ (an_ ps) A,One ps A S M y:=by
 intro y hy
 obtain⟨a,ha,hy⟩:=List.mem_flatMap.1 hy
 simp only[List.mem_cons]at hy
 rcases hy with rfl|rfl|hy
 ·exact .r1 ha
 ·exact .r2 ha
 obtain⟨r,hr,rfl⟩:=List.mem_map.1 hy
 obtain⟨z,hz,rfl⟩:=List.mem_map.1 hr
 obtain⟨h1,h2⟩:=List.mem_filter.1 hz
 exact .r10 h1 (of_decide_eq_true h2) ha
theorem gv_ {ps:List Pc} {A:List Str} {a:Str} (ha:a∈A):C_ a a∈eM_ (an_ ps) A∧C_ a [42]∈eM_ (an_ ps) A∧∀ z∈ps,z.kind=7→I_ a z.r a∈eM_ (an_ ps) A:=by
  refine⟨List.mem_flatMap.2 ⟨a,ha,by simp⟩,List.mem_flatMap.2 ⟨a,ha,by simp⟩,fun z hz hk=>List.mem_flatMap.2 ⟨a,ha,?_⟩⟩
  exact List.mem_cons_of_mem _ (List.mem_cons_of_mem _ (List.mem_map.2 ⟨z.r,List.mem_map.2 ⟨z,List.mem_filter.2 ⟨hz,decide_eq_true hk⟩,rfl⟩,rfl⟩))
structure LoopA (ps:List Pc) (A:List Str) (m n:Nat) (q fm:List Fc) (x:Ix):Prop where
  nd:q.Nodup
  len:q.length≤m+1
  le:n≤q.length
  der:∀ y∈q,Der ps A y
  ix:x.of (·∈q.take n) (·∈fm)
  inv:q.length≤m→InvA ps A m n q fm x
section
variable {ps:List Pc} {A:List Str} {m n:Nat} {q fm:List Fc} {x:Ix} {f:Fc}
theorem ns_ (hr:∀ x∈ps,x.vok) {q:List Fc} (hq:emits (bm_ m) (eM_ (an_ ps) A) []=q):LoopA ps A m 0 q [] Ix.nil:=by
 have hmem:∀ y∈q,y∈eM_ (an_ ps) A:=fun y hy=>by rw[← hq]at hy;exact (fM_ m _ _ y hy).elim (fun h=>by simp at h) id
 have hder:∀ y∈q,Der ps A y:=fun y hy=>Der.step (jr_ y (hmem y hy))
 have hnd:q.Nodup:=by rw[← hq];exact hK_ m _ _ List.nodup_nil
 have hix:Ix.nil.of (·∈q.take 0) (·∈([]:List Fc)):=by
   have e:(fun y=>y∈q.take 0)=(fun _=>False):=funext fun y=>by simp
   rw[e];exact Ix.of_nil _
 refine⟨hnd,by rw[← hq];exact mz_ m _ _ (by simp),Nat.zero_le _,hder,hix,fun hl=>⟨hnd,hl,Nat.zero_le _,hder,fun y hy=>(hder y hy).form hr,hix,by simp,fun y hy hk=>?_,fun a ha=>?_,fun y hy=>?_⟩⟩
 ·exfalso
  obtain⟨a,_,h⟩:=List.mem_flatMap.1 (hmem y hy)
  simp only[List.mem_cons]at h
  rcases h with rfl|rfl|h
  ·simp[C_]at hk
  ·simp[C_]at hk
  obtain⟨r,_,rfl⟩:=List.mem_map.1 h
  simp[I_]at hk
 ·obtain⟨g1,g2,g3⟩:=gv_ (ps:=ps) ha
  rw[← hq]at hl ⊢
  exact⟨hL_ m _ _ hl _ g1,hL_ m _ _ hl _ g2,fun z hz hk=>hL_ m _ _ hl _ (g3 z hz hk)⟩
 rw[← hq]at hl
 have B:∀ a∈A,_:=fun a ha=>gv_ (ps:=ps) ha
 have hin:∀ z∈eM_ (an_ ps) A,z∈q:=fun z hz=>by rw[← hq];exact hL_ m _ _ hl z hz
 cases hy with
 | r1 h=>exact hin _ (B _ h).1
 | r2 h=>exact hin _ (B _ h).2.1
 | r10 hx hk h=>exact hin _ ((B _ h).2.2 _ hx hk)
 | r3 hx hk h=>simp at h
 | r4 hx hk h h'=>simp at h
 | r5 hx hk h=>simp at h
 | r6 hx hk h=>simp at h
 | r7 hx hk h h'=>simp at h
 | r8 hx hk h h'=>simp at h
 | r9 h h'=>simp at h
 | r11 hx hk h=>simp at h
 | r12 h h' hm hl=>simp at h
 | r13 h h' hm hl=>simp at h
 | r14 hx hk h h1 h2=>simp at h
theorem cs_ (hr:∀ x∈ps,x.vok) (h:LoopA ps A m n q fm x) (hn:q[n]? = some f) (j:Nat) {s':List Fc×List Fc} (hs:rls (bm_ m) idk (aI_ ps) (x.add (decide (f∈fm)) f) f j (q,fm)=s') :
    s'.1.Nodup∧s'.1.length≤m+1∧(∀ y∈s'.1,Der ps A y)∧∃ t,s'.1=q++t:=by
  have hfq:f∈q:=List.mem_of_getElem? hn
  have hSq:∀ y,(y∈q.take n∨y=f)→y∈q:=fun y hy=>hy.elim (fun h=>List.mem_of_mem_take h) (fun h=>h▸hfq)
  obtain⟨L,hL⟩:=iQ_ (ps:=ps) (x:=x.add (decide (f∈fm)) f) (f:=f) (fb_ m) j (q,fm)
  rw[hs]at hL
  refine⟨by rw[hL];exact hK_ m L q h.nd,by rw[hL];exact mz_ m L q h.len,?_,by rw[hL];exact iI_ m L q⟩
  rw[← hs]
  exact kd_ hr (Ix.of_add h.ix f (by simp)) (fun y hy=>(h.der y (hSq y hy)).form hr) ((h.der f hfq).form hr) (q,fm) hSq hfq h.der j
theorem ic_ (hr:∀ x∈ps,x.vok) (h:LoopA ps A m n q fm x) (hn:q[n]? = some f) {s':List Fc×List Fc} (hs:rls (bm_ m) idk (aI_ ps) (x.add (decide (f∈fm)) f) f (nrl f) (q,fm)=s') (hl:s'.1.length≤m) :
    LoopA ps A m (n+1) s'.1 s'.2 (x.add (decide (f∈fm)) f):=by
  obtain⟨_,_,_,t,ht⟩:=cs_ hr h hn (nrl f) hs
  have hi:=sb_ hr (h.inv (by rw[ht,List.length_append]at hl;omega)) hn hs hl
  exact⟨hi.nd,by have:=hi.len;omega,hi.le,hi.der,hi.ix,fun _=>hi⟩
theorem os_ (h:LoopA ps A m q.length q fm x) (hl:q.length≤m) (y:Fc):Der ps A y↔y∈q:=ny_ (h.inv hl) y
end
theorem zf_eq (x:Pc):∃ n,{ x.zf with frm:=n }=x:=⟨x.frm,rfl⟩
theorem mN_ {p:List Pc} {A:List Str} {y:Fc}:Der (uniq [] p) A y↔Der p A y:=by
 constructor
 ·refine Der.mono (fun x hx=>?_) (fun _ h=>h)
  rcases (io_ p [] x).1 hx with h|⟨z,hz,rfl⟩
  ·simp at h
  exact⟨z,hz,0,rfl⟩
 exact Der.mono (fun x hx=>⟨x.zf,(io_ p [] _).2 (.inr ⟨x,hx,rfl⟩),zf_eq x⟩) (fun _ h=>h)
theorem qG_ {p:List Pc} (h:∀ x∈p,x.vok):∀ x∈uniq [] p,x.vok:=fun x hx=>by
 rcases (io_ p [] x).1 hx with h1|⟨z,hz,rfl⟩
 ·simp at h1
 exact⟨(h z hz).rok,(h z hz).num⟩
def Fc.lt (x y:Fc):Prop:=x.kind<y.kind∨x.kind=y.kind∧(x.a<y.a∨x.a=y.a∧(x.b<y.b∨x.b=y.b∧(x.r<y.r∨x.r=y.r∧(x.lo<y.lo∨x.lo=y.lo∧x.hi<y.hi))))
instance (x y:Fc):Decidable (Fc.lt x y):=by unfold Fc.lt;exact inferInstance
theorem jA_ (x:Str):¬ x<x:=List.lt_irrefl x
theorem mb_ (x y:Str):x<y∨x=y∨y<x:=by
 by_cases h:x<y
 ·exact .inl h
 by_cases h':y<x
 ·exact .inr (.inr h')
 exact .inr (.inl (List.le_antisymm (List.not_lt.1 h') (List.not_lt.1 h)))
theorem Fc.lt_irr (x:Fc):¬ x.lt x:=by
  unfold Fc.lt
  simp[jA_]
theorem Fc.lt_tri (x y:Fc):x.lt y∨x=y∨y.lt x:=by
 unfold Fc.lt
 rcases Int.lt_trichotomy x.kind y.kind with h|h|h
 ·exact .inl (.inl h)
 ·rcases mb_ x.a y.a with h1|h1|h1
  ·exact .inl (.inr ⟨h,.inl h1⟩)
  ·rcases mb_ x.b y.b with h2|h2|h2
   ·exact .inl (.inr ⟨h,.inr ⟨h1,.inl h2⟩⟩)
   ·rcases mb_ x.r y.r with h3|h3|h3
    ·exact .inl (.inr ⟨h,.inr ⟨h1,.inr ⟨h2,.inl h3⟩⟩⟩)
    ·rcases Int.lt_trichotomy x.lo y.lo with h4|h4|h4
     ·exact .inl (.inr ⟨h,.inr ⟨h1,.inr ⟨h2,.inr ⟨h3,.inl h4⟩⟩⟩⟩)
     ·rcases Int.lt_trichotomy x.hi y.hi with h5|h5|h5
      ·exact .inl (.inr ⟨h,.inr ⟨h1,.inr ⟨h2,.inr ⟨h3,.inr ⟨h4,h5⟩⟩⟩⟩⟩)
      ·refine .inr (.inl ?_);cases x;cases y;simp_all
      exact .inr (.inr (.inr ⟨h.symm,.inr ⟨h1.symm,.inr ⟨h2.symm,.inr ⟨h3.symm,.inr ⟨h4.symm,h5⟩⟩⟩⟩⟩))
     exact .inr (.inr (.inr ⟨h.symm,.inr ⟨h1.symm,.inr ⟨h2.symm,.inr ⟨h3.symm,.inl h4⟩⟩⟩⟩))
    exact .inr (.inr (.inr ⟨h.symm,.inr ⟨h1.symm,.inr ⟨h2.symm,.inl h3⟩⟩⟩))
   exact .inr (.inr (.inr ⟨h.symm,.inr ⟨h1.symm,.inl h2⟩⟩))
  exact .inr (.inr (.inr ⟨h.symm,.inl h1⟩))
 exact .inr (.inr (.inl h))
theorem gm_ {α:Type} {lt:α→α→Prop} (ht:∀ {x y z},lt x y→lt y z→lt x z) {x y z:α} {P Q R:Prop} (hr:x=y→y=z→P→Q→R) (h1:lt x y∨x=y∧P) (h2:lt y z∨y=z∧Q):lt x z∨x=z∧R:=by
 rcases h1 with h1|⟨rfl,h1⟩
 ·rcases h2 with h2|⟨rfl,h2⟩
  ·exact .inl (ht h1 h2)
  exact .inl h1
 rcases h2 with h2|⟨rfl,h2⟩
 ·exact .inl h2
 exact .inr ⟨rfl,hr rfl rfl h1 h2⟩
theorem Fc.lt_trans {x y z:Fc} (h1:x.lt y) (h2:y.lt z):x.lt z :=
  gm_ (lt:=fun a b:Int=>a<b) Int.lt_trans (fun _ _=>gm_ (lt:=fun a b:Str=>a<b) List.lt_trans (fun _ _=>gm_ (lt:=fun a b:Str=>a<b) List.lt_trans (fun _ _=>gm_ (lt:=fun a b:Str=>a<b) List.lt_trans (fun _ _=>gm_ (lt:=fun a b:Int=>a<b) Int.lt_trans fun _ _=>Int.lt_trans)))) h1 h2
theorem fw_ {α:Type} {lt:α→α→Prop} (hi:∀ x,¬ lt x x) (ht:∀ {x y z},lt x y→lt y z→lt x z):∀ {l m:List α},l.Pairwise lt→m.Pairwise lt→(∀ x,x∈l↔x∈m)→l=m
 | [],[],_,_,_=>rfl
 | [],y::m,_,_,h=>by have:=(h y).2 (by simp);simp at this
 | x::l,[],_,_,h=>by have:=(h x).1 (by simp);simp at this
 | x::l,y::m,h1,h2,h=>by
   rw[List.pairwise_cons]at h1 h2
   have e:x=y:=by
     rcases List.mem_cons.1 ((h x).1 (by simp)) with e|hx
     · exact e
     · rcases List.mem_cons.1 ((h y).2 (by simp)) with e|hy
       · exact e.symm
       · exact absurd (ht (h1.1 y hy) (h2.1 x hx)) (hi x)
   subst e
   congr 1
   refine fw_ hi ht h1.2 h2.2 fun z=>⟨fun hz=>?_,fun hz=>?_⟩
   · rcases List.mem_cons.1 ((h z).1 (by simp[hz])) with rfl|q
     · exact absurd (h1.1 z hz) (hi z)
     · exact q
   · rcases List.mem_cons.1 ((h z).2 (by simp[hz])) with rfl|q
     · exact absurd (h2.1 z hz) (hi z)
     · exact q
abbrev Srt (l:List Fc):Prop:=l.Pairwise Fc.lt
theorem Srt.ext {l m:List Fc} (h1:Srt l) (h2:Srt m) (h:∀ x,x∈l↔x∈m):l=m:=fw_ Fc.lt_irr Fc.lt_trans h1 h2 h
theorem Srt.nodup {l:List Fc} (h:Srt l):l.Nodup:=by
  unfold List.Nodup
  refine List.Pairwise.imp ?_ h
  intro a b hab e
  exact Fc.lt_irr b (e▸hab)
def fP_ (p:List Pc) (A:List Str) (m:Nat):Option (List Fc)→Prop
  | some L=>Srt L∧(∀ y,y∈L↔Der p A y)∧L.length≤m
  | none=>∃ M:List Fc,M.Nodup∧(∀ y∈M,Der p A y)∧m<M.length
theorem eT_ {α:Type} [DecidableEq α]:∀ {l m:List α},l.Nodup→(∀ x∈l,x∈m)→l.length≤m.length
  | [],m,_,_=>by simp
  | x::l,m,h,hs=>by
    rw[List.nodup_cons]at h
    have:=eT_ (l:=l) (m:=m.erase x) h.2 fun y hy=>by
      have hne:y≠x:=fun e=>h.1 (e▸hy)
      exact (List.mem_erase_of_ne hne).2 (hs y (by simp[hy]))
    have hx:=hs x (by simp)
    rw[List.length_erase_of_mem hx]at this
    have:0<m.length:=List.length_pos_of_mem hx
    simp only[List.length_cons]
    omega
theorem fP_.uniq {p:List Pc} {A:List Str} {m:Nat} {r r':Option (List Fc)} (h:fP_ p A m r) (h':fP_ p A m r'):r=r':=by
  cases r with
  | none =>
    cases r' with
    | none=>rfl
    | some L =>
      obtain⟨M,h1,h2,h3⟩:=h
      obtain⟨_,g2,g3⟩:=h'
      have:=eT_ h1 fun x hx=>(g2 x).2 (h2 x hx)
      omega
  | some L =>
    cases r' with
    | none =>
      obtain⟨M,h1,h2,h3⟩:=h'
      obtain⟨_,g2,g3⟩:=h
      have:=eT_ h1 fun x hx=>(g2 x).2 (h2 x hx)
      omega
    | some L'=>rw[h.1.ext h'.1 fun x=>by rw[h.2.1,h'.2.1]]
end Go.Vs
namespace Go.Vs
open Go Go.Sx
section
variable {ps:List Pc} {A:List Str} {c:List Fc} {x:Ix} {f:Fc}
theorem Cmpl.up {S Fm kn good good':Fc→Prop} (h:Cmpl ps S Fm kn good f) (hg:∀ y,good y→good' y):Cmpl ps S Fm kn good' f :=
  ⟨fun z a h1 h2 h3=>hg _ (h.c3 z a h1 h2 h3),fun z a h1 h2 h3 h4=>hg _ (h.c4 z a h1 h2 h3 h4),fun z a h1 h2 h3 h4=>hg _ (h.c4' z a h1 h2 h3 h4),fun z a h1 h2 h3=>hg _ (h.c5 z a h1 h2 h3),fun z a b h1 h2 h3=>hg _ (h.c6 z a b h1 h2 h3),
   fun z a b c h1 h2 h3 h4=>hg _ (h.c7 z a b c h1 h2 h3 h4),fun z a b c h1 h2 h3 h4=>hg _ (h.c7' z a b c h1 h2 h3 h4),fun z a b h1 h2 h3 h4=>hg _ (h.c8 z a b h1 h2 h3 h4),fun z a b h1 h2 h3 h4=>hg _ (h.c8' z a b h1 h2 h3 h4),fun a r b h1 h2=>hg _ (h.c9 a r b h1 h2),fun a r b h1 h2=>hg _ (h.c9' a r b h1 h2),
   fun z a h1 h2 h3=>hg _ (h.c11 z a h1 h2 h3),fun y h1 h2 h3 h4 h5 h6 h7=>hg _ (h.c12 y h1 h2 h3 h4 h5 h6 h7),fun y h1 h2 h3 h4 h5 h6 h7=>hg _ (h.c13 y h1 h2 h3 h4 h5 h6 h7),fun z a lo hi h1 h2 h3 h4 h5=>hg _ (h.c14 z a lo hi h1 h2 h3 h4 h5)⟩
theorem su_ {good:Fc→Prop} (hb:∀ y∈eM_ (an_ ps) A,good y) (hc:∀ f∈c,Cmpl ps (·∈c) (fun _=>True) (·∈c) good f) {y:Fc} (h:fX_ ps A (·∈c) y):good y:=by
  cases h with
  | r1 h=>exact hb _ (gv_ h).1
  | r2 h=>exact hb _ (gv_ h).2.1
  | r10 hx hk h=>exact hb _ ((gv_ h).2.2 _ hx hk)
  | r3 hx hk h=>exact (hc _ h).c3 _ _ hx hk rfl
  | r4 hx hk h h'=>exact (hc _ h).c4 _ _ hx hk rfl h'
  | r5 hx hk h=>exact (hc _ h).c5 _ _ hx hk rfl
  | r6 hx hk h=>exact (hc _ h).c6 _ _ _ hx hk rfl
  | r7 hx hk h h'=>exact (hc _ h).c7 _ _ _ _ hx hk rfl h'
  | r8 hx hk h h'=>exact (hc _ h).c8 _ _ _ hx hk rfl h'
  | r9 h h'=>exact (hc _ h).c9 _ _ _ rfl h'
  | r11 hx hk h=>exact (hc _ h).c11 _ _ hx hk rfl
  | r12 h h' hm hl=>exact (hc _ h).c12 _ rfl h' rfl rfl rfl (.inl trivial) hl
  | r13 h h' hm hl=>exact (hc _ h).c13 _ rfl h' rfl rfl rfl (.inl trivial) hl
  | r14 hx hk h h1 h2=>exact (hc _ h).c14 _ _ _ _ hx hk rfl h1 h2
end
def eG_ (l:List Fc) (f:Fc):Nat:=l.countP fun y=>decide (y.lt f)
def ow_ (l:List Fc) (f:Fc):List Fc:=if f∈l then l else l.take (eG_ l f)++f::l.drop (eG_ l f)
theorem jh_:∀ {l:List Fc} (f:Fc),Srt l→(∀ y∈l.take (eG_ l f),y.lt f)∧(∀ y∈l.drop (eG_ l f),¬ y.lt f)
 | [],f,_=>by simp[eG_]
 | x::l,f,h=>by
   rw[Srt,List.pairwise_cons]at h
   obtain⟨i1,i2⟩:=jh_ f h.2
   by_cases hx:x.lt f
   · have e:eG_ (x::l) f=eG_ l f+1:=by simp[eG_,hx]
     rw[e]
     simp only[List.take_succ_cons,List.drop_succ_cons]
     exact⟨fun y hy=>(List.mem_cons.1 hy).elim (fun q=>q▸hx) (i1 y),i2⟩
   · have hall:∀ y∈l,¬ y.lt f:=fun y hy q=>hx (Fc.lt_trans (h.1 y hy) q)
     have e:eG_ (x::l) f=0:=by
       simp only[eG_,List.countP_cons,hx,decide_false,Bool.false_eq_true,if_false,Nat.add_zero]
       rw[List.countP_eq_zero]
       intro y hy;simpa using hall y hy
     rw[e]
     simp only[List.take_zero,List.not_mem_nil,false_imp_iff,implies_true,true_and,List.drop_zero]
     intro y hy
     rcases List.mem_cons.1 hy with rfl|hy
     · exact hx
     · exact hall y hy
theorem se_ (l:List Fc) (f y:Fc):y∈ow_ l f↔y∈l∨y=f:=by
 unfold ow_
 split
 ·rename_i h
  exact⟨.inl,fun q=>q.elim id fun e=>e▸h⟩
 have:y∈l↔y∈l.take (eG_ l f)∨y∈l.drop (eG_ l f):=by rw[← List.mem_append,List.take_append_drop]
 rw[this]
 simp only[List.mem_append,List.mem_cons]
 constructor
 ·rintro (h|h|h)
  ·exact .inl (.inl h)
  ·exact .inr h
  exact .inl (.inr h)
 rintro ((h|h)|h)
 ·exact .inl h
 ·exact .inr (.inr h)
 exact .inr (.inl h)
theorem sd_ {l:List Fc} (f:Fc) (h:Srt l):Srt (ow_ l f):=by
 unfold ow_
 split
 ·exact h
 rename_i hn
 obtain⟨h1,h2⟩:=jh_ f h
 have hd:∀ y∈l.drop (eG_ l f),f.lt y:=fun y hy=>by
   rcases Fc.lt_tri f y with q|q|q
   · exact q
   · exact absurd (List.mem_of_mem_drop hy) (q▸hn)
   · exact absurd q (h2 y hy)
 rw[Srt,List.pairwise_append]
 refine⟨h.sublist (List.take_sublist _ _),List.pairwise_cons.2 ⟨hd,h.sublist (List.drop_sublist _ _)⟩,fun a ha b hb=>?_⟩
 rcases List.mem_cons.1 hb with rfl|hb
 ·exact h1 a ha
 exact Fc.lt_trans (h1 a ha) (hd b hb)
def subA (p:List Pc) (l:List Fc) (f:Fc):List Fc:=p.flatMap fun x =>
  if x.kind=1∧x.a=f.b then [C_ f.a x.c]
  else if x.kind=2∧(x.a=f.b∧C_ f.a x.b∈l∨x.b=f.b∧C_ f.a x.a∈l) then [C_ f.a x.c]
  else if x.kind=3∧x.a=f.b then [I_ f.a x.r x.c]
  else if x.kind=8∧x.a=f.b then [T_ f.a x.r x.lo x.hi]
  else []
def subBp (p:List Pc) (f y:Fc):List Fc:=p.flatMap fun x=>if x.kind=4∧x.r=y.r∧x.a=f.b then [C_ y.a x.c] else []
def subB (p:List Pc) (f y:Fc):List Fc:=if y.kind≠2∨y.b≠f.a then [] else (if f.b=[33] then [C_ y.a [33]] else [])++subBp p f y
def subS (p:List Pc) (l:List Fc) (f:Fc):List Fc:=subA p l f++l.flatMap (subB p f)
def oZ_ (x:Pc) (f y:Fc):List Fc:=if y.kind≠2 then [] else (if x.r=f.r∧y.a=f.b∧y.r=x.s then [I_ f.a x.t y.b] else [])++(if x.s=f.r∧y.b=f.a∧y.r=x.r then [I_ y.a x.t f.b] else [])
def lH_ (l:List Fc) (f:Fc) (x:Pc):List Fc :=
  if x.kind=5∧x.r=f.r then [I_ f.a x.t f.b]
  else if x.kind=4∧x.r=f.r∧C_ f.b x.a∈l then [C_ f.a x.c]
  else if x.kind=6 then l.flatMap (oZ_ x f) else []
def um_ (p:List Pc) (l:List Fc) (f:Fc):List Fc:=(if C_ f.b [33]∈l then [C_ f.a [33]] else [])++p.flatMap (lH_ l f)
def mf_ (f y:Fc):List Fc:=if y.kind≠3∨y.a≠f.a∨y.r≠f.r then [] else if max f.lo y.lo≤min f.hi y.hi then [cT_ f y] else [C_ f.a [33]]
def ok_ (f:Fc) (x:Pc):List Fc:=if x.kind=9∧x.r=f.r∧x.lo≤f.lo∧f.hi≤x.hi then [C_ f.a x.c] else []
def rg_ (p:List Pc) (l:List Fc) (f:Fc):List Fc:=l.flatMap (mf_ f)++p.flatMap (ok_ f)
def gb_ (p:List Pc) (l:List Fc) (f:Fc):List Fc:=if f.kind=1 then subS p l f else if f.kind=2 then um_ p l f else rg_ p l f
def iX_ (p:List Pc) (A:List Str):List Fc:=A.flatMap fun a=>C_ a a::C_ a [42]::(p.filter fun x=>decide (x.kind=7)).map fun x=>I_ a x.r a
theorem lN_ (p:List Pc) (A:List Str):iX_ p A=eM_ (an_ p) A:=by
  unfold iX_ eM_ an_
  simp[List.map_map,Function.comp_def]
section
variable {p:List Pc} {A:List Str} {l:List Fc} {f:Fc}
theorem mR_ (hf:f∈l) (hF:∀ y∈l,y.form):∀ y∈gb_ p l f,fX_ p A (·∈l) y:=by
 have hff:=hF f hf
 have hk:=gp_ hff
 intro y hy
 unfold gb_ at hy
 split at hy
 ·rename_i h1
  have ef:=jk_ hff h1
  rcases List.mem_append.1 hy with hy|hy
  ·obtain⟨x,hx,hy⟩:=List.mem_flatMap.1 hy
   split at hy
   ·rename_i hc
    simp at hy;subst hy
    exact .r3 hx hc.1 (by rw[hc.2,← ef];exact hf)
   split at hy
   ·rename_i hc
    simp at hy;subst hy
    rcases hc.2 with h|h
    ·exact .r4 hx hc.1 (by rw[h.1,← ef];exact hf) h.2
    exact .r4 hx hc.1 h.2 (by rw[h.1,← ef];exact hf)
   split at hy
   ·rename_i hc
    simp at hy;subst hy
    exact .r5 hx hc.1 (by rw[hc.2,← ef];exact hf)
   split at hy
   ·rename_i hc
    simp at hy;subst hy
    exact .r11 hx hc.1 (by rw[hc.2,← ef];exact hf)
   simp at hy
  obtain⟨g,hg,hy⟩:=List.mem_flatMap.1 hy
  unfold subB at hy
  split at hy
  ·simp at hy
  rename_i hc
  simp only[not_or,Decidable.not_not]at hc
  have eg:=(hm_ (hF g hg) hc.1).1
  rcases List.mem_append.1 hy with hy|hy
  ·split at hy
   ·rename_i hb
    simp at hy;subst hy
    exact .r9 (r:=g.r) (b:=g.b) (by rw[← eg];exact hg) (by rw[hc.2,← hb,← ef];exact hf)
   simp at hy
  obtain⟨x,hx,hy⟩:=List.mem_flatMap.1 hy
  split at hy
  ·rename_i hd
   simp at hy;subst hy
   exact .r8 (b:=g.b) hx hd.1 (by rw[hd.2.1,← eg];exact hg) (by rw[hc.2,hd.2.2,← ef];exact hf)
  simp at hy
 split at hy
 ·rename_i h2
  have ef:=(hm_ hff h2).1
  rcases List.mem_append.1 hy with hy|hy
  ·split at hy
   ·rename_i hb
    simp at hy;subst hy
    exact .r9 (r:=f.r) (b:=f.b) (by rw[← ef];exact hf) hb
   simp at hy
  obtain⟨x,hx,hy⟩:=List.mem_flatMap.1 hy
  unfold lH_ at hy
  split at hy
  ·rename_i hc
   simp at hy;subst hy
   exact .r6 hx hc.1 (by rw[hc.2,← ef];exact hf)
  split at hy
  ·rename_i hc
   simp at hy;subst hy
   exact .r8 (b:=f.b) hx hc.1 (by rw[hc.2.1,← ef];exact hf) hc.2.2
  split at hy
  ·rename_i hc
   obtain⟨g,hg,hy⟩:=List.mem_flatMap.1 hy
   unfold oZ_ at hy
   split at hy
   ·simp at hy
   rename_i hgk
   have eg:=(hm_ (hF g hg) (Decidable.not_not.1 hgk)).1
   rcases List.mem_append.1 hy with hy|hy
   ·split at hy
    ·rename_i hd
     simp at hy;subst hy
     exact .r7 (b:=f.b) hx hc (by rw[hd.1,← ef];exact hf) (by rw[← hd.2.2,← hd.2.1,← eg];exact hg)
    simp at hy
   split at hy
   ·rename_i hd
    simp at hy;subst hy
    exact .r7 (b:=f.a) hx hc (by rw[← hd.2.2,← hd.2.1,← eg];exact hg) (by rw[hd.1,← ef];exact hf)
   simp at hy
  simp at hy
 rename_i h1 h2
 have h3:f.kind=3:=by omega
 have ef:=(gq_ hff h3).1
 rcases List.mem_append.1 hy with hy|hy
 ·obtain⟨g,hg,hy⟩:=List.mem_flatMap.1 hy
  unfold mf_ at hy
  split at hy
  ·simp at hy
  rename_i hc
  simp only[not_or,Decidable.not_not]at hc
  have eg:=(gq_ (hF g hg) hc.1).1
  rw[hc.2.1,hc.2.2]at eg
  split at hy
  ·rename_i hl
   simp at hy;subst hy
   exact .r12 (by rw[← ef];exact hf) (by rw[← eg];exact hg) trivial hl
  rename_i hl
  simp at hy;subst hy
  exact .r13 (r:=f.r) (by rw[← ef];exact hf) (by rw[← eg];exact hg) trivial (Int.not_le.1 hl)
 obtain⟨x,hx,hy⟩:=List.mem_flatMap.1 hy
 unfold ok_ at hy
 split at hy
 ·rename_i hc
  simp at hy;subst hy
  exact .r14 hx hc.1 (by rw[hc.2.1,← ef];exact hf) hc.2.2.1 hc.2.2.2
 simp at hy
theorem od_:Cmpl p (·∈l) (fun _=>True) (·∈l) (·∈gb_ p l f) f:=by
 have s1:∀ {a b y},f=C_ a b→(y∈subS p l f)→y∈gb_ p l f:=fun e h=>by unfold gb_;rw[if_pos (by rw[e];rfl)];exact h
 have s2:∀ {a r b y},f=I_ a r b→(y∈um_ p l f)→y∈gb_ p l f:=fun e h=>by unfold gb_;rw[if_neg (by rw[e];simp[I_]),if_pos (by rw[e];rfl)];exact h
 have s3:∀ {y},f.kind=3→(y∈rg_ p l f)→y∈gb_ p l f:=fun e h=>by unfold gb_;rw[if_neg (by rw[e];decide),if_neg (by rw[e];decide)];exact h
 refine⟨?_,?_,?_,?_,?_,?_,?_,?_,?_,?_,?_,?_,?_,?_,?_⟩
 ·intro z a hz hk e
  refine s1 e (List.mem_append_left _ (List.mem_flatMap.2 ⟨z,hz,?_⟩))
  rw[e,if_pos ⟨hk,rfl⟩];simp[C_]
 ·intro z a hz hk e h
  refine s1 e (List.mem_append_left _ (List.mem_flatMap.2 ⟨z,hz,?_⟩))
  rw[e,if_neg (by rw[hk];simp),if_pos ⟨hk,.inl ⟨rfl,h⟩⟩];simp[C_]
 ·intro z a hz hk e h
  refine s1 e (List.mem_append_left _ (List.mem_flatMap.2 ⟨z,hz,?_⟩))
  rw[e,if_neg (by rw[hk];simp),if_pos ⟨hk,.inr ⟨rfl,h⟩⟩];simp[C_]
 ·intro z a hz hk e
  refine s1 e (List.mem_append_left _ (List.mem_flatMap.2 ⟨z,hz,?_⟩))
  rw[e,if_neg (by rw[hk];simp),if_neg (by rw[hk];simp),if_pos ⟨hk,rfl⟩];simp[C_]
 ·intro z a b hz hk e
  refine s2 e (List.mem_append_right _ (List.mem_flatMap.2 ⟨z,hz,?_⟩))
  rw[e,lH_,if_pos ⟨hk,rfl⟩];simp[I_]
 ·intro z a b c hz hk e h
  refine s2 e (List.mem_append_right _ (List.mem_flatMap.2 ⟨z,hz,?_⟩))
  rw[e,lH_,if_neg (by rw[hk];simp),if_neg (by rw[hk];simp),if_pos hk]
  refine List.mem_flatMap.2 ⟨_,h,?_⟩
  rw[oZ_,if_neg (by simp[I_])]
  refine List.mem_append_left _ ?_
  rw[if_pos ⟨rfl,rfl,rfl⟩];simp[I_]
 ·intro z a b c hz hk e h
  refine s2 e (List.mem_append_right _ (List.mem_flatMap.2 ⟨z,hz,?_⟩))
  rw[e,lH_,if_neg (by rw[hk];simp),if_neg (by rw[hk];simp),if_pos hk]
  refine List.mem_flatMap.2 ⟨_,h,?_⟩
  rw[oZ_,if_neg (by simp[I_])]
  refine List.mem_append_right _ ?_
  rw[if_pos ⟨rfl,rfl,rfl⟩];simp[I_]
 ·intro z a b hz hk e h
  refine s2 e (List.mem_append_right _ (List.mem_flatMap.2 ⟨z,hz,?_⟩))
  rw[e,lH_,if_neg (by rw[hk];simp),if_pos ⟨hk,rfl,h⟩];simp[I_]
 ·intro z a b hz hk e h
  refine s1 e (List.mem_append_right _ (List.mem_flatMap.2 ⟨_,h,?_⟩))
  rw[subB,if_neg (by rw[e];simp[I_,C_])]
  refine List.mem_append_right _ (List.mem_flatMap.2 ⟨z,hz,?_⟩)
  rw[e,if_pos ⟨hk,rfl,rfl⟩];simp[I_]
 ·intro a r b e h
  refine s2 e (List.mem_append_left _ ?_)
  rw[e,if_pos (show C_ (I_ a r b).b [33]∈l from h)];simp[I_]
 ·intro a r b e h
  refine s1 e (List.mem_append_right _ (List.mem_flatMap.2 ⟨_,h,?_⟩))
  rw[subB,if_neg (by rw[e];simp[I_,C_])]
  refine List.mem_append_left _ ?_
  rw[e,if_pos (show (C_ b [33]).b=[33] from rfl)];simp[I_]
 ·intro z a hz hk e
  refine s1 e (List.mem_append_left _ (List.mem_flatMap.2 ⟨z,hz,?_⟩))
  rw[e,if_neg (by rw[hk];simp),if_neg (by rw[hk];simp),if_neg (by rw[hk];simp),if_pos ⟨hk,rfl⟩];simp[C_]
 ·intro y h3 hy hk ha hr _ hl
  refine s3 h3 (List.mem_append_left _ (List.mem_flatMap.2 ⟨y,hy,?_⟩))
  rw[mf_,if_neg (by simp[hk,ha,hr]),if_pos hl];simp
 ·intro y h3 hy hk ha hr _ hl
  refine s3 h3 (List.mem_append_left _ (List.mem_flatMap.2 ⟨y,hy,?_⟩))
  rw[mf_,if_neg (by simp[hk,ha,hr]),if_neg (Int.not_le.2 hl)];simp
 intro z a lo hi hz hk e h1 h2
 refine s3 (by rw[e];rfl) (List.mem_append_right _ (List.mem_flatMap.2 ⟨z,hz,?_⟩))
 rw[e,ok_,if_pos ⟨hk,rfl,h1,h2⟩];simp[T_]
theorem nl_ (hF:∀ y∈l,y.form) (y:Fc):y∈iX_ p A++l.flatMap (fun f=>gb_ p l f)↔fX_ p A (·∈l) y:=by
 constructor
 ·intro hy
  rcases List.mem_append.1 hy with hy|hy
  ·rw[lN_]at hy;exact jr_ y hy
  obtain⟨f,hf,hy⟩:=List.mem_flatMap.1 hy
  exact mR_ hf hF y hy
 intro hy
 refine su_ (c:=l) (good:=fun y=>y∈iX_ p A++l.flatMap (fun f=>gb_ p l f)) (fun y hy=>List.mem_append_left _ (by rw[lN_];exact hy)) (fun f hf=>?_) hy
 exact od_.up fun y hy=>List.mem_append_right _ (List.mem_flatMap.2 ⟨f,hf,hy⟩)
end
def grow1 (p:List Pc) (A:List Str) (l:List Fc):List Fc:=(iX_ p A++l.flatMap (fun f=>gb_ p l f)).foldl ow_ l
def kR_ (p:List Pc) (A:List Str):Nat→List Fc
  | 0=>[]
  | n+1=>grow1 p A (kR_ p A n)
theorem kA_:∀ (xs l:List Fc) (y:Fc),y∈xs.foldl ow_ l↔y∈l∨y∈xs
 | [],l,y=>by simp
 | x::xs,l,y=>by
   rw[List.foldl_cons,kA_ xs,se_]
   simp only[List.mem_cons]
   constructor
   · rintro ((h|h)|h)
     · exact .inl h
     · exact .inr (.inl h)
     · exact .inr (.inr h)
   · rintro (h|h|h)
     · exact .inl (.inl h)
     · exact .inl (.inr h)
     · exact .inr h
theorem kz_:∀ (xs:List Fc) {l:List Fc},Srt l→Srt (xs.foldl ow_ l)
  | [],_,h=>h
  | x::xs,_,h=>kz_ xs (sd_ x h)
theorem nM_ (p:List Pc) (A:List Str):∀ n,Srt (kR_ p A n)
  | 0=>List.Pairwise.nil
  | n+1=>kz_ _ (nM_ p A n)
theorem kQ_ {p:List Pc} {A:List Str} (hp:∀ x∈p,x.vok):∀ n,∀ y∈kR_ p A n,Der p A y
 | 0,y,hy=>by simp[kR_]at hy
 | n+1,y,hy=>by
   have ih:=kQ_ (A:=A) hp n
   rcases (kA_ _ _ y).1 hy with h|h
   · exact ih y h
   · exact Der.step (((nl_ (fun z hz=>(ih z hz).form hp) y).1 h).mono (fun x hx=>⟨x,hx,x.frm,rfl⟩) (fun _ h=>h) ih (fun _ _ h=>h))
theorem nN_ {p:List Pc} {A:List Str} (hp:∀ x∈p,x.vok) (n m:Nat) (hc:((iX_ p A++(kR_ p A n).flatMap (fun f=>gb_ p (kR_ p A n) f)).all fun y=>decide (y∈kR_ p A n))=true) (hl:(kR_ p A n).length≤m):fP_ p A m (some (kR_ p A n)):=by
  refine⟨nM_ p A n,fun y=>⟨kQ_ hp n y,fun h=>h.least fun z hz=>?_⟩,hl⟩
  exact of_decide_eq_true (List.all_eq_true.1 hc z ((nl_ (fun w hw=>(kQ_ hp n w hw).form hp) z).2 hz))
end Go.Vs
namespace Go.Vs
open Go Go.Sx
structure Stp where
  rule:Int
  fact:Fc
  piece:Int
  ad:Option Addr
  cap:Nat
  frm:List Int
def Stp.cells (s:Stp):List Value:=[.int .i64 s.rule,.int .i64 s.fact.kind,str s.fact.a,str s.fact.b,str s.fact.r,.int .i64 s.fact.lo,.int .i64 s.fact.hi,.int .i64 s.piece,.slice s.ad s.frm.length s.cap]
theorem Stp.cells_len (s:Stp):s.cells.length=9:=rfl
def Stp.val (s:Stp):Value:=.agg s.cells.toArray
theorem Stp.fact_cells (s:Stp) (j:Nat) (y:Value) (h:(Fc.cells s.fact)[j]? = some y):s.cells[1+j]? = some y:=by
  match j,h with
  | 0,h=>exact h
  | 1,h=>exact h
  | 2,h=>exact h
  | 3,h=>exact h
  | 4,h=>exact h
  | 5,h=>exact h
  | n+6,h=>simp[Fc.cells]at h
def ax_ (l:List Stp):Fct where
  p v:=∀ s∈l,bv_ v s.ad (s.frm.flatMap N_)
  mono v v' h hp s hs:=(af_ s.ad (s.frm.flatMap N_)).mono v v' h (hp s hs)
theorem fv_ {l:List Stp} {s:Stp} {v:Vw} (h:(ax_ l).p v) (hs:bv_ v s.ad (s.frm.flatMap N_)):(ax_ (l++[s])).p v:=fun x hx=>by
 rcases List.mem_append.1 hx with hx|hx
 ·exact h x hx
 rw[List.mem_singleton]at hx;subst hx;exact hs
theorem ln_ {l m:List Stp} {v:Vw} (h:(ax_ m).p v) (hs:∀ x∈l,x∈m):(ax_ l).p v:=fun x hx=>h x (hs x hx)
theorem dO_ {v:Vw}:(ax_ []).p v:=fun x hx=>by simp at hx
def fcs (l:List Stp):List Fc:=l.map (·.fact)
theorem cA_ (l m:List Stp):fcs (l++m)=fcs l++fcs m:=by simp[fcs]
theorem iH_ (l:List Stp):(fcs l).length=l.length:=by simp[fcs]
def At (l:List Stp) (m:Nat) (f:Fc):Prop:=∃ s,l[m]? = some s∧s.fact=f
theorem At.lt {l:List Stp} {m:Nat} {f:Fc} (h:At l m f):m<l.length:=by
  obtain⟨s,h,_⟩:=h;exact (List.getElem?_eq_some_iff.1 h).1
theorem At.mem {l:List Stp} {m:Nat} {f:Fc} (h:At l m f):f∈fcs l:=by
  obtain⟨s,h,rfl⟩:=h;exact List.mem_map_of_mem (List.mem_of_getElem? h)
theorem At.pre {l l':List Stp} {m:Nat} {f:Fc} (h:At l m f) (hp:l <+: l'):At l' m f:=by
  obtain⟨t,rfl⟩:=hp;obtain⟨s,h,e⟩:=h
  exact⟨s,by rw[List.getElem?_append_left (List.getElem?_eq_some_iff.1 h).1];exact h,e⟩
theorem At.take {l:List Stp} {m n:Nat} {f:Fc} (h:At l m f) (hn:m<n):At (l.take n) m f:=by
  obtain⟨s,h,e⟩:=h;exact⟨s,by rw[List.getElem?_take_of_lt hn];exact h,e⟩
theorem gx_ {l:List Stp} {f:Fc} (h:f∈fcs l):∃ m,At l m f:=by
  obtain⟨s,hs,rfl⟩:=List.mem_map.1 h
  obtain⟨i,hi⟩:=List.getElem?_of_mem hs
  exact⟨i,s,hi,rfl⟩
inductive Cor (p:List Pc) (A:List Str) (l:List Stp):Int→Fc→Int→List Int→Prop
  | r1 {a:Str} (h:a∈A):Cor p A l 1 (C_ a a) (-1) []
  | r2 {a:Str} (h:a∈A):Cor p A l 2 (C_ a [42]) (-1) []
  | r10 {a:Str} {x:Pc} {i:Nat} (hx:p[i]? = some x) (hk:x.kind=7) (h:a∈A):Cor p A l 10 (I_ a x.r a) i []
  | r3 {a:Str} {x:Pc} {i m:Nat} (hx:p[i]? = some x) (hk:x.kind=1) (h:At l m (C_ a x.a)):Cor p A l 3 (C_ a x.c) i [(m:Int)]
  | r4 {a:Str} {x:Pc} {i m k:Nat} (hx:p[i]? = some x) (hk:x.kind=2) (h:At l m (C_ a x.a)) (h':At l k (C_ a x.b)):Cor p A l 4 (C_ a x.c) i [(m:Int),(k:Int)]
  | r5 {a:Str} {x:Pc} {i m:Nat} (hx:p[i]? = some x) (hk:x.kind=3) (h:At l m (C_ a x.a)):Cor p A l 5 (I_ a x.r x.c) i [(m:Int)]
  | r6 {a b:Str} {x:Pc} {i m:Nat} (hx:p[i]? = some x) (hk:x.kind=5) (h:At l m (I_ a x.r b)):Cor p A l 6 (I_ a x.t b) i [(m:Int)]
  | r7 {a b c:Str} {x:Pc} {i m k:Nat} (hx:p[i]? = some x) (hk:x.kind=6) (h:At l m (I_ a x.r b)) (h':At l k (I_ b x.s c)):Cor p A l 7 (I_ a x.t c) i [(m:Int),(k:Int)]
  | r8 {a b:Str} {x:Pc} {i m k:Nat} (hx:p[i]? = some x) (hk:x.kind=4) (h:At l m (I_ a x.r b)) (h':At l k (C_ b x.a)):Cor p A l 8 (C_ a x.c) i [(m:Int),(k:Int)]
  | r9 {a r b:Str} {m k:Nat} (h:At l m (I_ a r b)) (h':At l k (C_ b [33])):Cor p A l 9 (C_ a [33]) (-1) [(m:Int),(k:Int)]
  | r11 {a:Str} {x:Pc} {i m:Nat} (hx:p[i]? = some x) (hk:x.kind=8) (h:At l m (C_ a x.a)):Cor p A l 11 (T_ a x.r x.lo x.hi) i [(m:Int)]
  | r12 {a r:Str} {lo hi lo' hi':Int} {m k:Nat} (h:At l m (T_ a r lo hi)) (h':At l k (T_ a r lo' hi')) (hl:max lo lo'≤min hi hi'):Cor p A l 12 (T_ a r (max lo lo') (min hi hi')) (-1) [(m:Int),(k:Int)]
  | r13 {a r:Str} {lo hi lo' hi':Int} {m k:Nat} (h:At l m (T_ a r lo hi)) (h':At l k (T_ a r lo' hi')) (hl:min hi hi'<max lo lo'):Cor p A l 13 (C_ a [33]) (-1) [(m:Int),(k:Int)]
  | r14 {a:Str} {lo hi:Int} {x:Pc} {i m:Nat} (hx:p[i]? = some x) (hk:x.kind=9) (h:At l m (T_ a x.r lo hi)) (h1:x.lo≤lo) (h2:hi≤x.hi):Cor p A l 14 (C_ a x.c) i [(m:Int)]
  | r15 {f:Fc} {m:Nat} (h:At l m (C_ f.a [33])):Cor p A l 15 f (-1) [(m:Int)]
  | r16 {a r:Str} {lo hi lo' hi':Int} {m:Nat} (h:At l m (T_ a r lo hi)) (h1:lo'≤lo) (h2:hi≤hi'):Cor p A l 16 (T_ a r lo' hi') (-1) [(m:Int)]
theorem Cor.map {p p':List Pc} {A A':List Str} {l l':List Stp} {g:Int→Int} (hg:∀ (m:Nat) f,At l m f→∃ k:Nat,g (m:Int)=k∧At l' k f) (hA:∀ a∈A,a∈A') (hp:∀ (i:Nat) x,p[i]? = some x→p'[i]? = some x)
    {r:Int} {f:Fc} {i:Int} {fr:List Int} (h:Cor p A l r f i fr):Cor p' A' l' r f i (fr.map g):=by
  cases h with
  | r1 h=>exact .r1 (hA _ h)
  | r2 h=>exact .r2 (hA _ h)
  | r10 hx hk h=>exact .r10 (hp _ _ hx) hk (hA _ h)
  | r3 hx hk h=>obtain⟨k,e,h⟩:=hg _ _ h;rw[List.map_cons,e];exact .r3 (hp _ _ hx) hk h
  | r4 hx hk h h'=>obtain⟨k,e,h⟩:=hg _ _ h;obtain⟨k',e',h'⟩:=hg _ _ h';rw[List.map_cons,List.map_cons,e,e'];exact .r4 (hp _ _ hx) hk h h'
  | r5 hx hk h=>obtain⟨k,e,h⟩:=hg _ _ h;rw[List.map_cons,e];exact .r5 (hp _ _ hx) hk h
  | r6 hx hk h=>obtain⟨k,e,h⟩:=hg _ _ h;rw[List.map_cons,e];exact .r6 (hp _ _ hx) hk h
  | r7 hx hk h h'=>obtain⟨k,e,h⟩:=hg _ _ h;obtain⟨k',e',h'⟩:=hg _ _ h';rw[List.map_cons,List.map_cons,e,e'];exact .r7 (hp _ _ hx) hk h h'
  | r8 hx hk h h'=>obtain⟨k,e,h⟩:=hg _ _ h;obtain⟨k',e',h'⟩:=hg _ _ h';rw[List.map_cons,List.map_cons,e,e'];exact .r8 (hp _ _ hx) hk h h'
  | r9 h h'=>obtain⟨k,e,h⟩:=hg _ _ h;obtain⟨k',e',h'⟩:=hg _ _ h';rw[List.map_cons,List.map_cons,e,e'];exact .r9 h h'
  | r11 hx hk h=>obtain⟨k,e,h⟩:=hg _ _ h;rw[List.map_cons,e];exact .r11 (hp _ _ hx) hk h
  | r12 h h' hl=>obtain⟨k,e,h⟩:=hg _ _ h;obtain⟨k',e',h'⟩:=hg _ _ h';rw[List.map_cons,List.map_cons,e,e'];exact .r12 h h' hl
  | r13 h h' hl=>obtain⟨k,e,h⟩:=hg _ _ h;obtain⟨k',e',h'⟩:=hg _ _ h';rw[List.map_cons,List.map_cons,e,e'];exact .r13 h h' hl
  | r14 hx hk h h1 h2=>obtain⟨k,e,h⟩:=hg _ _ h;rw[List.map_cons,e];exact .r14 (hp _ _ hx) hk h h1 h2
  | r15 h=>obtain⟨k,e,h⟩:=hg _ _ h;rw[List.map_cons,e];exact .r15 h
  | r16 h h1 h2=>obtain⟨k,e,h⟩:=hg _ _ h;rw[List.map_cons,e];exact .r16 h h1 h2
theorem Cor.pre {p:List Pc} {A:List Str} {l l':List Stp} (hl:l <+: l') {r:Int} {f:Fc} {i:Int} {fr:List Int} (h:Cor p A l r f i fr):Cor p A l' r f i fr:=by
  have:=h.map (l':=l') (g:=id) (fun m f hm=>⟨m,rfl,hm.pre hl⟩) (fun _ h=>h) (fun _ _ h=>h)
  rwa [List.map_id]at this
theorem Cor.prem {p:List Pc} {A:List Str} {l:List Stp} {r:Int} {f:Fc} {i:Int} {fr:List Int} (h:Cor p A l r f i fr):∀ x∈fr,0≤x∧x<l.length:=by
  intro x hx
  have one:∀ {m:Nat} {g:Fc},At l m g→x=(m:Int)→0≤x∧x<l.length:=fun h e=>by have:=h.lt;omega
  have two:∀ {m k:Nat} {g g':Fc},At l m g→At l k g'→x∈[(m:Int),(k:Int)]→0≤x∧x<l.length:=by
    intro m k g g' h h' e
    simp only[List.mem_cons,List.not_mem_nil,or_false]at e
    exact e.elim (one h) (one h')
  cases h with
  | r1 h=>simp at hx
  | r2 h=>simp at hx
  | r10 hx' hk h=>simp at hx
  | r3 hx' hk h=>exact one h (by simpa using hx)
  | r4 hx' hk h h'=>exact two h h' hx
  | r5 hx' hk h=>exact one h (by simpa using hx)
  | r6 hx' hk h=>exact one h (by simpa using hx)
  | r7 hx' hk h h'=>exact two h h' hx
  | r8 hx' hk h h'=>exact two h h' hx
  | r9 h h'=>exact two h h' hx
  | r11 hx' hk h=>exact one h (by simpa using hx)
  | r12 h h' hl=>exact two h h' hx
  | r13 h h' hl=>exact two h h' hx
  | r14 hx' hk h h1 h2=>exact one h (by simpa using hx)
  | r15 h=>exact one h (by simpa using hx)
  | r16 h h1 h2=>exact one h (by simpa using hx)
theorem Cor.two {p:List Pc} {A:List Str} {l:List Stp} {r:Int} {f:Fc} {i:Int} {fr:List Int} (h:Cor p A l r f i fr):fr.length≤2:=by cases h<;>simp
theorem Cor.one {p:List Pc} {A:List Str} {l:List Stp} {r:Int} {f:Fc} {i:Int} {fr:List Int} (h:Cor p A l r f i fr) (hr:r≤14):fX_ p A (·∈fcs l) f:=by
  cases h with
  | r1 h=>exact .r1 h
  | r2 h=>exact .r2 h
  | r10 hx hk h=>exact .r10 (List.mem_of_getElem? hx) hk h
  | r3 hx hk h=>exact .r3 (List.mem_of_getElem? hx) hk h.mem
  | r4 hx hk h h'=>exact .r4 (List.mem_of_getElem? hx) hk h.mem h'.mem
  | r5 hx hk h=>exact .r5 (List.mem_of_getElem? hx) hk h.mem
  | r6 hx hk h=>exact .r6 (List.mem_of_getElem? hx) hk h.mem
  | r7 hx hk h h'=>exact .r7 (List.mem_of_getElem? hx) hk h.mem h'.mem
  | r8 hx hk h h'=>exact .r8 (List.mem_of_getElem? hx) hk h.mem h'.mem
  | r9 h h'=>exact .r9 h.mem h'.mem
  | r11 hx hk h=>exact .r11 (List.mem_of_getElem? hx) hk h.mem
  | r12 h h' hl=>exact .r12 h.mem h'.mem trivial hl
  | r13 h h' hl=>exact .r13 h.mem h'.mem trivial hl
  | r14 hx hk h h1 h2=>exact .r14 (List.mem_of_getElem? hx) hk h.mem h1 h2
  | r15 h=>omega
  | r16 h h1 h2=>omega
structure Eng (p:List Pc) (A:List Str) (l:List Stp):Prop where
  nd:(fcs l).Nodup
  cor:∀ (n:Nat) s,l[n]? = some s→Cor p A (l.take n) s.rule s.fact s.piece s.frm∧s.rule≤14
theorem Eng.nil (p:List Pc) (A:List Str):Eng p A []:=⟨by simp[fcs],fun n s h=>by simp at h⟩
theorem eR_ {l l':List Stp} {n:Nat} (h:l <+: l') (hn:n≤l.length):l'.take n=l.take n:=by
  obtain⟨t,rfl⟩:=h;rw[List.take_append_of_le_length hn]
theorem dR_ {l l':List Stp} {n:Nat} {s:Stp} (h:l <+: l') (hs:l[n]? = some s):l'[n]? = some s:=by
  obtain⟨t,rfl⟩:=h;rw[List.getElem?_append_left (List.getElem?_eq_some_iff.1 hs).1];exact hs
theorem ai_ {l l':List Stp} (h:l <+: l') {f:Fc} (hf:f∈fcs l):f∈fcs l':=by
  obtain⟨t,rfl⟩:=h;rw[cA_];exact List.mem_append_left _ hf
def ii_ (l:List Stp) (s:Stp):List Stp:=if s.fact∈fcs l then l else l++[s]
theorem sI_ (l:List Stp) (s:Stp):l <+: ii_ l s:=by
 unfold ii_;split
 ·exact List.prefix_refl _
 exact List.prefix_append _ _
theorem sJ_ (l:List Stp) (s:Stp):s.fact∈fcs (ii_ l s):=by
 unfold ii_;split
 ·assumption
 rw[cA_];simp[fcs]
theorem Eng.add {p:List Pc} {A:List Str} {l:List Stp} (h:Eng p A l) {s:Stp} (hs:Cor p A l s.rule s.fact s.piece s.frm) (hr:s.rule≤14):Eng p A (ii_ l s):=by
 unfold ii_;split
 ·exact h
 rename_i hn
 refine⟨?_,fun n t ht=>?_⟩
 ·rw[cA_,List.nodup_append]
  exact⟨h.nd,by simp[fcs],fun a ha b hb e=>by simp[fcs]at hb;subst hb;subst e;exact hn ha⟩
 by_cases hl:n<l.length
 ·rw[List.getElem?_append_left hl]at ht
  rw[List.take_append_of_le_length (by omega)]
  exact h.cor n t ht
 have e:n=l.length:=by have:=(List.getElem?_eq_some_iff.1 ht).1;simp at this;omega
 subst e
 rw[List.getElem?_append_right (by omega)]at ht
 simp at ht
 subst ht
 rw[List.take_left]
 exact⟨hs,hr⟩
theorem Eng.der {p:List Pc} {A:List Str} {l:List Stp} (h:Eng p A l):∀ f∈fcs l,Der p A f:=by
 have key:∀ k,∀ f∈fcs (l.take k),Der p A f:=by
   intro k
   induction k with
   | zero=>intro f hf;simp[fcs]at hf
   | succ k ih =>
     intro f hf
     rw[List.take_add_one,cA_,List.mem_append]at hf
     rcases hf with hf|hf
     · exact ih f hf
     · cases hk:l[k]? with
       | none=>rw[hk]at hf;simp[fcs]at hf
       | some s =>
         rw[hk]at hf
         simp[fcs]at hf
         subst hf
         obtain⟨c,hr⟩:=h.cor k s hk
         exact Der.step ((c.one hr).mono (fun x hx=>⟨x,hx,x.frm,rfl⟩) (fun _ h=>h) (fun z hz=>ih z hz) (fun _ _ h=>h))
 intro f hf
 exact key l.length f (by rw[List.take_length];exact hf)
theorem Eng.len {p:List Pc} {A:List Str} {l:List Stp} {L:List Fc} (h:Eng p A l) (hL:∀ y,Der p A y→y∈L):l.length≤L.length:=by
  rw[← iH_];exact eT_ h.nd fun x hx=>hL x (h.der x hx)
theorem Eng.at {p:List Pc} {A:List Str} {l:List Stp} (h:Eng p A l) {m k:Nat} {f:Fc} (hm:At l m f) (hk:At l k f):m=k:=by
  obtain⟨s,hs,e⟩:=hm;obtain⟨t,ht,e'⟩:=hk
  have h1:(fcs l)[m]? = some f:=by unfold fcs;rw[List.getElem?_map,hs,Option.map_some,e]
  have h2:(fcs l)[k]? = some f:=by unfold fcs;rw[List.getElem?_map,ht,Option.map_some,e']
  exact (List.getElem?_inj (List.getElem?_eq_some_iff.1 h1).choose h.nd).1 (h1.trans h2.symm)
def kys (x:Pc):List Ky:=(bZ_ x++if x.kind=7 then [(Ky.mk 7 [] [],x)] else []).map (·.1)
structure Fnd (p:List Pc) (fm:List (Ky×Int)):Prop where
  snd:∀ k m,(k,m)∈fm→∃ (i:Nat) (x:Pc),m=i∧p[i]? = some x∧k∈kys x
  all:∀ z∈p,∃ (i:Nat) (x:Pc),p[i]? = some x∧x.zf=z.zf∧∀ k∈kys z,(k,(i:Int))∈fm
  len:fm.length≤2*p.length
theorem ee_ {x z:Pc} (h:x.zf=z.zf):x.kind=z.kind∧x.a=z.a∧x.b=z.b∧x.c=z.c∧x.r=z.r∧x.s=z.s∧x.t=z.t∧x.lo=z.lo∧x.hi=z.hi:=by
  unfold Pc.zf at h;injection h with h1 h2 h3 h4 h5 h6 h7 h8 h9 _;exact⟨h1,h2,h3,h4,h5,h6,h7,h8,h9⟩
def Und (p:List Pc) (fm:List (Ky×Int)) (k:Ky) (Q:Pc→Prop):Prop:=∀ m∈lat fm k,∀ x,p[m.toNat]? = some x→Q x
theorem Und.all {p:List Pc} {fm:List (Ky×Int)} (h:Fnd p fm) {k:Ky} {Q:Pc→Prop} (hu:Und p fm k Q) {z:Pc} (hz:z∈p) (hk:k∈kys z):∃ x,x.zf=z.zf∧Q x:=by
  obtain⟨i,x,h1,h2,h3⟩:=h.all z hz
  exact⟨x,h2,hu i (bb_.2 (h3 k hk)) x (by simpa using h1)⟩
theorem Fnd.get {p:List Pc} {fm:List (Ky×Int)} (h:Fnd p fm) {k:Ky} {m:Int} (hm:m∈lat fm k):∃ x,p[m.toNat]? = some x∧0≤m∧m.toNat<p.length∧k∈kys x:=by
  obtain⟨i,x,rfl,h1,h2⟩:=h.snd k m (bb_.1 hm)
  exact⟨x,by simpa using h1,by omega,by have:=(List.getElem?_eq_some_iff.1 h1).1;simpa using this,h2⟩
structure Jx where
  above:List (Str×Int)
  under:List (Str×Int)
  frm:List (eO_×Int)
  into:List (eO_×Int)
  ranges:List (eO_×Int)
  firms:List (eO_×Int)
def Jx.nil:Jx:=⟨[],[],[],[],[],[]⟩
def Jx.add (x:Jx) (s:Stp) (n:Int):Jx :=
  if s.fact.kind=1 then { x with above:=x.above++[(s.fact.a,n)] }
  else if s.fact.kind=2 then { x with under:=x.under++[(s.fact.b,n)],frm:=x.frm++[((s.fact.a,s.fact.r),n)],into:=x.into++[((s.fact.b,s.fact.r),n)] }
  else if s.fact.kind=3 then { x with ranges:=x.ranges++[((s.fact.a,s.fact.r),n)],firms:=if s.rule=11 then x.firms++[((s.fact.a,s.fact.r),n)] else x.firms }
  else x
def Lgs {K:Type} (x:List (K×Int)) (l:List Stp) (key:Stp→K) (Q:Stp→Prop):Prop:=∀ k m,(k,m)∈x↔∃ (i:Nat) (s:Stp),m=i∧l[i]? = some s∧Q s∧key s=k
structure Jx.of (x:Jx) (l:List Stp):Prop where
  above:Lgs x.above l (fun s=>s.fact.a) (fun s=>s.fact.kind=1)
  under:Lgs x.under l (fun s=>s.fact.b) (fun s=>s.fact.kind=2)
  frm:Lgs x.frm l (fun s=>(s.fact.a,s.fact.r)) (fun s=>s.fact.kind=2)
  into:Lgs x.into l (fun s=>(s.fact.b,s.fact.r)) (fun s=>s.fact.kind=2)
  ranges:Lgs x.ranges l (fun s=>(s.fact.a,s.fact.r)) (fun s=>s.fact.kind=3)
  firms:Lgs x.firms l (fun s=>(s.fact.a,s.fact.r)) (fun s=>s.fact.kind=3∧s.rule=11)
structure Jx.len (x:Jx) (n:Nat):Prop where
  above:x.above.length≤n
  under:x.under.length≤n
  frm:x.frm.length≤n
  into:x.into.length≤n
  ranges:x.ranges.length≤n
  firms:x.firms.length≤n
theorem Lgs.nil {K:Type} (key:Stp→K) (Q:Stp→Prop):Lgs [] [] key Q:=fun k m=>by simp
theorem Lgs.snoc {K:Type} {x:List (K×Int)} {l:List Stp} {key:Stp→K} {Q:Stp→Prop} (h:Lgs x l key Q) {s:Stp} (hs:Q s):Lgs (x++[(key s,(l.length:Int))]) (l++[s]) key Q:=fun k m=>by
 rw[List.mem_append,h k m,List.mem_singleton,Prod.mk.injEq]
 constructor
 ·rintro (⟨i,t,rfl,h1,h2,h3⟩|⟨rfl,rfl⟩)
  ·exact⟨i,t,rfl,by rw[List.getElem?_append_left (List.getElem?_eq_some_iff.1 h1).1];exact h1,h2,h3⟩
  exact⟨l.length,s,rfl,by simp,hs,rfl⟩
 rintro ⟨i,t,rfl,h1,h2,h3⟩
 by_cases hi:i<l.length
 ·rw[List.getElem?_append_left hi]at h1;exact .inl ⟨i,t,rfl,h1,h2,h3⟩
 have e:i=l.length:=by have:=(List.getElem?_eq_some_iff.1 h1).1;simp at this;omega
 subst e;simp at h1;subst h1;exact .inr ⟨h3.symm,rfl⟩
theorem Lgs.skip {K:Type} {x:List (K×Int)} {l:List Stp} {key:Stp→K} {Q:Stp→Prop} (h:Lgs x l key Q) {s:Stp} (hs:¬ Q s):Lgs x (l++[s]) key Q:=fun k m=>by
 rw[h k m]
 constructor
 ·rintro ⟨i,t,rfl,h1,h2,h3⟩
  exact⟨i,t,rfl,by rw[List.getElem?_append_left (List.getElem?_eq_some_iff.1 h1).1];exact h1,h2,h3⟩
 rintro ⟨i,t,rfl,h1,h2,h3⟩
 by_cases hi:i<l.length
 ·rw[List.getElem?_append_left hi]at h1;exact⟨i,t,rfl,h1,h2,h3⟩
 have e:i=l.length:=by have:=(List.getElem?_eq_some_iff.1 h1).1;simp at this;omega
 subst e;simp at h1;subst h1;exact absurd h2 hs
theorem Jx.of_nil:Jx.nil.of []:=⟨Lgs.nil _ _,Lgs.nil _ _,Lgs.nil _ _,Lgs.nil _ _,Lgs.nil _ _,Lgs.nil _ _⟩
theorem Jx.of_add {x:Jx} {l:List Stp} (h:x.of l) (s:Stp):(x.add s l.length).of (l++[s]):=by
 unfold Jx.add
 split
 ·rename_i hk
  exact⟨h.above.snoc hk,h.under.skip (by omega),h.frm.skip (by omega),h.into.skip (by omega),h.ranges.skip (by omega),h.firms.skip (by omega)⟩
 split
 ·rename_i hk
  exact⟨h.above.skip (by omega),h.under.snoc hk,h.frm.snoc (key:=fun s=>(s.fact.a,s.fact.r)) hk,h.into.snoc (key:=fun s=>(s.fact.b,s.fact.r)) hk,h.ranges.skip (by omega),h.firms.skip (by omega)⟩
 split
 ·rename_i hk
  refine⟨h.above.skip (by omega),h.under.skip (by omega),h.frm.skip (by omega),h.into.skip (by omega),h.ranges.snoc (key:=fun s=>(s.fact.a,s.fact.r)) hk,?_⟩
  by_cases hr:s.rule=11
  ·simp only[if_pos hr];exact h.firms.snoc (key:=fun s=>(s.fact.a,s.fact.r)) ⟨hk,hr⟩
  simp only[if_neg hr];exact h.firms.skip (fun q=>hr q.2)
 exact⟨h.above.skip (by omega),h.under.skip (by omega),h.frm.skip (by omega),h.into.skip (by omega),h.ranges.skip (by omega),h.firms.skip (by omega)⟩
theorem Jx.len_add {x:Jx} {n:Nat} (h:x.len n) (s:Stp) (k:Int):(x.add s k).len (n+1):=by
 obtain⟨h1,h2,h3,h4,h5,h6⟩:=h
 unfold Jx.add
 split
 ·constructor<;>simp<;>omega
 split
 ·constructor<;>simp<;>omega
 split
 ·constructor<;>(try simp)<;>(try split)<;>(try simp)<;>omega
 constructor<;>omega
theorem Lgs.get {K:Type} [DecidableEq K] {x:List (K×Int)} {l:List Stp} {key:Stp→K} {Q:Stp→Prop} (h:Lgs x l key Q) {k:K} {m:Int} (hm:m∈lat x k):∃ s,l[m.toNat]? = some s∧0≤m∧m.toNat<l.length∧Q s∧key s=k:=by
  obtain⟨i,s,rfl,h1,h2,h3⟩:=(h k m).1 (bb_.1 hm)
  exact⟨s,by simpa using h1,by omega,by have:=(List.getElem?_eq_some_iff.1 h1).1;simpa using this,h2,h3⟩
theorem Lgs.has {K:Type} [DecidableEq K] {x:List (K×Int)} {l:List Stp} {key:Stp→K} {Q:Stp→Prop} (h:Lgs x l key Q) {i:Nat} {s:Stp} (hs:l[i]? = some s) (hq:Q s):(i:Int)∈lat x (key s) :=
  bb_.2 ((h _ _).2 ⟨i,s,rfl,hs,hq,rfl⟩)
end Go.Vs
namespace Go.Vs
open Go Go.Sx
theorem fT_ {k:Ky} {x:Pc} (hk:k.kind≠7):k∈kys x↔x∈lat (aI_ [x]) k:=by
 rw[fA_]
 unfold kys
 rw[List.map_append,List.mem_append]
 constructor
 ·rintro (h|h)
  ·obtain⟨⟨a,b⟩,h1,rfl⟩:=List.mem_map.1 h
   obtain⟨rfl,_⟩:=dl_ h1
   exact⟨by simp,h1⟩
  split at h
  ·simp at h;rw[h]at hk;exact absurd rfl hk
  simp at h
 rintro ⟨_,h⟩
 exact .inl (List.mem_map.2 ⟨_,h,rfl⟩)
theorem ky1 {b:Str} {x:Pc}:Ky.mk 1 [] b∈kys x↔x.kind=1∧x.a=b:=by rw[fT_ (by simp),pm1];simp
theorem ky2 {b:Str} {x:Pc}:Ky.mk 2 [] b∈kys x↔x.kind=2∧(x.a=b∨x.b=b):=by rw[fT_ (by simp),pm2];simp
theorem ky3 {b:Str} {x:Pc}:Ky.mk 3 [] b∈kys x↔x.kind=3∧x.a=b:=by rw[fT_ (by simp),pm3];simp
theorem ky8 {b:Str} {x:Pc}:Ky.mk 8 [] b∈kys x↔x.kind=8∧x.a=b:=by rw[fT_ (by simp),pm8];simp
theorem ky5 {r:Str} {x:Pc}:Ky.mk 5 r []∈kys x↔x.kind=5∧x.r=r:=by rw[fT_ (by simp),pm5];simp
theorem ky9 {r:Str} {x:Pc}:Ky.mk 9 r []∈kys x↔x.kind=9∧x.r=r:=by rw[fT_ (by simp),pm9];simp
theorem ky6 {r:Str} (hn:r≠[]) {x:Pc}:Ky.mk 6 r []∈kys x↔x.kind=6∧x.r=r:=by rw[fT_ (by simp),pm6 hn];simp
theorem ky6' {s:Str} (hn:s≠[]) {x:Pc}:Ky.mk 6 [] s∈kys x↔x.kind=6∧x.s=s:=by rw[fT_ (by simp),pm6' hn];simp
theorem ky4 {b:Str} {x:Pc} (hr:x.rok):Ky.mk 4 [] b∈kys x↔x.kind=4∧x.a=b:=by rw[fT_ (by simp),pm4 (by simpa using hr)];simp
theorem ky4' {r b:Str} (hn:r≠[]) {x:Pc}:Ky.mk 4 r b∈kys x↔x.kind=4∧x.r=r∧x.a=b:=by rw[fT_ (by simp),pm4' hn];simp
theorem ky7 {x:Pc}:Ky.mk 7 [] []∈kys x↔x.kind=7:=by
 unfold kys
 rw[List.map_append,List.mem_append]
 constructor
 ·rintro (h|h)
  ·obtain⟨⟨a,b⟩,h1,h2⟩:=List.mem_map.1 h
   have:=(dl_ h1).2
   simp only at h2
   rw[h2]at this;exact this.symm
  split at h
  ·assumption
  simp at h
 intro h;right;rw[if_pos h];simp
structure RawC (p:List Pc) (fm:List (Ky×Int)) (f:Fc) (l l':List Stp):Prop where
  c1:Und p fm ⟨1,[],f.b⟩ (fun x=>C_ f.a x.c∈fcs l')
  c2:Und p fm ⟨2,[],f.b⟩ (fun x=>C_ f.a x.a∈fcs l→C_ f.a x.b∈fcs l→C_ f.a x.c∈fcs l')
  c3:Und p fm ⟨3,[],f.b⟩ (fun x=>I_ f.a x.r x.c∈fcs l')
  c8:Und p fm ⟨8,[],f.b⟩ (fun x=>T_ f.a x.r x.lo x.hi∈fcs l')
def hu_ (l:List Stp) (ms:List Int) (Q:Stp→Prop):Prop:=∀ m∈ms,∀ s,l[m.toNat]? = some s→Q s
structure RawA (p:List Pc) (fm:List (Ky×Int)) (x:Jx) (f:Fc) (l l':List Stp):Prop where
  a4:Und p fm ⟨4,[],f.b⟩ (fun y=>hu_ l (lat x.into (f.a,y.r)) fun s=>C_ s.fact.a y.c∈fcs l')
  a9:f.b=[33]→hu_ l (lat x.under f.a) fun s=>C_ s.fact.a [33]∈fcs l'
structure RawI (p:List Pc) (fm:List (Ky×Int)) (x:Jx) (f:Fc) (l l':List Stp):Prop where
  i5:Und p fm ⟨5,f.r,[]⟩ (fun y=>I_ f.a y.t f.b∈fcs l')
  i6:Und p fm ⟨6,f.r,[]⟩ (fun y=>hu_ l (lat x.frm (f.b,y.s)) fun s=>I_ f.a y.t s.fact.b∈fcs l')
  i6':Und p fm ⟨6,[],f.r⟩ (fun y=>hu_ l (lat x.into (f.a,y.r)) fun s=>I_ s.fact.a y.t f.b∈fcs l')
structure RawL (p:List Pc) (fm:List (Ky×Int)) (x:Jx) (f:Fc) (l l':List Stp):Prop where
  l4:hu_ l (lat x.above f.b) fun s=>Und p fm ⟨4,f.r,s.fact.b⟩ fun y=>C_ f.a y.c∈fcs l'
  l9:C_ f.b [33]∈fcs l→C_ f.a [33]∈fcs l'
def qA_ (x:Jx) (firm:Prop) [Decidable firm] (f:Fc) (l l':List Stp):Prop :=
  hu_ l (if firm then lat x.ranges (f.a,f.r) else lat x.firms (f.a,f.r)) fun s=>(min f.hi s.fact.hi<max f.lo s.fact.lo→C_ f.a [33]∈fcs l')∧(max f.lo s.fact.lo≤min f.hi s.fact.hi→cT_ f s.fact∈fcs l')
def RawO (p:List Pc) (fm:List (Ky×Int)) (f:Fc) (l':List Stp):Prop:=Und p fm ⟨9,f.r,[]⟩ fun x=>x.lo≤f.lo→f.hi≤x.hi→C_ f.a x.c∈fcs l'
def gz_ (l:List Stp) (y:Fc):Prop:=∃ s∈l,s.fact=y∧s.rule=11
structure LoopP (p:List Pc) (A:List Str) (n:Nat) (l:List Stp) (x:Jx):Prop where
  eng:Eng p A l
  le:n≤l.length
  ix:x.of (l.take n)
  ixl:x.len n
  st:∀ a∈A,C_ a a∈fcs l∧C_ a [42]∈fcs l∧∀ z∈p,z.kind=7→I_ a z.r a∈fcs l
  cl:∀ y,One p A (·∈fcs (l.take n)) (fun y z=>gz_ l y∨gz_ l z) y→y∈fcs l
section
variable {p:List Pc} {A:List Str} {fm:List (Ky×Int)} {n:Nat} {l l' l1:List Stp} {x:Jx} {s:Stp} {f:Fc}
theorem LoopP.start (h:Eng p A l) (hs:∀ a∈A,C_ a a∈fcs l∧C_ a [42]∈fcs l∧∀ z∈p,z.kind=7→I_ a z.r a∈fcs l):LoopP p A 0 l Jx.nil:=by
  refine⟨h,Nat.zero_le _,by rw[List.take_zero];exact Jx.of_nil,⟨by simp[Jx.nil],by simp[Jx.nil],by simp[Jx.nil],by simp[Jx.nil],by simp[Jx.nil],by simp[Jx.nil]⟩,hs,fun y hy=>?_⟩
  rw[List.take_zero]at hy
  have no:∀ {q:Prop} {f:Fc},f∈fcs []→q:=fun h=>by simp[fcs]at h
  cases hy with
  | r1 h=>exact (hs _ h).1
  | r2 h=>exact (hs _ h).2.1
  | r10 hx hk h=>exact (hs _ h).2.2 _ hx hk
  | r3 _ _ h=>exact no h
  | r4 _ _ h _=>exact no h
  | r5 _ _ h=>exact no h
  | r6 _ _ h=>exact no h
  | r7 _ _ h _=>exact no h
  | r8 _ _ h _=>exact no h
  | r9 h _=>exact no h
  | r11 _ _ h=>exact no h
  | r12 h _ _ _=>exact no h
  | r13 h _ _ _=>exact no h
  | r14 _ _ h _ _=>exact no h
theorem stps_of {K:Type} [DecidableEq K] {lg:List (K×Int)} {key:Stp→K} {Q:Stp→Prop} {G:Stp→Prop} (hL:Lgs lg (l.take n) key Q) {y:Fc} (hy:y∈fcs (l.take n)) (hq:∀ t:Stp,t.fact=y→Q t) {k:K} (hk:∀ t:Stp,t.fact=y→key t=k) (hS:hu_ l (lat lg k) G):∃ t:Stp,t.fact=y∧t∈l.take n∧G t:=by
  obtain⟨i,u,hu,e⟩:=gx_ hy
  have h1:=hL.has hu (hq u e)
  rw[hk u e]at h1
  refine⟨u,e,List.mem_of_getElem? hu,hS _ h1 u ?_⟩
  have hi:=(List.getElem?_eq_some_iff.1 hu).1
  simp at hi
  rw[List.getElem?_take_of_lt (by omega)]at hu
  simpa using hu
theorem qI_ {y:Fc} (h:y∈fcs (l.take n)):y∈fcs l:=by
  obtain⟨s,h1,rfl⟩:=List.mem_map.1 h
  exact List.mem_map_of_mem (List.mem_of_mem_take h1)
theorem jY_ {ms:List Int} {G:Stp→Prop} (hp:l <+: l1) (h:hu_ l1 ms G):hu_ l ms G:=fun m hm s hs=>h m hm s (dR_ hp hs)
theorem uq_ (hv:∀ z∈p,z.vok) (hf:Fnd p fm) (hx:x.of (l.take n)) (hk:f.kind=1) (hp1:l <+: l1) (hp2:l1 <+: l') (hfl:f∈fcs l) (h1:RawC p fm f l l1) (h2:RawA p fm x f l1 l') (Fm:Fc→Prop) :
    Cmpl p (·∈fcs (l.take n)) Fm (·∈fcs l) (·∈fcs l') f:=by
  have n2:∀ {q:Prop} {a r b},f=I_ a r b→q:=fun e=>by rw[e]at hk;exact absurd hk (by simp[I_])
  have n3:∀ {q:Prop} {a r b c},f=T_ a r b c→q:=fun e=>by rw[e]at hk;exact absurd hk (by simp[T_])
  have n3':∀ {q:Prop},f.kind=3→q:=fun e=>by rw[e]at hk;exact absurd hk (by simp)
  refine⟨?_,?_,?_,?_,fun _ _ _ _ _ e=>n2 e,fun _ _ _ _ _ _ e=>n2 e,fun _ _ _ _ _ _ e=>n2 e,fun _ _ _ _ _ e=>n2 e,?_,fun _ _ _ e=>n2 e,?_,?_,fun _ e=>n3' e,fun _ e=>n3' e,fun _ _ _ _ _ _ e=>n3 e⟩
  · rintro z a hz hk' rfl
    obtain⟨y,e,hq⟩:=h1.c1.all hf hz (ky1.2 ⟨hk',rfl⟩)
    rw[← (ee_ e).2.2.2.1];exact ai_ hp2 hq
  · rintro z a hz hk' rfl hb
    obtain⟨y,e,hq⟩:=h1.c2.all hf hz (ky2.2 ⟨hk',.inl rfl⟩)
    obtain⟨_,ea,eb,ec,_⟩:=ee_ e
    rw[ea,eb,ec]at hq
    exact ai_ hp2 (hq hfl hb)
  · rintro z a hz hk' rfl hb
    obtain⟨y,e,hq⟩:=h1.c2.all hf hz (ky2.2 ⟨hk',.inr rfl⟩)
    obtain⟨_,ea,eb,ec,_⟩:=ee_ e
    rw[ea,eb,ec]at hq
    exact ai_ hp2 (hq hb hfl)
  · rintro z a hz hk' rfl
    obtain⟨y,e,hq⟩:=h1.c3.all hf hz (ky3.2 ⟨hk',rfl⟩)
    obtain⟨_,ea,eb,ec,er,_⟩:=ee_ e
    rw[ec,er]at hq;exact ai_ hp2 hq
  · rintro z a b hz hk' rfl hS
    obtain⟨y,e,hq⟩:=h2.a4.all hf hz ((ky4 (hv z hz).rok).2 ⟨hk',rfl⟩)
    obtain⟨_,ea,eb,ec,er,_⟩:=ee_ e
    obtain⟨t,ht,_,hg⟩:=stps_of (k:=(b,y.r)) hx.into hS (fun t h=>by rw[h];rfl) (fun t h=>by rw[h,er];rfl) (jY_ hp1 hq)
    rw[ht,ec]at hg;exact hg
  · rintro a r b rfl hS
    obtain⟨t,ht,_,hg⟩:=stps_of (k:=b) hx.under hS (fun t h=>by rw[h];rfl) (fun t h=>by rw[h];rfl) (jY_ hp1 (h2.a9 rfl))
    rw[ht]at hg;exact hg
  · rintro z a hz hk' rfl
    obtain⟨y,e,hq⟩:=h1.c8.all hf hz (ky8.2 ⟨hk',rfl⟩)
    obtain⟨_,ea,eb,ec,er,_,_,el,eh⟩:=ee_ e
    rw[er,el,eh]at hq;exact ai_ hp2 hq
theorem pn_ (hv:∀ z∈p,z.vok) (hf:Fnd p fm) (hx:x.of (l.take n)) (hk:f.kind=2) (hp1:l <+: l1) (hp2:l1 <+: l') (h1:RawI p fm x f l l1) (h2:RawL p fm x f l1 l') (Fm:Fc→Prop) :
    Cmpl p (·∈fcs (l.take n)) Fm (·∈fcs l) (·∈fcs l') f:=by
  have n1:∀ {q:Prop} {a b},f=C_ a b→q:=fun e=>by rw[e]at hk;exact absurd hk (by simp[C_])
  have n3:∀ {q:Prop} {a r b c},f=T_ a r b c→q:=fun e=>by rw[e]at hk;exact absurd hk (by simp[T_])
  have n3':∀ {q:Prop},f.kind=3→q:=fun e=>by rw[e]at hk;exact absurd hk (by simp)
  refine⟨fun _ _ _ _ e=>n1 e,fun _ _ _ _ e=>n1 e,fun _ _ _ _ e=>n1 e,fun _ _ _ _ e=>n1 e,?_,?_,?_,?_,fun _ _ _ _ _ e=>n1 e,?_,fun _ _ _ e=>n1 e,fun _ _ _ _ e=>n1 e,fun _ e=>n3' e,fun _ e=>n3' e,fun _ _ _ _ _ _ e=>n3 e⟩
  · rintro z a b hz hk' rfl
    obtain⟨y,e,hq⟩:=h1.i5.all hf hz (ky5.2 ⟨hk',rfl⟩)
    obtain⟨_,ea,eb,ec,er,es,et,_⟩:=ee_ e
    rw[et]at hq;exact ai_ hp2 hq
  · rintro z a b c hz hk' rfl hS
    obtain⟨y,e,hq⟩:=h1.i6.all hf hz ((ky6 ((hv z hz).rok.1 (.inr (.inr (.inl hk'))))).2 ⟨hk',rfl⟩)
    obtain⟨_,ea,eb,ec,er,es,et,_⟩:=ee_ e
    obtain⟨t,ht,_,hg⟩:=stps_of (k:=(b,y.s)) hx.frm hS (fun t h=>by rw[h];rfl) (fun t h=>by rw[h,es];rfl) hq
    rw[ht,et]at hg;exact ai_ hp2 hg
  · rintro z a b c hz hk' rfl hS
    obtain⟨y,e,hq⟩:=h1.i6'.all hf hz ((ky6' ((hv z hz).rok.2.1 hk').1).2 ⟨hk',rfl⟩)
    obtain⟨_,ea,eb,ec,er,es,et,_⟩:=ee_ e
    obtain⟨t,ht,_,hg⟩:=stps_of (k:=(b,y.r)) hx.into hS (fun t h=>by rw[h];rfl) (fun t h=>by rw[h,er];rfl) hq
    rw[ht,et]at hg;exact ai_ hp2 hg
  · rintro z a b hz hk' rfl hS
    obtain⟨t,ht,_,hg⟩:=stps_of (k:=b) hx.above hS (fun t h=>by rw[h];rfl) (fun t h=>by rw[h];rfl) (jY_ hp1 h2.l4)
    rw[ht]at hg
    obtain⟨y,e,hq⟩:=hg.all hf hz ((ky4' ((hv z hz).rok.1 (.inl hk'))).2 ⟨hk',rfl,rfl⟩)
    obtain⟨_,ea,eb,ec,er,es,et,_⟩:=ee_ e
    rw[ec]at hq;exact hq
  · rintro a r b rfl hb
    exact h2.l9 (ai_ hp1 hb)
theorem cmplM {firm:Prop} [Decidable firm] (hv:∀ z∈p,z.vok) (hf:Fnd p fm) (hx:x.of (l.take n)) (hk:f.kind=3) (hp1:l <+: l1) (hp2:l1 <+: l') (h1:qA_ x firm f l l1) (h2:RawO p fm f l') (hff:gz_ l f→firm) (hfi:∀ (m:Nat) (t:Stp),(l.take n)[m]? = some t→gz_ l t.fact→t.rule=11) :
    Cmpl p (·∈fcs (l.take n)) (gz_ l) (·∈fcs l) (·∈fcs l') f:=by
  have n1:∀ {q:Prop} {a b},f=C_ a b→q:=fun e=>by rw[e]at hk;exact absurd hk (by simp[C_])
  have n2:∀ {q:Prop} {a r b},f=I_ a r b→q:=fun e=>by rw[e]at hk;exact absurd hk (by simp[I_])
  have key:∀ y,y∈fcs (l.take n)→y.kind=3→y.a=f.a→y.r=f.r→(gz_ l f∨gz_ l y)→(min f.hi y.hi<max f.lo y.lo→C_ f.a [33]∈fcs l1)∧(max f.lo y.lo≤min f.hi y.hi→cT_ f y∈fcs l1):=by
    intro y hy hk3 ha hr hm
    by_cases hfm:firm
    · have h1':=h1
      unfold qA_ at h1'
      rw[if_pos hfm]at h1'
      obtain⟨t,ht,_,hg⟩:=stps_of (k:=(f.a,f.r)) hx.ranges hy (fun t h=>by rw[h];exact hk3) (fun t h=>by rw[h,ha,hr]) h1'
      rw[ht]at hg;exact hg
    · have h1':=h1
      unfold qA_ at h1'
      rw[if_neg hfm]at h1'
      have hfy:gz_ l y:=hm.resolve_left fun q=>hfm (hff q)
      obtain⟨i,u,hu,e⟩:=gx_ hy
      have hr11:=hfi i u hu (by rw[e];exact hfy)
      have h2':=hx.firms.has hu ⟨by rw[e];exact hk3,hr11⟩
      rw[e,ha,hr]at h2'
      have hi:=(List.getElem?_eq_some_iff.1 hu).1
      simp at hi
      rw[List.getElem?_take_of_lt (by omega)]at hu
      have:=h1' _ h2' u (by simpa using hu)
      dsimp only at this;rw[e]at this;exact this
  refine⟨fun _ _ _ _ e=>n1 e,fun _ _ _ _ e=>n1 e,fun _ _ _ _ e=>n1 e,fun _ _ _ _ e=>n1 e,fun _ _ _ _ _ e=>n2 e,fun _ _ _ _ _ _ e=>n2 e,fun _ _ _ _ _ _ e=>n2 e,fun _ _ _ _ _ e=>n2 e,fun _ _ _ _ _ e=>n1 e,fun _ _ _ e=>n2 e,fun _ _ _ e=>n1 e,fun _ _ _ _ e=>n1 e,?_,?_,?_⟩
  · intro y _ hy hk3 ha hr hm hl;exact ai_ hp2 ((key y hy hk3 ha hr hm).2 hl)
  · intro y _ hy hk3 ha hr hm hl;exact ai_ hp2 ((key y hy hk3 ha hr hm).1 hl)
  · rintro z a lo hi hz hk' rfl g1 g2
    obtain⟨y,e,hq⟩:=h2.all hf hz (ky9.2 ⟨hk',rfl⟩)
    obtain⟨_,ea,eb,ec,er,es,et,el,eh⟩:=ee_ e
    rw[ec,el,eh]at hq;exact hq g1 g2
theorem pf_ (he:Eng p A l') (hp:l <+: l') {y:Fc} (hy:y∈fcs l):gz_ l' y↔gz_ l y:=by
 constructor
 ·rintro ⟨t,ht,rfl,hr⟩
  obtain⟨i,u,hu,e⟩:=gx_ hy
  obtain⟨j,hj⟩:=List.getElem?_of_mem ht
  have hij:=he.at ⟨u,dR_ hp hu,e⟩ ⟨t,hj,rfl⟩
  subst hij
  rw[dR_ hp hu]at hj
  cases hj
  exact⟨t,List.mem_of_getElem? hu,rfl,hr⟩
 rintro ⟨t,ht,e,hr⟩
 obtain⟨u,rfl⟩:=hp
 exact⟨t,List.mem_append_left _ ht,e,hr⟩
theorem LoopP.next (h:LoopP p A n l x) (hs:l[n]? = some s) (he:Eng p A l') (hp:l <+: l') (hc:Cmpl p (·∈fcs (l.take (n+1))) (gz_ l) (·∈fcs l) (·∈fcs l') s.fact):LoopP p A (n+1) l' (x.add s n):=by
 have hn:=(List.getElem?_eq_some_iff.1 hs).1
 have e1:l.take (n+1)=l.take n++[s]:=by rw[List.take_add_one,hs];rfl
 have e2:l'.take (n+1)=l.take (n+1):=eR_ hp hn
 have e3:(l.take n).length=n:=by rw[List.length_take];omega
 have hS:∀ y,y∈fcs (l.take (n+1))↔y∈fcs (l.take n)∨y=s.fact:=fun y=>by rw[e1,cA_,List.mem_append];simp[fcs]
 refine⟨he,by obtain⟨t,rfl⟩:=hp;simp;omega,?_,Jx.len_add h.ixl s n,fun a ha=>?_,fun y hy=>?_⟩
 ·rw[e2,e1]
  have:=Jx.of_add h.ix s
  rwa [e3]at this
 ·obtain⟨g1,g2,g3⟩:=h.st a ha
  exact⟨ai_ hp g1,ai_ hp g2,fun z hz hk=>ai_ hp (g3 z hz hk)⟩
 rw[e2]at hy
 have e4:(fun y=>y∈fcs (l.take (n+1)))=fun y=>y∈fcs (l.take n)∨y=s.fact:=funext fun y=>propext (hS y)
 rw[e4]at hc hy
 have hin:∀ y,y∈fcs (l.take n)∨y=s.fact→y∈fcs l:=fun y hy=>qI_ ((hS y).2 hy)
 refine po_ hc hin (fun z hz=>ai_ hp (h.cl z hz)) y (hy.congrM fun u v hu hv hm=>hm.imp ?_ ?_)
 ·exact (pf_ he hp (hin u hu)).1
 exact (pf_ he hp (hin v hv)).1
theorem ix_ex (L:List Fc) (Fm:Fc→Prop):∃ x:Ix,x.of (·∈L) Fm:=by
 induction L with
 | nil=>exact⟨Ix.nil,by simpa using Ix.of_nil Fm⟩
 | cons a L ih =>
   obtain⟨x,hx⟩:=ih
   have e:(fun y=>y∈a::L)=fun y=>y∈L∨y=a:=funext fun y=>propext (by rw[List.mem_cons];exact or_comm)
   rw[e]
   by_cases h:Fm a
   · exact⟨_,Ix.of_add hx a (b:=true) (by simp[h])⟩
   · exact⟨_,Ix.of_add hx a (b:=false) (by simp[h])⟩
theorem Eng.firm (h:Eng p A l):∀ f∈fcs l,f.kind=3→Fmd (fcs (l.filter fun s=>decide (s.rule=11))) f:=by
 have key:∀ k,∀ f∈fcs (l.take k),f.kind=3→Fmd (fcs (l.filter fun s=>decide (s.rule=11))) f:=by
   intro k
   induction k with
   | zero=>intro f hf;simp[fcs]at hf
   | succ k ih =>
     intro f hf hk3
     rw[List.take_add_one,cA_,List.mem_append]at hf
     rcases hf with hf|hf
     · exact ih f hf hk3
     · cases hk:l[k]? with
       | none=>rw[hk]at hf;simp[fcs]at hf
       | some s =>
         rw[hk]at hf
         simp[fcs]at hf
         subst hf
         obtain⟨c,hr⟩:=h.cor k s hk
         have hm:=List.mem_of_getElem? hk
         generalize hfr:s.frm=fr at c
         generalize hpc:s.piece=pc at c
         generalize hru:s.rule=ru at c hr
         generalize hfa:s.fact=g at c hk3
         cases c with
         | r11 hx hk' h'=>exact .base (by rw[← hfa];exact List.mem_map_of_mem (List.mem_filter.2 ⟨hm,by simp[hru]⟩))
         | @r12 a r lo hi lo' hi' m k' h1 h2 hl=>exact Fmd.meet (ih _ h1.mem rfl) (ih _ h2.mem rfl) rfl rfl hl
         | r15 _=>omega
         | r16 _ _ _=>omega
         | r1 _=>exact absurd hk3 (by simp[C_])
         | r2 _=>exact absurd hk3 (by simp[C_])
         | r10 _ _ _=>exact absurd hk3 (by simp[I_])
         | r3 _ _ _=>exact absurd hk3 (by simp[C_])
         | r4 _ _ _ _=>exact absurd hk3 (by simp[C_])
         | r5 _ _ _=>exact absurd hk3 (by simp[I_])
         | r6 _ _ _=>exact absurd hk3 (by simp[I_])
         | r7 _ _ _ _=>exact absurd hk3 (by simp[I_])
         | r8 _ _ _ _=>exact absurd hk3 (by simp[C_])
         | r9 _ _=>exact absurd hk3 (by simp[C_])
         | r13 _ _ _=>exact absurd hk3 (by simp[C_])
         | r14 _ _ _ _ _=>exact absurd hk3 (by simp[C_])
 intro f hf
 exact key l.length f (by rw[List.take_length];exact hf)
theorem LoopP.done (hv:∀ z∈p,z.vok) (h:LoopP p A l.length l x) (y:Fc):Der p A y↔y∈fcs l:=by
 obtain⟨x',hx'⟩:=ix_ex ((fcs l).take (fcs l).length) (·∈fcs (l.filter fun s=>decide (s.rule=11)))
 refine ny_ (m:=(fcs l).length) (fm:=fcs (l.filter fun s=>decide (s.rule=11))) (x:=x') ⟨h.eng.nd,Nat.le_refl _,Nat.le_refl _,h.eng.der,fun y hy=>(h.eng.der y hy).form hv,hx',fun y hy=>?_,h.eng.firm,h.st,fun y hy=>?_⟩ y
 ·obtain⟨s,h1,rfl⟩:=List.mem_map.1 hy
  obtain⟨h2,h3⟩:=List.mem_filter.1 h1
  refine⟨List.mem_map_of_mem h2,?_⟩
  obtain⟨i,hi⟩:=List.getElem?_of_mem h2
  obtain⟨c,_⟩:=h.eng.cor i s hi
  have h3':s.rule=11:=by simpa using h3
  generalize s.frm=fr at c
  generalize s.piece=pc at c
  rw[h3']at c
  generalize s.fact=g at c
  cases c with
  | r11 _ _ _=>rfl
 rw[List.take_length]at hy
 refine h.cl y ?_
 rw[List.take_length]
 have key:∀ u,u∈fcs (l.filter fun s=>decide (s.rule=11))→gz_ l u:=fun u hu=>by
   obtain⟨s,h1,rfl⟩:=List.mem_map.1 hu
   obtain⟨h2,h3⟩:=List.mem_filter.1 h1
   exact⟨s,h2,rfl,by simpa using h3⟩
 exact hy.congrM fun u v _ _ hm=>hm.imp (key u) (key v)
end
end Go.Vs
