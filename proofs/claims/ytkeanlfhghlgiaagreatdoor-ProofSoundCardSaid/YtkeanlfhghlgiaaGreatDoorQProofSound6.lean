/-
  Part of the proof of the law ProofSound over this seat: the small logic, the data, the contracts of functions (no condition).
-/
import Derived.Test.YtkeanlfhghlgiaaGreatDoorQProofSound5
import Derived.Test.YtkeanlfhghlgiaaGreatDoorQProofSound1
import Derived.Test.YtkeanlfhghlgiaaGreatDoorQProofSound2
import Derived.Maps.RangeRun
import Derived.Test.YtkeanlfhghlgiaaGreatDoorQProofSound3
set_option linter.unusedVariables false
set_option linter.unusedSimpArgs false
set_option linter.unusedSectionVars false
set_option maxHeartbeats 1000000
namespace Go.Vs
open Go Go.Sx
section
variable {p:List Pc} {A:List Str} {fm:List (Ky×Int)} {n:Nat} {l l' l3:List Stp} {x:Jx} {s t:Stp} {f:Fc} {z:Pc} {i j k m:Nat}
theorem bv_ (hl:l3=hD_ l s) (hE:Eng p A l) (hc:Cor p A l s.rule s.fact s.piece s.frm) (hr:s.rule≤14):Eng p A l3:=by rw[hl];exact hE.add hc hr
theorem bt_ (hl:l3=hD_ l s):l <+: l3:=by rw[hl];exact rl_ l s
theorem bu_ (hl:l3=hD_ l s):s.fact∈fcs l3:=by rw[hl];exact rm_ l s
theorem du_ (h:(l.take n)[i]? = some s):l[i]? = some s:=by
  have hi:=(List.getElem?_eq_some_iff.1 h).1
  simp at hi
  rw[List.getElem?_take_of_lt (by omega)]at h
  exact h
def en_ (p:List Pc) (row:List Int) (i:Nat) (Q:Pc→Prop):Prop:=∀ j,j<i→∀ m,row[j]? = some m→∀ x,p[m.toNat]? = some x→Q x
theorem en_.zero {row:List Int} {Q:Pc→Prop}:en_ p row 0 Q:=fun j hj=>by omega
theorem en_.step {row:List Int} {Q Q':Pc→Prop} (h:en_ p row i Q) (hm:∀ x,Q x→Q' x) (hr:row[i]? = some (k:Int)) (hz:p[k]? = some z) (hq:Q' z):en_ p row (i+1) Q':=fun j hj m hm' x hx=>by
 by_cases e:j=i
 ·subst e
  rw[hr]at hm';cases hm'
  simp only[Int.toNat_natCast]at hx
  rw[hz]at hx;cases hx
  exact hq
 exact hm x (h j (by omega) m hm' x hx)
theorem en_.done {K:Ky} {Q:Pc→Prop} (h:en_ p (lat fm K) i Q) (hi:¬ (i:Int)<((lat fm K).length:Int)):Und p fm K Q:=fun m hm x hx=>by
  obtain⟨j,hj⟩:=List.getElem?_of_mem hm
  exact h j (by have:=(List.getElem?_eq_some_iff.1 hj).1;omega) m hj x hx
def fq_ (l:List Stp) (row:List Int) (i:Nat) (Q:Stp→Prop):Prop:=∀ j,j<i→∀ m,row[j]? = some m→∀ x,l[m.toNat]? = some x→Q x
theorem fq_.zero {row:List Int} {Q:Stp→Prop}:fq_ l row 0 Q:=fun j hj=>by omega
theorem fq_.step {row:List Int} {Q Q':Stp→Prop} (h:fq_ l row i Q) (hm:∀ x,Q x→Q' x) (hr:row[i]? = some (k:Int)) (hz:l[k]? = some s) (hq:Q' s):fq_ l row (i+1) Q':=fun j hj m hm' x hx=>by
 by_cases e:j=i
 ·subst e
  rw[hr]at hm';cases hm'
  simp only[Int.toNat_natCast]at hx
  rw[hz]at hx;cases hx
  exact hq
 exact hm x (h j (by omega) m hm' x hx)
theorem fq_.done {row:List Int} {Q:Stp→Prop} (h:fq_ l row i Q) (hi:¬ (i:Int)<(row.length:Int)):gS_ l row Q:=fun m hm x hx=>by
  obtain⟨j,hj⟩:=List.getElem?_of_mem hm
  exact h j (by have:=(List.getElem?_eq_some_iff.1 hj).1;omega) m hj x hx
theorem Und.mono {K:Ky} {Q Q':Pc→Prop} (h:Und p fm K Q) (hm:∀ x,Q x→Q' x):Und p fm K Q':=fun m hm' x hx=>hm x (h m hm' x hx)
theorem gS_.mono {row:List Int} {Q Q':Stp→Prop} (h:gS_ l row Q) (hm:∀ x,Q x→Q' x):gS_ l row Q':=fun m hm' x hx=>hm x (h m hm' x hx)
theorem Eng.form (hE:Eng p A l) (hv:∀ z∈p,z.vok) (hs:l[i]? = some s):s.fact.form:=(hE.der _ (List.mem_map_of_mem (List.mem_of_getElem? hs))).form hv
theorem gI_ {g:Fc} {c:Int} (h:∃ q:Nat,(fcs l)[q]? = some g∧(iot l.length)[q]? = some c):∃ q:Nat,c=q∧At l q g:=by
  obtain⟨q,h1,h2⟩:=h
  refine⟨q,sa_ h2,?_⟩
  unfold fcs at h1
  rw[List.getElem?_map]at h1
  cases hq:l[q]? with
  | none=>rw[hq]at h1;simp at h1
  | some s=>rw[hq]at h1;exact⟨s,hq,by simpa using h1⟩
-- the rules
theorem cor3 (hz:p[i]? = some z) (hk:Ky.mk 1 [] f.b∈kys z) (h:At l n (y_ f.a f.b)):Cor p A l 3 (y_ f.a z.c) i [(n:Int)]:=by
  obtain⟨k1,k2⟩:=ky1.1 hk;rw[← k2]at h;exact .r3 hz k1 h
theorem cor4 (hz:p[i]? = some z) (hk:Ky.mk 2 [] f.b∈kys z) (h:At l j (y_ f.a z.a)) (h':At l k (y_ f.a z.b)):Cor p A l 4 (y_ f.a z.c) i [(j:Int),(k:Int)]:=.r4 hz (ky2.1 hk).1 h h'
theorem cor5 (hz:p[i]? = some z) (hk:Ky.mk 3 [] f.b∈kys z) (h:At l n (y_ f.a f.b)):Cor p A l 5 (E_ f.a z.r z.c) i [(n:Int)]:=by
  obtain⟨k1,k2⟩:=ky3.1 hk;rw[← k2]at h;exact .r5 hz k1 h
theorem cor11 (hz:p[i]? = some z) (hk:Ky.mk 8 [] f.b∈kys z) (h:At l n (y_ f.a f.b)):Cor p A l 11 (M_ f.a z.r z.lo z.hi) i [(n:Int)]:=by
  obtain⟨k1,k2⟩:=ky8.1 hk;rw[← k2]at h;exact .r11 hz k1 h
theorem hV_ (hE:Eng p A l) (hv:∀ z∈p,z.vok) (hs:l[j]? = some s) (hk:s.fact.kind=2):At l j (E_ s.fact.a s.fact.r s.fact.b):=⟨s,hs,(gL_ (hE.form hv hs) hk).1⟩
theorem pz_ (hE:Eng p A l) (hv:∀ z∈p,z.vok) (hs:l[j]? = some s) (hk:s.fact.kind=1):At l j (y_ s.fact.a s.fact.b):=⟨s,hs,iG_ (hE.form hv hs) hk⟩
theorem hO_ (hE:Eng p A l) (hv:∀ z∈p,z.vok) (hs:l[j]? = some s) (hk:s.fact.kind=3):At l j (M_ s.fact.a s.fact.r s.fact.lo s.fact.hi):=⟨s,hs,(fV_ (hE.form hv hs) hk).1⟩
theorem ob_ (hE:Eng p A l) (hv:∀ z∈p,z.vok) (hz:p[i]? = some z) (hk:Ky.mk 4 [] f.b∈kys z) (h:At l n (y_ f.a f.b)) (hs:l[j]? = some s) (hs2:s.fact.kind=2) (he:(s.fact.b,s.fact.r)=(f.a,z.r)):Cor p A l 8 (y_ s.fact.a z.c) i [(j:Int),(n:Int)]:=by
  obtain⟨k1,k2⟩:=(ky4 (hv z (List.mem_of_getElem? hz)).rok).1 hk
  have h2:=hV_ hE hv hs hs2
  simp only[Prod.mk.injEq]at he
  rw[he.1,he.2]at h2
  rw[← k2]at h
  exact .r8 hz k1 h2 h
theorem cor9a (hE:Eng p A l) (hv:∀ z∈p,z.vok) (h:At l n (y_ f.a f.b)) (hb:f.b=[33]) (hs:l[j]? = some s) (hs2:s.fact.kind=2) (he:s.fact.b=f.a):Cor p A l 9 (y_ s.fact.a [33]) (-1) [(j:Int),(n:Int)]:=by
  have h2:=hV_ hE hv hs hs2
  rw[he]at h2;rw[hb]at h
  exact .r9 h2 h
theorem cor6 (hz:p[i]? = some z) (hk:Ky.mk 5 f.r []∈kys z) (h:At l n (E_ f.a f.r f.b)):Cor p A l 6 (E_ f.a z.t f.b) i [(n:Int)]:=by
  obtain⟨k1,k2⟩:=ky5.1 hk;rw[← k2]at h;exact .r6 hz k1 h
theorem od_ (hE:Eng p A l) (hv:∀ z∈p,z.vok) (hr:f.r≠[]) (hz:p[i]? = some z) (hk:Ky.mk 6 f.r []∈kys z) (h:At l n (E_ f.a f.r f.b)) (hs:l[j]? = some s) (hs2:s.fact.kind=2) (he:(s.fact.a,s.fact.r)=(f.b,z.s)):Cor p A l 7 (E_ f.a z.t s.fact.b) i [(n:Int),(j:Int)]:=by
  obtain⟨k1,k2⟩:=(ky6 hr).1 hk
  have h2:=hV_ hE hv hs hs2
  simp only[Prod.mk.injEq]at he
  rw[he.1,he.2]at h2
  rw[← k2]at h
  exact .r7 hz k1 h h2
theorem oc_ (hE:Eng p A l) (hv:∀ z∈p,z.vok) (hr:f.r≠[]) (hz:p[i]? = some z) (hk:Ky.mk 6 [] f.r∈kys z) (h:At l n (E_ f.a f.r f.b)) (hs:l[j]? = some s) (hs2:s.fact.kind=2) (he:(s.fact.b,s.fact.r)=(f.a,z.r)):Cor p A l 7 (E_ s.fact.a z.t f.b) i [(j:Int),(n:Int)]:=by
  obtain⟨k1,k2⟩:=(ky6' hr).1 hk
  have h2:=hV_ hE hv hs hs2
  simp only[Prod.mk.injEq]at he
  rw[he.1,he.2]at h2
  rw[← k2]at h
  exact .r7 hz k1 h2 h
theorem sJ_ (hE:Eng p A l) (hv:∀ z∈p,z.vok) (hr:f.r≠[]) (hs:l[j]? = some s) (hs1:s.fact.kind=1) (he:s.fact.a=f.b) (hz:p[i]? = some z) (hk:Ky.mk 4 f.r s.fact.b∈kys z) (h:At l n (E_ f.a f.r f.b)):Cor p A l 8 (y_ f.a z.c) i [(n:Int),(j:Int)]:=by
  obtain⟨k1,k2,k3⟩:=(ky4' hr).1 hk
  have h2:=pz_ hE hv hs hs1
  rw[he,← k3]at h2
  rw[← k2]at h
  exact .r8 hz k1 h h2
theorem cor9b (h:At l n (E_ f.a f.r f.b)) (h2:At l j (y_ f.b [33])):Cor p A l 9 (y_ f.a [33]) (-1) [(n:Int),(j:Int)]:=.r9 h h2
theorem sL_ (hE:Eng p A l) (hv:∀ z∈p,z.vok) (h:At l n (M_ f.a f.r f.lo f.hi)) (hs:l[j]? = some s) (hs3:s.fact.kind=3) (he:(s.fact.a,s.fact.r)=(f.a,f.r)) (hl:¬ min f.hi s.fact.hi<max f.lo s.fact.lo):Cor p A l 12 (M_ f.a f.r (max f.lo s.fact.lo) (min f.hi s.fact.hi)) (-1) [(n:Int),(j:Int)]:=by
  have h2:=hO_ hE hv hs hs3
  simp only[Prod.mk.injEq]at he
  rw[he.1,he.2]at h2
  exact .r12 h h2 (by omega)
theorem sK_ (hE:Eng p A l) (hv:∀ z∈p,z.vok) (h:At l n (M_ f.a f.r f.lo f.hi)) (hs:l[j]? = some s) (hs3:s.fact.kind=3) (he:(s.fact.a,s.fact.r)=(f.a,f.r)) (hl:min f.hi s.fact.hi<max f.lo s.fact.lo):Cor p A l 13 (y_ f.a [33]) (-1) [(n:Int),(j:Int)]:=by
  have h2:=hO_ hE hv hs hs3
  simp only[Prod.mk.injEq]at he
  rw[he.1,he.2]at h2
  exact .r13 h h2 hl
theorem cor14 (hz:p[i]? = some z) (hk:Ky.mk 9 f.r []∈kys z) (h:At l n (M_ f.a f.r f.lo f.hi)) (h1:z.lo≤f.lo) (h2:f.hi≤z.hi):Cor p A l 14 (y_ f.a z.c) i [(n:Int)]:=by
  obtain⟨k1,k2⟩:=ky9.1 hk;rw[← k2]at h;exact .r14 hz k1 h h1 h2
end
end Go.Vs
namespace Go.Vs
open Go Go.Sx
def Fre (D:Nat→Prop) (l:List Stp):Prop:=∀ s∈l,s.frm≠[]→∀ b off,s.ad=some ⟨b,off,none⟩→¬ D b
theorem bV_ {D:Nat→Prop} {l l3:List Stp} {s:Stp} (hl:l3=hD_ l s) (h:Fre D l) (hs:s.frm≠[]→∀ b off,s.ad=some ⟨b,off,none⟩→¬ D b):Fre D l3:=by
 intro t ht
 rw[hl]at ht
 unfold hD_ at ht
 split at ht
 ·exact h t ht
 rcases List.mem_append.1 ht with ht|ht
 ·exact h t ht
 rw[List.mem_singleton]at ht;subst ht;exact hs
theorem bH_ {D:Nat→Prop} {b:Nat} (h:¬ D b):∀ b' off,(some ⟨b,0,none⟩:Option Addr)=some ⟨b',off,none⟩→¬ D b':=fun b' off e=>by
  simp only[Option.some.injEq,Addr.mk.injEq]at e
  rw[← e.1];exact h
def imF (D:Nat→Prop):Fct where
  p v:=∀ b,D b→v.im b
  mono v v' h hp b hb:=h.imUp b (hp b hb)
theorem bT_ {D:Nat→Prop} {v:Vw} {H F:Hp} {b:Nat} {o:Obj} (h:v.sat H) (hp:H.Perm ([(b,o)]++F)) (hi:(imF D).p v):¬ D b:=fun hd=>((h.perm hp).own (b,o) (by simp)).2 (hi b hd)
theorem ig_ {P:Program} {f:FuncId} {args:Array Value} {H:Hp} {Γ Γ0:List Fct} {ι:Type} {ret:ι→Value} {H':ι→Hp} {Γ':ι→List Fct} {l:List Stp} (B:Hp) (hc:dR_ P f)
    (hT:Fre (fun b=>b∈B.map Prod.fst) l→Tri P f args H Γ ret H' Γ') (hl:∀ v,aj_ Γ0 v→(aQ_ l).p v)
    (hΓ:∀ v:Vw,(∀ p∈B,v.im p.1∧v.w.heap[p.1]? = some p.2)→aj_ Γ0 v→aj_ Γ v) (hG:∀ x (v:Vw),aj_ (Γ' x) v→aj_ (Γ' x) ⟨fun b=>v.im b∧b ∉ B.map Prod.fst,v.w,v.sl⟩):Tri P f args (B++H) Γ0 ret (fun x=>B++H' x) Γ':=by
  refine⟨hc,fun v hs hv=>?_⟩
  have hF:Fre (fun b=>b∈B.map Prod.fst) l:=fun s hs' hn b off e hb=>by
    obtain⟨p,hp,rfl⟩:=List.mem_map.1 hb
    have ho:=hs.own p (List.mem_append_left _ hp)
    rcases hl v hv s hs' with h|⟨b',off',arr,T,fz,h1,h2,_⟩
    · exact hn (by cases hf:s.frm with
        | nil=>rfl
        | cons a r=>rw[hf]at h;simp[ae_]at h)
    · rw[e]at h1
      simp only[Option.some.injEq,Addr.mk.injEq]at h1
      exact ho.2 (h1.1▸h2)
  have hT:=hT hF
  have hnd:=hs.nodup
  rw[List.map_append,List.nodup_append]at hnd
  have hlt:∀ p∈B,p.1<v.w.heap.size:=fun p hp=>(Array.getElem?_eq_some_iff.1 (hs.own p (List.mem_append_left _ hp)).1).1
  have h1:(⟨fun b=>v.im b∨b∈B.map Prod.fst,v.w,v.sl⟩:Vw).sat H:=by
    refine⟨fun p hp=>⟨(hs.own p (List.mem_append_right _ hp)).1,fun hi=>?_⟩,hnd.2.1,fun b hb=>?_⟩
    · rcases hi with hi|hi
      · exact (hs.own p (List.mem_append_right _ hp)).2 hi
      · exact hnd.2.2 _ hi _ (List.mem_map_of_mem hp) rfl
    · rcases hb with hb|hb
      · exact hs.lt b hb
      · obtain⟨p,hp,rfl⟩:=List.mem_map.1 hb
        exact hlt p hp
  have hle:v.le ⟨fun b=>v.im b∨b∈B.map Prod.fst,v.w,v.sl⟩:=⟨fun b h=>.inl h,fun _ _=>rfl,rfl⟩
  have h2:=hΓ ⟨fun b=>v.im b∨b∈B.map Prod.fst,v.w,v.sl⟩ (fun p hp=>⟨.inr (List.mem_map_of_mem hp),(hs.own p (List.mem_append_left _ hp)).1⟩) (bd_ hle hv)
  refine (hT.run _ h1 h2).mono ?_
  rintro e w' ⟨x,v',rfl,rfl,g1,g2,g3⟩
  have hB:∀ b,b∈B.map Prod.fst→v'.im b:=fun b hb=>g3.imUp b (.inr hb)
  refine⟨x,⟨fun b=>v'.im b∧b ∉ B.map Prod.fst,v'.w,v'.sl⟩,rfl,rfl,⟨fun p hp=>?_,?_,fun b hb=>g1.lt b hb.1⟩,hG x v' g2,?_⟩
  · rcases List.mem_append.1 hp with hp|hp
    · refine⟨?_,fun h=>h.2 (List.mem_map_of_mem hp)⟩
      have:=(g3.le h1).block p.1 (.inr (List.mem_map_of_mem hp))
      exact this.trans (hs.own p (List.mem_append_left _ hp)).1
    · exact⟨(g1.own p hp).1,fun h=>(g1.own p hp).2 h.1⟩
  · rw[List.map_append,List.nodup_append]
    refine⟨hnd.1,g1.nodup,fun a ha b hb e=>?_⟩
    subst e
    obtain⟨p,hp,rfl⟩:=List.mem_map.1 hb
    exact (g1.own p hp).2 (hB _ ha)
  · refine⟨g3.os,g3.tape,g3.output,g3.size,fun b hb hn=>g3.block b hb (fun hm=>hn ?_),fun b hb=>⟨g3.imUp b (.inl hb),fun hm=>?_⟩,fun b hb=>?_,fun b hb=>?_,g3.sl,g3.dr⟩
    · rw[List.map_append];exact List.mem_append_right _ hm
    · obtain⟨p,hp,rfl⟩:=List.mem_map.1 hm
      exact (hs.own p (List.mem_append_left _ hp)).2 hb
    · rcases g3.imNew b hb.1 with (h|h)|h|h
      · exact .inl h
      · exact absurd h hb.2
      · exact .inr (.inl (by rw[List.map_append];exact List.mem_append_right _ h))
      · exact .inr (.inr h)
    · rw[List.map_append]at hb ⊢
      rcases List.mem_append.1 hb with h|h
      · exact .inl (List.mem_append_left _ h)
      · exact (g3.hNew b h).imp (List.mem_append_right _) id
theorem ij_ {l:List Stp} {B:Hp} {v:Vw} (hF:Fre (fun b=>b∈B.map Prod.fst) l) (h:(aQ_ l).p v):(aQ_ l).p ⟨fun b=>v.im b∧b ∉ B.map Prod.fst,v.w,v.sl⟩:=fun s hs=>by
 rcases h s hs with h|⟨b,off,arr,T,fz,h1,h2,h3,h4⟩
 ·exact .inl h
 by_cases hn:s.frm=[]
 ·left;rw[hn];rfl
 exact .inr ⟨b,off,arr,T,fz,h1,⟨h2,hF s hs hn b off h1⟩,h3,h4⟩
end Go.Vs
namespace Go.Vs
open Go Go.Sx
section
variable {p:List Pc} {A:List Str} {n i:Nat} {l:List Stp} {x:Jx} {s:Stp}
theorem LoopP.addx (h:LoopP p A n l x) (hs:l[n]? = some s):(x.add s n).of (l.take (n+1))∧(x.add s n).len (n+1):=by
  have hn:=(List.getElem?_eq_some_iff.1 hs).1
  have e1:l.take (n+1)=l.take n++[s]:=by rw[List.take_add_one,hs];rfl
  have e3:(l.take n).length=n:=by rw[List.length_take];omega
  have:=Jx.of_add h.ix s
  rw[e3]at this
  exact⟨by rw[e1];exact this,Jx.len_add h.ixl s n⟩
def AtI (al:List Str) (i:Nat) (Q:Str→Prop):Prop:=∀ j,j<i→∀ a,al[j]? = some a→Q a
theorem AtI.zero {al:List Str} {Q:Str→Prop}:AtI al 0 Q:=fun j hj=>by omega
theorem AtI.step {al:List Str} {Q Q':Str→Prop} {a:Str} (h:AtI al i Q) (hm:∀ x,Q x→Q' x) (hr:al[i]? = some a) (hq:Q' a):AtI al (i+1) Q':=fun j hj b hb=>by
 by_cases e:j=i
 ·subst e;rw[hr]at hb;cases hb;exact hq
 exact hm b (h j (by omega) b hb)
theorem AtI.done {al:List Str} {Q:Str→Prop} (h:AtI al i Q) (hi:¬ (i:Int)<(al.length:Int)):∀ a∈al,Q a:=fun a ha=>by
  obtain⟨j,hj⟩:=List.getElem?_of_mem ha
  exact h j (by have:=(List.getElem?_eq_some_iff.1 hj).1;omega) a hj
def AtQ (p:List Pc) (fm:List (Ky×Int)) (l:List Stp) (a:Str):Prop:=y_ a a∈fcs l∧y_ a [42]∈fcs l∧Und p fm ⟨7,[],[]⟩ fun x=>E_ a x.r a∈fcs l
theorem AtQ.mono {fm:List (Ky×Int)} {l':List Stp} {a:Str} (hp:l <+: l') (h:AtQ p fm l a):AtQ p fm l' a:=⟨ag_ hp h.1,ag_ hp h.2.1,h.2.2.mono fun x hx=>ag_ hp hx⟩
theorem LoopP.start' {fm:List (Ky×Int)} (hf:Fnd p fm) (h:Eng p A l) (hs:∀ a∈A,AtQ p fm l a):LoopP p A 0 l Jx.nil :=
  LoopP.start h fun a ha=>⟨(hs a ha).1,(hs a ha).2.1,fun z hz hk=>by
    obtain⟨y,e,hq⟩:=(hs a ha).2.2.all hf hz (ky7.2 hk)
    rw[(dT_ e).2.2.2.2.1]at hq;exact hq⟩
theorem cor10 {z:Pc} {a:Str} {k:Nat} (hz:p[k]? = some z) (hk:Ky.mk 7 [] []∈kys z) (h:a∈A):Cor p A l 10 (E_ a z.r a) k []:=.r10 hz (ky7.1 hk) h
end
end Go.Vs
namespace Go.Vs
open Go Go.Sx
structure PrfL (p:List Pc) (A:List Str) (f:Fc) (L:List Stp):Prop where
  cor:∀ (n:Nat) s,L[n]? = some s→Cor p A (L.take n) s.rule s.fact s.piece s.frm
  last:(fcs L).getLast? = some f
  nd:(fcs L).Nodup
  low:∀ s∈L,s.rule≤14∨s.fact=f
theorem pZ_ {p:List Pc} {A:List Str} {f:Fc} {l:List Stp} {k:Nat} (hE:Eng p A l) (h:At l k f):PrfL p A f (l.take (k+1)):=by
 obtain⟨s,hs,rfl⟩:=h
 have hk:=(List.getElem?_eq_some_iff.1 hs).1
 refine⟨fun n t ht=>?_,?_,?_,fun t ht=>?_⟩
 ·have hn:=(List.getElem?_eq_some_iff.1 ht).1
  simp at hn
  rw[List.getElem?_take_of_lt (by omega)]at ht
  rw[List.take_take,Nat.min_eq_left (by omega)]
  exact (hE.cor n t ht).1
 ·rw[List.take_add_one,hs,Option.toList_some,cv_];simp[fcs]
 ·have:fcs (l.take (k+1))=(fcs l).take (k+1):=by simp[fcs,List.map_take]
  rw[this];exact hE.nd.sublist (List.take_sublist _ _)
 obtain⟨j,hj⟩:=List.getElem?_of_mem (List.mem_of_mem_take ht)
 exact .inl (hE.cor j t hj).2
theorem mf_ {p:List Pc} {A:List Str} {l:List Stp} {s:Stp} (hE:Eng p A l) (hn:s.fact ∉ fcs l) (hc:Cor p A l s.rule s.fact s.piece s.frm):PrfL p A s.fact (l++[s]):=by
 refine⟨fun n t ht=>?_,by rw[cv_];simp[fcs],?_,fun t ht=>?_⟩
 ·by_cases hl:n<l.length
  ·rw[List.getElem?_append_left hl]at ht
   rw[List.take_append_of_le_length (by omega)]
   exact (hE.cor n t ht).1
  have e:n=l.length:=by have:=(List.getElem?_eq_some_iff.1 ht).1;simp at this;omega
  subst e
  rw[List.getElem?_append_right (by omega)]at ht
  simp at ht
  subst ht
  rw[List.take_left];exact hc
 ·rw[cv_,List.nodup_append]
  exact⟨hE.nd,by simp[fcs],fun a ha b hb e=>by simp[fcs]at hb;subst hb;subst e;exact hn ha⟩
 rcases List.mem_append.1 ht with ht|ht
 ·obtain⟨j,hj⟩:=List.getElem?_of_mem ht
  exact .inl (hE.cor j t hj).2
 rw[List.mem_singleton]at ht;subst ht;exact .inr rfl
def sD_ (l:List Stp) (f:Fc):Prop:=f∈fcs l∨y_ f.a [33]∈fcs l∨(f.kind=3∧∃ g∈fcs l,g.kind=3∧g.a=f.a∧g.r=f.r∧f.lo≤g.lo∧g.hi≤f.hi)
theorem sl_ {p:List Pc} {A:List Str} {l:List Stp} {x:Jx} {f:Fc} (h:LoopP p A l.length l x) (hd:sD_ l f) (h1:f ∉ fcs l) (h2:y_ f.a [33] ∉ fcs l) (h3:gS_ l (lat x.ranges (f.a,f.r)) fun u=>¬ (f.kind=3∧f.lo≤u.fact.lo∧u.fact.hi≤f.hi)):False:=by
 rcases hd with hd|hd|⟨hk,g,hg,g1,g2,g3,g4,g5⟩
 ·exact h1 hd
 ·exact h2 hd
 obtain⟨i,u,hu,e⟩:=ga_ hg
 have hix:=h.ix
 rw[List.take_length]at hix
 have:=hix.ranges.has hu (by rw[e];exact g1)
 rw[e,g2,g3]at this
 exact h3 _ this u (by simpa using hu) ⟨hk,by rw[e];exact g4,by rw[e];exact g5⟩
theorem cor16 {p:List Pc} {A:List Str} {l:List Stp} {f:Fc} {s:Stp} {m:Nat} (hE:Eng p A l) (hv:∀ z∈p,z.vok) (hs:l[m]? = some s) (hk:s.fact.kind=3) (he:(s.fact.a,s.fact.r)=(f.a,f.r)) (hf:f=M_ f.a f.r f.lo f.hi) (h1:f.lo≤s.fact.lo) (h2:s.fact.hi≤f.hi):Cor p A l 16 f (-1) [(m:Int)]:=by
  have h:=hO_ hE hv hs hk
  simp only[Prod.mk.injEq]at he
  rw[he.1,he.2]at h
  rw[hf];exact .r16 h h1 h2
end Go.Vs
namespace Go.Vs
open Go Go.Sx
theorem lq_ (x:Pc):kys x.zf=kys x:=by
 unfold kys bQ_ Pc.zf
 simp only[List.map_append]
 congr 1
 ·repeat' split
  all_goals rfl
 split<;>rfl
theorem rW_ (x:Pc):(kys x).length≤2:=by
 unfold kys bQ_
 simp only[List.length_map,List.length_append]
 by_cases h:x.kind=7
 ·simp[h]
 rw[if_neg h]
 repeat' split
 all_goals simp
theorem Fnd.nil:Fnd [] []:=⟨fun k m h=>by simp at h,fun z hz=>by simp at hz,by simp⟩
theorem gy_ {p:List Pc} {i j:Nat} {x:Pc} (h:(p.take i)[j]? = some x):(p.take (i+1))[j]? = some x:=by
  have hj:=(List.getElem?_eq_some_iff.1 h).1
  simp at hj
  rw[List.getElem?_take_of_lt (by omega)]at h ⊢
  exact h
theorem Fnd.new {p:List Pc} {fm:List (Ky×Int)} {i:Nat} {x:Pc} (h:Fnd (p.take i) fm) (hx:p[i]? = some x):Fnd (p.take (i+1)) (fm++(kys x.zf).map fun k=>(k,(i:Int))):=by
 have hi:=(List.getElem?_eq_some_iff.1 hx).1
 have e:p.take (i+1)=p.take i++[x]:=by rw[List.take_add_one,hx];rfl
 have hxi:(p.take (i+1))[i]? = some x:=by rw[List.getElem?_take_of_lt (by omega)];exact hx
 refine⟨fun k m hm=>?_,fun z hz=>?_,?_⟩
 ·rcases List.mem_append.1 hm with hm|hm
  ·obtain⟨j,y,e1,e2,e3⟩:=h.snd k m hm
   exact⟨j,y,e1,gy_ e2,e3⟩
  obtain⟨k',hk',e1⟩:=List.mem_map.1 hm
  cases e1
  rw[lq_]at hk'
  exact⟨i,x,rfl,hxi,hk'⟩
 ·rw[e]at hz
  rcases List.mem_append.1 hz with hz|hz
  ·obtain⟨j,y,e1,e2,e3⟩:=h.all z hz
   exact⟨j,y,gy_ e1,e2,fun k hk=>List.mem_append_left _ (e3 k hk)⟩
  rw[List.mem_singleton]at hz;subst hz
  exact⟨i,z,hxi,rfl,fun k hk=>List.mem_append_right _ (List.mem_map.2 ⟨k,by rw[lq_];exact hk,rfl⟩)⟩
 have h1:=h.len
 have h2:=rW_ x.zf
 rw[List.length_append,List.length_map]
 simp only[List.length_take]at h1 ⊢
 omega
theorem Fnd.old {p:List Pc} {fm:List (Ky×Int)} {i:Nat} {x:Pc} (h:Fnd (p.take i) fm) (hx:p[i]? = some x) (hz:∃ y∈p.take i,y.zf=x.zf):Fnd (p.take (i+1)) fm:=by
 have hi:=(List.getElem?_eq_some_iff.1 hx).1
 have e:p.take (i+1)=p.take i++[x]:=by rw[List.take_add_one,hx];rfl
 refine⟨fun k m hm=>?_,fun z hz'=>?_,?_⟩
 ·obtain⟨j,y,e1,e2,e3⟩:=h.snd k m hm
  exact⟨j,y,e1,gy_ e2,e3⟩
 ·rw[e]at hz'
  rcases List.mem_append.1 hz' with hz'|hz'
  ·obtain⟨j,y,e1,e2,e3⟩:=h.all z hz'
   exact⟨j,y,gy_ e1,e2,e3⟩
  rw[List.mem_singleton]at hz';subst hz'
  obtain⟨w,hw,ew⟩:=hz
  obtain⟨j,y,e1,e2,e3⟩:=h.all w hw
  have ek:kys w=kys z:=by rw[← lq_ w,ew,lq_]
  exact⟨j,y,gy_ e1,e2.trans ew,by rw[← ek];exact e3⟩
 have h1:=h.len
 simp only[List.length_take]at h1 ⊢
 omega
theorem pG_ {p:List Pc} {ks:List Pc} {i:Nat} {x:Pc} (h:∀ z,z∈ks↔∃ y∈p.take i,y.zf=z) (hx:p[i]? = some x):∀ z,z∈ks++[x.zf]↔∃ y∈p.take (i+1),y.zf=z:=fun z=>by
 have e0:p.take (i+1)=p.take i++[x]:=by rw[List.take_add_one,hx];rfl
 rw[e0,List.mem_append,h z,List.mem_singleton]
 constructor
 ·rintro (⟨y,hy,e⟩|rfl)
  ·exact⟨y,by simp[hy],e⟩
  exact⟨x,by simp,rfl⟩
 rintro ⟨y,hy,e⟩
 rcases List.mem_append.1 hy with hy|hy
 ·exact .inl ⟨y,hy,e⟩
 rw[List.mem_singleton]at hy;subst hy;exact .inr e.symm
theorem pF_ {p:List Pc} {ks:List Pc} {i:Nat} {x:Pc} (h:∀ z,z∈ks↔∃ y∈p.take i,y.zf=z) (hx:p[i]? = some x) (hm:x.zf∈ks):∀ z,z∈ks↔∃ y∈p.take (i+1),y.zf=z:=fun z=>by
 have e0:p.take (i+1)=p.take i++[x]:=by rw[List.take_add_one,hx];rfl
 rw[h z,e0]
 constructor
 ·rintro ⟨y,hy,e⟩;exact⟨y,by simp[hy],e⟩
 rintro ⟨y,hy,e⟩
 rcases List.mem_append.1 hy with hy|hy
 ·exact⟨y,hy,e⟩
 rw[List.mem_singleton]at hy;subst hy;rw[← e];exact (h _).1 hm
end Go.Vs
namespace Go.Sx
open Go
def hR_ (b:Nat) (F:Value→List Value) (T:TypeId):Fct where
  p:=fun v=>v.im b∧∃ u,v.w.heap[b]? = some (.cells (F u).toArray T (0,0))
  mono:=fun v v' h hp=>⟨h.imUp b hp.1,by rw[h.block b hp.1];exact hp.2⟩
section
variable {P:Program} {N:Nf} {v0:Vw} {H0:Hp} {R:Exit→Act→World→Prop} {K:List Kt} {fr:Fr} {H Hs:Hp} {Γ Γs:List Fct}
variable {ops:Array Oper} {d:Nat} {ty:TypeId} {ps:String} {af:Array Edge} {fuel:Nat} {listed:Array Bool}
theorem ea_ {t:TypeId} {x:Operand} {b off:Nat} {F:Value→List Value} {T:TypeId} {u:Value} (ha:∀ w,(isAgg t).run P w=.ok false w) (hx:Fr.ev fr x=some (.pointer (some ⟨b,off,none⟩))) (ho:∀ v,v.sat H→aj_ Γ v→(hR_ b F T).p v) (hu:∀ z,(F z)[off]? = some u):Yld P N fr H Γ (.load t x) ty u :=
  eX_ hx fun v h2 h4=>df_ ha (by
    obtain⟨_,z,hz⟩:=ho v h2 h4
    have:=hu z
    simp only[World.cell?,hz,Nat.zero_add]
    simpa using this)
theorem ab_ {b:Nat} {F:Value→List Value} {T:TypeId} {u:Value} {R0:Hp} (hp:H.Perm ([(b,.cells (F u).toArray T (0,0))]++(Hs++R0))) (hΓ:∀ v,v.sat H→aj_ Γ v→aj_ Γs v):∀ v,v.sat H→aj_ Γ v→SW Hs (hR_ b F T::Γs) v.w:=fun v h1 h2=>by
 have h3:=h1.perm hp
 have hb:=h3.own (b,.cells (F u).toArray T (0,0)) (by simp)
 have hnd:=h3.nodup
 simp only[List.cons_append,List.nil_append,List.map_cons,List.nodup_cons]at hnd
 have hs:(⟨fun c=>v.im c∨c=b,v.w,v.sl⟩:Vw).sat Hs:=by
   refine⟨fun p hp'=>⟨(h3.own p (by simp[hp'])).1,fun hi=>?_⟩,?_,fun c hc=>?_⟩
   · rcases hi with hi|hi
     · exact (h3.own p (by simp[hp'])).2 hi
     · exact hnd.1 (by rw[← hi];exact List.mem_map_of_mem (by simp[hp']))
   · have:=hnd.2;rw[List.map_append,List.nodup_append]at this;exact this.1
   · rcases hc with hc|hc
     · exact h1.lt c hc
     · rw[hc];exact (Array.getElem?_eq_some_iff.1 hb.1).1
 have hle:v.le ⟨fun c=>v.im c∨c=b,v.w,v.sl⟩:=⟨fun c h=>.inl h,fun _ _=>rfl,rfl⟩
 exact⟨⟨fun c=>v.im c∨c=b,v.w,v.sl⟩,rfl,hs,⟨.inr rfl,u,hb.1⟩,bd_ hle (hΓ v h1 h2)⟩
theorem ac_ {b:Nat×Obj} {F G Hx:Hp} (h1:Hx.Perm ([b]++F)) (h2:F.Perm (Hs++G)):Hx.Perm ([b]++(Hs++G)):=h1.trans (h2.append_left [b])
theorem es_ {id:Nat} (f:Fct) (Hs:Hp) (hm:P.follows .mixedOrders=true) (h:Any P R N v0 H0 ops Hs (f::Γ) ops.size (Array.replicate ops.size false) K fr H Γ):Run P R N v0 H0 (.region id ops true) K fr H Γ:=jw_ Hs (f::Γ) hm h
theorem rg_ [NoPan R] (i:Nat) {oi:Oper} {x:Value} (hi:ops[i]? = some oi) (hn:Region.noSelect ops=true) (hf:Region.free .any ops listed i=true) (hr:(Region.ready .any ops listed).contains i=true)
    (hd:oi.dst=some d) (hN:Nat.blt d N.n=true) (hy:∀ a,Fr.sat N fr a→YieldsIf P ops (SW Hs Γs) oi x a) (hs:∀ v,v.sat H→aj_ Γ v→SW Hs Γs v.w)
    (h:Any P R N v0 H0 ops Hs Γs fuel (listed.setIfInBounds i true) K ((d,x)::fr) H Γ):Any P R N v0 H0 ops Hs Γs (fuel+1) listed K fr H Γ :=
  fun a v h1 h2 h3 h4=>wpAnyH_take hi hn hf hr (fun c a w hq=>absurd hq (gE_ K c _ w)) (hy a h1) (hs v h2 h4) (by
    rw[hd]
    exact h _ v (h1.put hN) h2 h3 h4)
def SqW (P:Program) (R:Exit→Act→World→Prop) (N:Nf) (v0:Vw) (H0:Hp) (ops:Array Oper) (Hs:Hp) (Γs:List Fct) (is:List Nat) (fuel:Nat) (listed:Array Bool) (K:List Kt) (fr:Fr) (H:Hp) (Γ:List Fct):Prop :=
  (Region.noSelect ops&&fu_ ops listed is)=true→(∀ v,v.sat H→aj_ Γ v→SW Hs Γs v.w)→Any P R N v0 H0 ops Hs Γs (fuel+is.length) listed K fr H Γ
theorem dH_ (fuel:Nat) (is:List Nat) (hq:(Region.noSelect ops&&fu_ ops listed is)=true) (hs:∀ v,v.sat H→aj_ Γ v→SW Hs Γs v.w) (h:SqW P R N v0 H0 ops Hs Γs is fuel listed K fr H Γ):Any P R N v0 H0 ops Hs Γs (fuel+is.length) listed K fr H Γ:=h hq hs
theorem dD_ (h:Any P R N v0 H0 ops Hs Γs fuel listed K fr H Γ):SqW P R N v0 H0 ops Hs Γs [] fuel listed K fr H Γ:=fun _ _=>h
theorem G_ [NoPan R] {i:Nat} {is:List Nat} {op:Op} {x:Value} (hi:ops[i]? = some ⟨some d,op,ty,ps,af,none⟩) (he:Yld P N fr Hs Γs op ty x) (hN:Nat.blt d N.n=true)
    (h:SqW P R N v0 H0 ops Hs Γs is fuel (listed.setIfInBounds i true) K ((d,x)::fr) H Γ):SqW P R N v0 H0 ops Hs Γs (i::is) fuel listed K fr H Γ:=fun hq hs=>by
  obtain⟨q1,q2,q3,q4⟩:=hM_ hq
  exact rg_ i hi q1 q2 q3 rfl hN (fun a h1=>.inl ⟨rfl,fun w ⟨v,e,k1,k2⟩=>by subst e;exact he a v h1 k1 k2 (some d) ps af⟩) hs (h q4 hs)
theorem P_ (hs:∀ v,v.sat H→aj_ Γ v→SW Hs Γs v.w) (h:Any P R N v0 H0 ops Hs Γs fuel listed K fr H Γ):Ok N v0 H0 (Nx P R ops Hs Γs fuel listed K) fr H Γ :=
  fun a v h1 h2 h3 h4=>⟨hs v h2 h4,h a v h1 h2 h3 h4⟩
end
end Go.Sx
namespace Go.Sx
open Go Go.Vs
section
variable {P:Program} {N:Nf} {v0:Vw} {H0:Hp} {fr:Fr} {H:Hp} {Γ:List Fct}
variable {K D:Type} [DecidableEq K] {kv:K→Value} {cells:D→List Value}
theorem jK_ {k0:Act→World→Prop} {kt:TypeId} {mb:Nat} {e:TypeId} {sz:Nat} {l:List (K×D)} {Hm F:Hp} (hK:KeyT P kt kv) (k:K) (hm:aP_ kv cells e sz l mb Hm) (hH:H.Perm (Hm++F))
    (h:∀ es c sv Hk Hr,aE_ e sz sv (lat l k).length ((lat l k).flatMap cells) Hk→MOp P kt kv cells e sz l mb k es c sv Hr→Hm.Perm ((mb,.map es c)::(Hk++Hr))→Ok N v0 H0 k0 fr ((mb,.map es c)::(Hk++(Hr++F))) Γ):Ok N v0 H0 k0 fr H Γ:=by
  obtain⟨es,c,sv,Hk,Hr,p1,p2,p3⟩:=hm.open hK k
  refine w_ (hH.trans (by
    have:=p1.append_right F
    simpa [List.append_assoc] using this)) (h es c sv Hk Hr p2 p3 p1)
theorem in_ {k0:Act→World→Prop} {b:Nat×Obj} {Hm Hk Hr F:Hp} (hc:Hm.Perm (b::(Hk++Hr))) (hH:H.Perm (b::(Hk++(Hr++F)))) (h:Ok N v0 H0 k0 fr (Hm++F) Γ):Ok N v0 H0 k0 fr H Γ :=
  w_ (hH.trans (by
    have:=(hc.append_right F).symm
    simpa [List.append_assoc] using this)) h
end
end Go.Sx
namespace Go.Sx
open Go
section
variable {P:Program} {N:Nat} {v0:Vw} {H0:Hp} {R:Exit→Act→World→Prop} {Kk:List Kt} {fr:Fr} {H:Hp} {Γ:List Fct}
variable {ops:Array Oper} {lo:List Oper} {d:Nat} {ty:TypeId} {ps:String} {af:Array Edge}
variable {K:Type} [DecidableEq K] {kv:K→Value}
structure ItS (kv:K→Value) (es:Array MapEntry) (seen:Array Nat) (done:List K):Prop where
  nd:done.Nodup
  mem:∀ e∈es.toList,seen.contains e.born=true↔∃ k∈done,e.key=kv k
  sub:∀ k∈done,∃ e∈es.toList,e.key=kv k
theorem ItS.nil {es:Array MapEntry}:ItS kv es #[] []:=⟨List.nodup_nil,fun e _=>by simp,fun k hk=>by simp at hk⟩
theorem SetE.entry {es:Array MapEntry} {q:List K} (hE:SetE kv es q) (hi:∀ x y,kv x=kv y→x=y) {x e:MapEntry} (hx:x∈es.toList) (he:e∈es.toList) (h:x.key=e.key):x=e:=by
 obtain⟨i,hi1,hi2⟩:=List.getElem_of_mem hx
 obtain⟨j,hj1,hj2⟩:=List.getElem_of_mem he
 have hl:=congrArg List.length hE.keys
 simp only[List.length_map]at hl
 have key:∀ (k:Nat) (hk:k<es.toList.length),es.toList[k].key=kv (q[k]'(by omega)):=fun k hk=>by
   have:=congrArg (fun l=>l[k]?) hE.keys
   simp only[List.getElem?_map]at this
   rw[List.getElem?_eq_getElem hk,List.getElem?_eq_getElem (by omega)]at this
   simpa using this
 have e1:=key i hi1
 have e2:=key j hj1
 rw[hi2]at e1
 rw[hj2]at e2
 have e3:=hi _ _ (e1.symm.trans (h.trans e2))
 have hij:i=j:=by
   rcases Nat.lt_trichotomy i j with h1|h1|h1
   · exact absurd e3 (List.pairwise_iff_getElem.1 hE.nd i j (by omega) (by omega) h1)
   · exact h1
   · exact absurd e3.symm (List.pairwise_iff_getElem.1 hE.nd j i (by omega) (by omega) h1)
 subst hij
 rw[← hi2,← hj2]
theorem SetE.ofKey {es:Array MapEntry} {q:List K} (hE:SetE kv es q) {e:MapEntry} (he:e∈es.toList):∃ k∈q,e.key=kv k:=by
  have:e.key∈es.toList.map (·.key):=List.mem_map_of_mem he
  rw[hE.keys]at this
  obtain⟨k,hk,h⟩:=List.mem_map.1 this
  exact⟨k,hk,h.symm⟩
theorem ItS.step {es:Array MapEntry} {q:List K} {c:Nat} {seen:Array Nat} {done:List K} {e:MapEntry} (hi:∀ x y,kv x=kv y→x=y) (hE:SetE kv es q) (hB:Born es c) (h:ItS kv es seen done) (he:e∈(leftOf es seen).toList) :
    ∃ k,k∈q∧k ∉ done∧e.key=kv k∧e∈es.toList∧ItS kv es (seen.push e.born) (done++[k]):=by
  unfold leftOf at he
  rw[Array.toList_filter,List.mem_filter]at he
  obtain⟨h1,h2⟩:=he
  obtain⟨k,hk,hkv⟩:=hE.ofKey h1
  have hnd:k ∉ done:=fun hm=>by
    have:=(h.mem e h1).2 ⟨k,hm,hkv⟩
    rw[this]at h2
    simp at h2
  refine⟨k,hk,hnd,hkv,h1,⟨?_,fun x hx=>?_,fun y hy=>?_⟩⟩
  · rw[List.nodup_append];exact⟨h.nd,by simp,fun a ha b hb e=>by simp at hb;subst hb;subst e;exact hnd ha⟩
  · rw[Array.contains_push,Bool.or_eq_true,h.mem x hx,beq_iff_eq]
    constructor
    · rintro (⟨y,hy,hyv⟩|h3)
      · exact⟨y,by simp[hy],hyv⟩
      · have:x=e:=by
          have hn:=hB.nd
          obtain⟨i,hi1,hi2⟩:=List.getElem_of_mem hx
          obtain⟨j,hj1,hj2⟩:=List.getElem_of_mem h1
          have hij:i=j:=by
            rcases Nat.lt_trichotomy i j with g|g|g
            · exact ((List.pairwise_iff_getElem.1 hn i j (by simpa using hi1) (by simpa using hj1) g) (by simp only[List.getElem_map,hi2,hj2,h3])).elim
            · exact g
            · exact ((List.pairwise_iff_getElem.1 hn j i (by simpa using hj1) (by simpa using hi1) g) (by simp only[List.getElem_map,hi2,hj2,h3])).elim
          subst hij
          rw[← hi2,← hj2]
        exact⟨k,by simp,this▸hkv⟩
    · rintro ⟨y,hy,hyv⟩
      rcases List.mem_append.1 hy with hy|hy
      · exact .inl ⟨y,hy,hyv⟩
      · rw[List.mem_singleton]at hy
        subst hy
        exact .inr (congrArg MapEntry.born (hE.entry hi hx h1 (hyv.trans hkv.symm)))
  · rcases List.mem_append.1 hy with hy|hy
    · exact h.sub y hy
    · rw[List.mem_singleton]at hy
      subst hy
      exact⟨e,h1,hkv⟩
theorem ItS.end {es:Array MapEntry} {q:List K} {seen:Array Nat} {done:List K} (hi:∀ x y,kv x=kv y→x=y) (hE:SetE kv es q) (h:ItS kv es seen done) (h0:(leftOf es seen).size=0):done.Perm q:=by
 refine (List.perm_ext_iff_of_nodup h.nd hE.nd).2 fun k=>⟨fun hk=>?_,fun hk=>?_⟩
 ·obtain⟨e,he,hkv⟩:=h.sub k hk
  obtain⟨k',hk',hkv'⟩:=hE.ofKey he
  exact hi _ _ (hkv.symm.trans hkv')▸hk'
 have:kv k∈es.toList.map (·.key):=by rw[hE.keys];exact List.mem_map_of_mem hk
 obtain⟨e,he,hkv⟩:=List.mem_map.1 this
 have hs:seen.contains e.born=true:=by
   cases hc:seen.contains e.born
   · exfalso
     have:e∈(leftOf es seen).toList:=by unfold leftOf;rw[Array.toList_filter,List.mem_filter];exact⟨he,by simp only[hc];rfl⟩
     have h1:=List.length_pos_of_mem this
     simp only[Array.length_toList]at h1
     omega
   · rfl
 obtain⟨k',hk',hkv'⟩:=(h.mem e he).1 hs
 exact hi _ _ (hkv.symm.trans hkv')▸hk'
end
section
variable {P:Program} {N:Nat} {v0:Vw} {H0:Hp} {R:Exit→Act→World→Prop} {K:List Kt} {fr:Fr} {H F:Hp} {Γ:List Fct}
def ro_ {σ:Type} (v0:Vw) (H0:Hp) (Hj:σ→Hp) (ok:σ→Prop) (HL:Hp):Exit→Act→World→Prop
  | .normal,_,w=>∃ s' v,ok s'∧v.w=w∧v.sat (Hj s'++HL)∧v0.to H0 v (Hj s'++HL)
  | _,_,_=>False
theorem lN_ {σ ι:Type} {l D:Nat} {rec:Loop} {pm:Nat} {x:Value} {Hj:σ→Hp} {s:σ} {ok:σ→Prop} (frA:ι→Fr) (HA:ι→Hp)
    (hp:rec.params=#[pm]) (hst:rec.state=.ready) (hpe:rec.pending=none) (ht:Fr.sat N fr ⟨rec.tmps,[]⟩) (hpm:Nat.blt pm N=true)
    (hassign:∀ n v0 H0 HL,pl_ (Fence.wide.inRound l) n P (Mid N v0 H0 frA (fun i=>HA i++HL) (fun _=>Γ)) N [] v0 H0 rec.assign [] ((pm,x)::fr) (Hj s++HL) Γ)
    (hbody:∀ n v0 H0 HL i,pl_ (Fence.wide.inRound l) n P (ro_ v0 H0 Hj ok HL) N [] v0 H0 rec.body [] (frA i) (HA i++HL) Γ) :
    rn_ P l x (Hj s++HLp l D rec) Γ (fun _:{s':σ // ok s'}=>.bool true) (fun s'=>Hj s'.1++HLp l D rec) (fun _=>[]):=by
  intro v hs hΓ
  have hpl:∀ (X:Hp) r,(X++HLp l D r).Perm ((l,.loop r)::(X++[(D,.deferred (some []))])):=fun X r=>by
    unfold HLp
    exact List.perm_middle
  have hl:v.w.heap[l]? = some (.loop rec):=((hs.perm (hpl _ _)).own _ List.mem_cons_self).1
  refine⟨rec.fn,_,rec.assign,rec.body,run_yield hl (by simp[hp]),fun n=>roundIn_of_wpIn trivial ?_⟩
  have htm:(rec.params.zip #[x]).foldl (fun tmps (t,a)=>tmps.setIfInBounds t a) rec.tmps=rec.tmps.setIfInBounds pm x:=by simp[hp]
  rw[htm]
  have hsat:Fr.sat N ((pm,x)::fr) ⟨rec.tmps.setIfInBounds pm x,[]⟩:=ht.put hpm
  refine wpIn_mono (gH_.1 (hassign n v (Hj s++HLp l D rec) (HLp l D rec)) ⟨rec.tmps.setIfInBounds pm x,[]⟩ v hsat hs (Vw.to.refl _ _) hΓ) ?_
  rintro e a1 w1 ⟨rfl,i,v1,rfl,k1,k2,k3,k4⟩
  have k2':=k2.perm (hpl _ _)
  have hl1:=(k2'.own _ List.mem_cons_self).1
  obtain⟨m1,m2⟩:=iV_ (o':=.loop { rec with state:=.busy }) k2'
  refine⟨_,run_beginRound hl1 hst,?_⟩
  have m3:=m1.perm (hpl (HA i) { rec with state:=.busy }).symm
  have m4:v.to (Hj s++HLp l D rec) ⟨v1.im,v1.w.putObj l (.loop { rec with state:=.busy }),v1.sl⟩ (HA i++HLp l D { rec with state:=.busy }) :=
    (k3.trans ((m2.permL (hpl _ _).symm).subR fun b hb=>((hpl (HA i) { rec with state:=.busy }).map Prod.fst).mem_iff.1 hb))
  have k4':=bd_ (m2.le k2') k4
  refine wpIn_mono (gH_.1 (hbody n v (Hj s++HLp l D rec) (HLp l D { rec with state:=.busy }) i) a1 ⟨v1.im,_,v1.sl⟩ k1 m3 m4 k4') ?_
  intro e2 a2 w2 hq
  cases e2 with
  | normal =>
    obtain⟨s',v2,hok,rfl,q1,q2⟩:=hq
    have q1':=q1.perm (hpl _ _)
    have hl2:=(q1'.own _ List.mem_cons_self).1
    obtain⟨z1,z2⟩:=iV_ (o':=.loop rec) q1'
    have er:({ rec with state:=.ready,pending:=none }:Loop)=rec:=by cases rec;simp_all
    refine⟨_,_,run_endRound none hl2,⟨s',hok⟩,⟨v2.im,v2.w.putObj l (.loop rec),v2.sl⟩,rfl,?_,z1.perm (hpl _ _).symm,trivial,q2.trans ((z2.permL (hpl _ _).symm).subR fun b hb=>((hpl (Hj s') rec).map Prod.fst).mem_iff.1 hb)⟩
    simp[er]
  | ret=>exact hq.elim
  | exit id=>exact hq.elim
  | goto t=>exact hq.elim
  | panic c=>exact hq.elim
  | outgrown=>exact hq.elim
theorem ng_ {σ:Type} {Hj:σ→Hp} {HL G:Hp} {ok:σ→Prop} (s':σ) (hr:ok s') (hH:H.Perm (Hj s'++HL++G)):OkD N [] v0 H0 (ro_ v0 H0 Hj ok HL .normal) fr H Γ :=
  qn_ (Γ':=[]) hH (fun _ _ _=>trivial) fun a v h1 h2 h3 _=>⟨s',v,hr,rfl,h2,h3⟩
theorem nd_ {σ α:Type} {g:Operand} {pm:Nat} {assign body:Code} {gf:FuncId} {caps:List Value} {Hj:σ→Hp} {Hc:Hp} {Γi:List Fct} {xv:α→Value} {good:σ→α→Prop} {nx:α→σ→σ→Prop} {Rc:σ→Prop}
    (s0:σ) (hg:Fr.ev fr g=some (.func (.func gf) #[] caps.toArray)) (hH:H.Perm (Hc++Hj s0)) (hΓi:∀ v,v.sat H→aj_ Γ v→aj_ Γi v)
    (hround:∀ l D (rec:Loop),rec.params=#[pm]→rec.state=.ready→rec.pending=none→Fr.sat N fr ⟨rec.tmps,[]⟩→rec.assign=assign→rec.body=body→∀ s x,good s x →
      rn_ P l (xv x) (Hj s++HLp l D rec) [] (fun _:{s':σ // nx x s s'}=>.bool true) (fun s'=>Hj s'.1++HLp l D rec) (fun _=>[]))
    (hit:∀ l (Gj:σ→Hp),(∀ s x,good s x→rn_ P l (xv x) (Gj s) [] (fun _:{s':σ // nx x s s'}=>.bool true) (fun s'=>Gj s'.1) (fun _=>[])) →
      Tri P gf (.func (.yield l) #[] #[]::caps).toArray (Hc++Gj s0) Γi (fun _:{s':σ // Rc s'}=>.tuple #[]) (fun s'=>Hc++Gj s'.1) (fun _=>[]))
    (hnext:∀ s',Rc s'→∀ D l r,sC_ Fence.wide 0 P R N (oJ_ D) v0 H0 K fr (Hc++Hj s'++HLp l D r) Γ) :
    Run P R N v0 H0 (.rangeFunc g #[pm] assign body) K fr H Γ:=by
  intro a v h1 h2 h3 h4
  refine wpIn_wide (n:=0) |>.1 (wpIn_mono (Q:=eE_ Fence.wide 0 P R K) (wpIn_rangeFunc fun fn _=>?_) fun e a w hq=>bB_ K e a w hq)
  obtain⟨a1,a2⟩:=iW_ (w':=v.w.alloc (.deferred (some []))) (o:=.deferred (some [])) h2 rfl rfl rfl rfl (Nat.le_refl _)
  obtain⟨rec,hrec⟩:∃ rec:Loop,rec={ state:=.ready,pending:=none,fn,tmps:=a.tmps,params:=#[pm],assign,body,defers:=v.w.heap.size }:=⟨_,rfl⟩
  obtain⟨b1,b2⟩:=iW_ (w':=(v.w.alloc (.deferred (some []))).alloc (.loop rec)) (o:=.loop rec) a1 rfl rfl rfl rfl (Nat.le_refl _)
  have hsz:(v.w.alloc (Obj.deferred (some []))).heap.size=v.w.heap.size+1:=by simp
  have b1':(⟨v.im,(v.w.alloc (.deferred (some []))).alloc (.loop rec),v.sl⟩:Vw).sat ((v.w.heap.size+1,.loop rec)::(v.w.heap.size,.deferred (some []))::H):=hsz▸b1
  have b2':v.to H ⟨v.im,(v.w.alloc (.deferred (some []))).alloc (.loop rec),v.sl⟩ ((v.w.heap.size+1,.loop rec)::(v.w.heap.size,.deferred (some []))::H):=a2.trans (hsz▸b2)
  have hperm:((v.w.heap.size+1,Obj.loop rec)::(v.w.heap.size,.deferred (some []))::H).Perm (Hc++(Hj s0++HLp (v.w.heap.size+1) v.w.heap.size rec)):=by
    rw[← List.append_assoc]
    exact (List.perm_append_comm (l₁:=HLp (v.w.heap.size+1) v.w.heap.size rec) (l₂:=H)).trans (hH.append_right _)
  have hT:=hit (v.w.heap.size+1) (fun s=>Hj s++HLp (v.w.heap.size+1) v.w.heap.size rec)
    (hround _ _ rec (by rw[hrec]) (by rw[hrec]) (by rw[hrec]) (by rw[hrec];exact⟨h1.size,rfl,h1.val⟩) (by rw[hrec]) (by rw[hrec]))
  have hΓ2:=bd_ (b2'.le h2) (hΓi v h2 h4)
  have hΓ3:=bd_ (b2'.le h2) h4
  have he:=h1.ev hg
  refine⟨v.w.heap.size+1,oJ_ v.w.heap.size,(v.w.alloc (.deferred (some []))).alloc (.loop rec),⟨.fn (.func gf) caps.toArray,#[.func (.yield (v.w.heap.size+1)) #[] #[]]⟩,(v.w.alloc (.deferred (some []))).alloc (.loop rec),gf,(.func (.yield (v.w.heap.size+1)) #[] #[]::caps).toArray,_,?_,?_,fun _ _=>trivial,?_,fun h=>(by cases h),callsIn_wide.2 ((hT.run ⟨v.im,_,v.sl⟩ (b1'.perm hperm) hΓ2).mono ?_)⟩
  · rw[hrec];exact run_enterLoop_outer _ _ _ _ _
  · simp only[resolve,rangeCall,List.map_toArray,List.map_cons,List.map_nil,he,Deferred.ofValue]
    rfl
  · have:=hT.callable (.func (.yield (v.w.heap.size+1)) #[] #[]::caps).toArray ((v.w.alloc (.deferred (some []))).alloc (.loop rec))
    simpa [invoke] using this
  · rintro e w' ⟨⟨s',hRc⟩,v',rfl,rfl,g1,g2,g3⟩
    have g3':=b2'.trans (g3.permL hperm.symm)
    have hΓ4:=bd_ (g3'.le h2) h4
    have hsd:∀ D',SatD N D' fr { a with defers:=D'++a.defers }:=fun D'=>⟨⟨h1.size,rfl,h1.val⟩,by show D'++a.defers=D';rw[h1.defers];simp⟩
    have hpl:∀ (X Y:Hp) r,(Y++(X++HLp (v.w.heap.size+1) v.w.heap.size r)).Perm ((v.w.heap.size+1,.loop r)::(Y++X++[(v.w.heap.size,.deferred (some []))])):=fun X Y r=>by
      unfold HLp
      rw[← List.append_assoc]
      exact List.perm_middle
    have q:=g1.perm (hpl (Hj s') Hc rec)
    have hl:=(q.own _ List.mem_cons_self).1
    obtain⟨z1,z2⟩:=iV_ (o':=.loop { rec with state:=.exhausted }) q
    have zp:((v.w.heap.size+1,Obj.loop { rec with state:=.exhausted })::(Hc++Hj s'++[(v.w.heap.size,.deferred (some []))])).Perm (Hc++Hj s'++HLp (v.w.heap.size+1) v.w.heap.size { rec with state:=.exhausted }):=by
      have:=(hpl (Hj s') Hc { rec with state:=.exhausted }).symm
      rw[← List.append_assoc]at this
      exact this
    refine⟨rec.pending,_,run_endLoop hl (by rw[hrec];simp),?_⟩
    have hpn:rec.pending=none:=by rw[hrec]
    split
    case h_2=>rename_i c hc;rw[hpn]at hc;cases hc
    exact hnext s' hRc _ _ _ _ ⟨v'.im,_,v'.sl⟩ (hsd _) (z1.perm zp) (h3.trans (g3'.trans ((z2.permL (hpl _ _ _).symm).subR fun b hb=>(zp.map Prod.fst).mem_iff.2 hb))) (bd_ (z2.le q) hΓ4)
end
section
variable {Fc:Fence} {n:Nat} {P:Program} {N:Nat} {D:List Deferred} {v0:Vw} {H0:Hp} {R:Exit→Act→World→Prop} {K:List Kt} {fr:Fr} {H:Hp} {Γ:List Fct}
variable {ops:Array Oper} {l:List Oper} {d:Nat} {ty:TypeId} {ps:String} {af:Array Edge}
theorem oF_ {t e:TypeId} {len sz:Nat} {parts:List (Nat×Operand)} {vs:List (Nat×Value)} {zv:Value} {cs:List Value} (hF:Opn Fc) (hu:∀ w,(underlying t).run P w=.ok (.slice e) w) (hs:∀ w,(sizeOf e).run P w=.ok sz w) (hz:∀ w,(zeroValue e).run P w=.ok zv w)
    (hzl:zv.cells.toList.length=sz) (hp:Nat.blt 0 (len*sz)=true) (hle:Nat.ble (len*sz) 16777216=true) (hx:Fr.evp fr parts=some vs) (hf:iH_ (fun i=>some (i*sz,sz)) (hk_ zv.cells.toList len) vs=some cs) (hN:Nat.blt d N=true)
    (hk:∀ b,hE_ Fc n P R N D v0 H0 ops l K ((d,.slice (some ⟨b,0,none⟩) len len)::fr) ((b,.cells cs.toArray e (0,0))::H) Γ):hE_ Fc n P R N D v0 H0 ops (⟨some d,.buildSlice t len parts.toArray,ty,ps,af,none⟩::l) K fr H Γ :=
  fn_ rfl fun a v h1 h2 h3 h4=>by
    refine⟨fun f _=>hF.fn f,?_⟩
    rw[semAt_eq rfl]
    have he:(execOp a.eval ⟨some d,.buildSlice t len parts.toArray,ty,ps,af,none⟩).run P v.w=.ok (.value (.slice (some ⟨v.w.heap.size,0,none⟩) len len)) (v.w.alloc (.cells cs.toArray e (0,0))):=by
      have hx':=h1.sat.evp hx
      have hf':=gM_ _ _ _ _ hf
      have hpos:0<len*sz:=by simpa [Nat.blt_eq] using hp
      have hszp:0<sz:=Nat.pos_of_mul_pos_left hpos
      have hle':len*sz≤16777216:=Nat.le_of_ble_eq_true hle
      have hr:=ht_ zv.cells.toList (by omega) len
      rw[hzl]at hr
      simp only[Array.toArray_toList]at hr
      rw[← hr]at hf'
      have hx2:(parts.map fun (i,x)=>(i,a.eval x))=vs:=hx'
      simp only[execOp,Instr.buildSlice,Sem.run_bind,hu,Result.andThen_ok,hs,List.map_toArray,hx2]
      rw[if_neg (by omega),if_neg (by omega)]
      simp only[Sem.run_bind,Sem.run_pure,hz,Result.andThen_ok,hf']
      rfl
    rw[he]
    obtain⟨g1,g2⟩:=iW_ (w':=v.w.alloc (.cells cs.toArray e (0,0))) (o:=.cells cs.toArray e (0,0)) h2 rfl rfl rfl rfl (Nat.le_refl _)
    exact hk v.w.heap.size _ ⟨v.im,_,v.sl⟩ (h1.put hN) g1 (h3.trans g2) (bd_ (g2.le h2) h4)
theorem qo_ {k:Act→World→Prop} {H':Hp} (hH:H.Perm H') (h:OkD N D v0 H0 k fr H' Γ):OkD N D v0 H0 k fr H Γ :=
  fun a v h1 h2 h3 h4=>h a v h1 (h2.perm hH) (h3.subR fun b hb=>(hH.map Prod.fst).mem_iff.2 hb) h4
theorem ko_ {t e:TypeId} {x y:Operand} {b off sz m:Nat} {sv:Value} {xs:List Value} {Hr:Hp} (hF:Opn Fc) (i:Nat) {cur:Array Value} {T:TypeId} (hrow:aE_ e sz sv m xs Hr) (hs:∀ w,(sizeOf t).run P w=.ok 1 w)
    (hx:Fr.ev fr x=some (.pointer (some ⟨b,off,none⟩))) (hy:Fr.ev fr y=some sv) (hi:H[i]? = some (b,.cells cur T (0,0))) (hf:Nat.ble (off+1) cur.size=true)
    (hk:hE_ Fc n P R N D v0 H0 ops l K fr (H.set i (b,.cells (cur.toList.take off++[sv]++cur.toList.drop (off+1)).toArray T (0,0))) Γ):hE_ Fc n P R N D v0 H0 ops (⟨none,.store t x y,ty,ps,af,none⟩::l) K fr H Γ :=
  nl_ hF i hs hx hy hi (by rw[(eC_ hrow).1];rfl) hf (by rw[(eC_ hrow).1];simp[(eC_ hrow).2]) (by rw[(eC_ hrow).1];exact hk)
theorem mm_ {x y:Operand} {t e:TypeId} {sz by' m k c:Nat} {sv:Value} {xs news:List Value} {Hr F:Hp} {ad:Addr} (hF:Opn Fc) (he:Elt P t e sz by') (hrow:aE_ e sz sv m xs Hr)
    (hx:Fr.ev fr x=some sv) (hy:Fr.ev fr y=some (.slice (some ad) k c)) (hH:H.Perm (Hr++F)) (hl:news.length=k*sz) (hnews:∀ v,v.sat H→aj_ Γ v→∀ j u,news[j]? = some u→v.w.cell? (ad.add j)=some u) (h1c:∀ u∈news,u.oneCell'=true)
    (h63:m+k≤maxLen) (hb:(m+k)*by'≤140737488355328) (hN:Nat.blt d N=true)
    (hk:∀ sv' Hr',aE_ e sz sv' (m+k) (xs++news) Hr'→hE_ Fc n P R N D v0 H0 ops l K ((d,sv')::fr) (Hr'++F) Γ) :
    hE_ Fc n P R N D v0 H0 ops (⟨some d,.call ⟨.builtin .append,#[x,y],#[t,t]⟩,ty,ps,af,none⟩::l) K fr H Γ :=
  fn_ rfl fun a v h1 h2 h3 h4=>by
    refine⟨fun f _=>hF.fn f,?_⟩
    rw[semAt_eq rfl]
    obtain⟨i,z,hi,hz,es,eb,ez⟩:=he.info
    have g:=h2.perm hH
    have hn:=hnews v h2 h4
    have ho:=hrow.owns g
    obtain⟨v',w',hr,q1,q2,_⟩:=run_append_own (P:=P) v.w 0 t ty e i z sz by' he.und hi hz es eb ez he.pos sv m xs ho ad k c news hl hn h1c h63 hb (Nat.zero_le _)
    obtain⟨a1,a2⟩:=ie_ v.w he.und hi hz es ho hl hn h1c h63 (by rw[eb];exact hb) hr
    obtain⟨Hr',k1,k2,k3⟩:=kV_ hrow g q1 q2 a1 a2
    have e1:a.eval x=sv:=h1.sat.ev hx
    have e2:a.eval y=.slice (some ad) k c:=h1.sat.ev hy
    have hxx:(execOp a.eval ⟨some d,.call ⟨.builtin .append,#[x,y],#[t,t]⟩,ty,ps,af,none⟩).run P v.w=.ok (.value v') w':=by
      simp only[execOp,resolve,invoke,builtin,Sem.run_bind,Sem.run_pure,Result.andThen_ok,List.map_toArray,List.map_cons,List.map_nil,e1,e2,hr]
    rw[hxx]
    exact hk v' Hr' k1 _ ⟨v.im,w',v.sl⟩ (h1.put hN) k2 (h3.trans (k3.permL hH.symm)) (bd_ ((k3.permL hH.symm).le h2) h4)
end
end Go.Sx
namespace Go.Sx
open Go
section
variable {P:Program} {N:Nat} {v0:Vw} {H0:Hp} {R:Exit→Act→World→Prop} {K:List Kt} {fr:Fr} {H F:Hp} {Γ:List Fct}
theorem bN_ {n:Nat}:∀ (K:List Kt) (e:Exit) (a:Act) (w:World),post P R K e a w→eE_ Fence.wide n P R K e a w
 | [],_,_,_,h=>h
 | .seq c::K,.normal,a,w,h=>wpIn_wide.2 (wp_mono h fun e a w hq=>bN_ K e a w hq)
 | .seq _::K,.exit _,a,w,h=>bN_ K _ a w h
 | .seq _::K,.goto _,a,w,h=>bN_ K _ a w h
 | .seq _::K,.ret,a,w,h=>bN_ K _ a w h
 | .seq _::K,.panic _,a,w,h=>bN_ K _ a w h
 | .seq _::K,.outgrown,a,w,h=>bN_ K _ a w h
 | .inv J::_,.normal,_,_,h=>h
 | .inv _::K,.exit _,a,w,h=>bN_ K _ a w h
 | .inv _::K,.goto _,a,w,h=>bN_ K _ a w h
 | .inv _::K,.ret,a,w,h=>bN_ K _ a w h
 | .inv _::K,.panic _,a,w,h=>bN_ K _ a w h
 | .inv _::K,.outgrown,a,w,h=>bN_ K _ a w h
 | .blk id::K,.exit id',a,w,h=>by
   simp only[eE_,post]at h ⊢
   split
   · rename_i e;rw[if_pos e]at h;exact bN_ K _ a w h
   · rename_i e;rw[if_neg e]at h;exact bN_ K _ a w h
 | .blk _::K,.normal,a,w,h=>bN_ K _ a w h
 | .blk _::K,.goto _,a,w,h=>bN_ K _ a w h
 | .blk _::K,.ret,a,w,h=>bN_ K _ a w h
 | .blk _::K,.panic _,a,w,h=>bN_ K _ a w h
 | .blk _::K,.outgrown,a,w,h=>bN_ K _ a w h
theorem mD_ {D:Nat} {n:Nat} (h:Fin P R ⟨N,oJ_ D⟩ v0 H0 K fr H Γ):sC_ Fence.wide n P R N (oJ_ D) v0 H0 K fr H Γ :=
  fun a v h1 h2 h3 h4=>bN_ K _ a v.w (h a v ⟨h1.sat.size,h1.defers,h1.sat.val⟩ h2 h3 h4)
theorem retMF {fn:Func} {ι:Type} {D:Nat} {G:Hp} {ret:ι→Value} {H':ι→Hp} {Γ':ι→List Fct} (x:ι) (hx:∀ (a:Act) (v:Vw),Fr.sat (⟨N,oJ_ D⟩:Nf) fr a→v.sat G→aj_ Γ v→(results fn a.tmps).run P v.w=.ok (ret x) v.w) (hH:H.Perm ((D,.deferred (some []))::(G)))
    (hG:∃ G',G.Perm (H' x++G')) (hΓ:∀ v,v.sat G→aj_ Γ v→aj_ (Γ' x) v):Ok ⟨N,oJ_ D⟩ v0 H0 (bodyPostM Fence.wide 0 P fn (iS_ v0 H0 ret H' Γ') .ret) fr H Γ:=by
  intro a v h1 h2 h3 h4
  show LeavesInM Fence.wide 0 P fn a.tmps _ a.defers .returning v.w
  rw[h1.defers]
  have q:=h2.perm hH
  have hl:=(q.own _ List.mem_cons_self).1
  obtain⟨z1,z2⟩:=iV_ (o':=.deferred none) q
  have z3:(⟨v.im,v.w.putObj D (.deferred none),v.sl⟩:Vw).sat G:=⟨fun p hp=>z1.own p (List.mem_cons_of_mem _ hp),by have:=z1.nodup;rw[List.map_cons,List.nodup_cons]at this;exact this.2,z1.lt⟩
  have z4:=bd_ (z2.le q) h4
  obtain⟨G',hG'⟩:=hG
  refine⟨by simp,.inl ⟨D,_,rfl,run_takeDeferred hl,ret x,?_,x,⟨v.im,_,v.sl⟩,rfl,rfl,(z3.perm hG').sub,hΓ _ z3 z4,?_⟩⟩
  · exact hx a ⟨v.im,_,v.sl⟩ h1 z3 z4
  · refine (h3.trans (z2.permL hH.symm)).subR fun b hb=>?_
    have:b∈(H' x++G').map Prod.fst:=by rw[List.map_append];exact List.mem_append_left _ hb
    rw[List.map_cons]
    exact List.mem_cons_of_mem _ ((hG'.map Prod.fst).mem_iff.2 this)
end
end Go.Sx
namespace Go.Sx
open Go
section
variable {P:Program} {N:Nf} {v0:Vw} {H0:Hp} {R:Exit→Act→World→Prop} {K:List Kt} {fr:Fr} {H F:Hp} {Γ:List Fct} {ops:Array Oper} {l:List Oper} {d:Nat} {ty:TypeId} {ps:String} {af:Array Edge} {e:TypeId} {sz n:Nat} {sv:Value} {xs:List Value} {Hr:Hp}
theorem qz_ (z:List Value) (hz:0<z.length) (n:Nat):madeCells z.toArray (n*z.length)=(hk_ z n).toArray:=ht_ z hz n
theorem fv_ {t:TypeId} {x y:Operand} {by':Nat} {z:Value} (ht:P.underlying t=some (.slice e)) (hi:(P.info? e).map (fun i=>(i.zero,i.size,i.bytes))=some (some z,sz,by')) (hzs:z.cells.toList.length=sz) (hsz:0<sz) (hx:Fr.ev fr x=some (.int .i64 (n:Int))) (hy:Fr.ev fr y=some (.int .i64 (n:Int)))
    (hb:by'*n≤281474976710656) (h63:n≤maxLen) (hN:Nat.blt d N.n=true)
    (hk:∀ sv Hr,aE_ e sz sv n (hk_ z.cells.toList n) Hr→Ops P R N v0 H0 ops l K ((d,sv)::fr) (Hr++H) Γ):Ops P R N v0 H0 ops (⟨some d,.makeSlice t x y,ty,ps,af,none⟩::l) K fr H Γ:=by
  refine gn_ (x:=fun b=>.slice (some ⟨b,0,none⟩) n n) (o:=.cells (hk_ z.cells.toList n).toArray e (0,0)) hN (fun a v h1 _ _=>?_) (fun b=>hk _ [(b,.cells (hk_ z.cells.toList n).toArray e (0,0))] ⟨?_,.inr ⟨b,n,(hk_ z.cells.toList n).toArray,rfl,rfl,Nat.le_refl _,h63,?_,?_⟩⟩)
  · cases h:P.info? e with
    | none=>rw[h]at hi;cases hi
    | some i =>
      rw[h]at hi
      simp only[Option.map_some,Option.some.injEq,Prod.mk.injEq]at hi
      have hb':(i.bytes:Int)*(n:Int)≤281474976710656:=by
        rw[hi.2.2]
        have h:((by'*n:Nat):Int)≤281474976710656:=by omega
        rwa [Int.natCast_mul]at h
      have hr:=run_make (P:=P) v.w t e i z ht h hi.1 .i64 .i64 (n:Int) (n:Int) (by omega) (Int.le_refl _) hb' (by simp only[maxLen]at h63;omega)
      have hm:=qz_ z.cells.toList (by omega) n
      rw[hzs,Array.toArray_toList]at hm
      rw[hi.2.1,Int.toNat_natCast,hm]at hr
      simp only[execOp,h1.ev hx,h1.ev hy]
      simp[hr]
  · rw[gw_,hzs]
  · simp only[List.size_toArray];rw[gw_,hzs]
  · rw[List.toList_toArray,List.take_of_length_le (by rw[gw_,hzs];exact Nat.le_refl _)]
theorem gv_ {α:Type} (f:α→List Value) (z:α):∀ n,hk_ (f z) n=(List.replicate n z).flatMap f
  | 0=>rfl
  | n+1=>by rw[hk_,List.replicate_succ,List.flatMap_cons,gv_ f z n]
theorem oq_ {α:Type} (l us:List α) (k m:Nat) (hk:k+us.length≤m) (hm:m≤l.length):(l.take k++us++l.drop (k+us.length)).take m=(l.take m).take k++us++(l.take m).drop (k+us.length):=by
  rw[List.take_take,Nat.min_eq_left (by omega),List.take_append,List.take_of_length_le (by simp only[List.length_append,List.length_take];omega)]
  congr 1
  rw[List.drop_take]
  congr 1
  simp only[List.length_append,List.length_take]
  omega
theorem nj_ {t:TypeId} {x y:Operand} {k:Nat} {us:List Value} (hrow:aE_ e sz sv n xs Hr) (hH:H.Perm (Hr++F)) (hs:∀ w,(sizeOf t).run P w=.ok sz w) (hx:Fr.ev fr x=some (.pointer (some ⟨svB sv,k,none⟩))) (hy:Fr.ev fr y=some (.agg us.toArray)) (hk:k+sz≤n*sz) (hus:us.length=sz) (hp:0<sz) (hu1:us.all Value.oneCell'=true)
    (h:∀ Hr',aE_ e sz sv n (xs.take k++us++xs.drop (k+sz)) Hr'→Ops P R N v0 H0 ops l K fr (Hr'++F) Γ):Ops P R N v0 H0 ops (⟨none,.store t x y,ty,ps,af,none⟩::l) K fr H Γ:=by
  rcases hrow.2 with⟨_,h2,_⟩|⟨g,cap,cur,rfl,rfl,h3,h4,h5,h6⟩
  · subst h2;simp only[Nat.zero_mul]at hk;omega
  · have hle:n*sz≤cap*sz:=Nat.mul_le_mul_right _ h3
    have hlx:=hrow.1
    refine w_ hH (A_ (b:=g) (off:=k) (n:=sz) 0 hs hx hy rfl (by simpa [Value.cells] using hus) ?_ (by simpa [Value.cells] using hu1) ?_)
    · have hb:k+sz≤cur.size:=by rw[h5];omega
      simpa using hb
    · refine h [(g,.cells (cur.toList.take k++us++cur.toList.drop (k+sz)).toArray e (0,0))] ⟨by simp only[List.length_append,List.length_take,List.length_drop];omega,.inr ⟨g,cap,_,rfl,rfl,h3,h4,?_,?_⟩⟩
      · simp only[List.size_toArray,List.length_append,List.length_take,List.length_drop,Array.length_toList,h5];omega
      · show ((cur.toList.take k++us++cur.toList.drop (k+sz)).toArray).toList.take (n*sz)=_
        rw[List.toList_toArray,← h6]
        have:=oq_ cur.toList us k (n*sz) (by omega) (by rw[Array.length_toList,h5];exact hle)
        rw[hus]at this;exact this
theorem nV_ {α:Type} (f:α→List Value) (z:Nat) (hf:∀ x,(f x).length=z):∀ (l:List α) (i:Nat) (y:α),i<l.length→(l.flatMap f).take (i*z)++f y++(l.flatMap f).drop (i*z+z)=(l.set i y).flatMap f
  | [],i,y,h=>by simp at h
  | a::l,0,y,h=>by
    rw[List.flatMap_cons,List.set_cons_zero,List.flatMap_cons,Nat.zero_mul,List.take_zero,List.nil_append,Nat.zero_add,List.drop_append,List.drop_of_length_le (by rw[hf];exact Nat.le_refl _),hf,Nat.sub_self];rfl
  | a::l,i+1,y,h=>by
    have h':i<l.length:=by simpa using h
    rw[List.flatMap_cons,List.set_cons_succ,List.flatMap_cons,← nV_ f z hf l i y h',Nat.succ_mul,List.take_append,List.take_of_length_le (by rw[hf];omega),List.drop_append,List.drop_of_length_le (by rw[hf];omega),hf]
    rw[show i*z+z - z=i*z by omega,show i*z+z+z - z=i*z+z by omega]
    simp[List.append_assoc]
theorem js_ (h:aE_ e sz sv n xs Hr):∃ ad cap,sv=.slice ad n cap:=by
 rcases h.2 with⟨rfl,rfl,_⟩|⟨g,cap,cur,rfl,_⟩
 ·exact⟨none,0,rfl⟩
 exact⟨_,cap,rfl⟩
end
end Go.Sx
namespace Go.Vs
open Go Go.Sx
def nD_ (T:TypeId) (s:Stp) (H:Hp):Prop:=aE_ T 1 (.slice s.ad s.frm.length s.cap) s.frm.length (s.frm.flatMap ae_) H
def iT_ (T:TypeId):List Stp→Hp→Prop
  | [],H=>H=[]
  | s::l,H=>∃ Hs Hr,H=Hs++Hr∧nD_ T s Hs∧iT_ T l Hr
def Stp.zero:Stp:=⟨0,⟨0,[],[],[],0,0⟩,0,none,0,[]⟩
theorem kM_ (T:TypeId):∀ n,iT_ T (List.replicate n Stp.zero) []
  | 0=>rfl
  | n+1=>⟨[],[],rfl,aE_.nil T 1,kM_ T n⟩
theorem iT_.get {T:TypeId}:∀ {l:List Stp} {H:Hp} {i:Nat} {s:Stp},iT_ T l H→l[i]? = some s→∃ Hs Hr,H.Perm (Hs++Hr)∧nD_ T s Hs∧∀ s' Hs',nD_ T s' Hs'→∃ H',iT_ T (l.set i s') H'∧H'.Perm (Hs'++Hr)
 | [],_,i,_,_,h=>by simp at h
 | t::l,H,0,s,ho,h=>by
   simp only[List.getElem?_cons_zero,Option.some.injEq]at h
   subst h
   obtain⟨Hs,Hr,rfl,h1,h2⟩:=ho
   exact⟨Hs,Hr,.refl _,h1,fun s' Hs' h'=>⟨Hs'++Hr,⟨Hs',Hr,rfl,h',h2⟩,.refl _⟩⟩
 | t::l,H,i+1,s,ho,h=>by
   simp only[List.getElem?_cons_succ]at h
   obtain⟨Ht,Hl,rfl,h1,h2⟩:=ho
   obtain⟨Hs,Hr,p1,p2,p3⟩:=h2.get h
   refine⟨Hs,Ht++Hr,?_,p2,fun s' Hs' h'=>?_⟩
   · refine (List.Perm.append_left Ht p1).trans ?_
     rw[← List.append_assoc,← List.append_assoc]
     exact List.perm_append_comm.append_right _
   · obtain⟨H',q1,q2⟩:=p3 s' Hs' h'
     refine⟨Ht++H',⟨Ht,H',rfl,h1,q1⟩,(List.Perm.append_left Ht q2).trans ?_⟩
     rw[← List.append_assoc,← List.append_assoc]
     exact List.perm_append_comm.append_right _
theorem mj_ {T:TypeId} {v:Vw}:∀ {l:List Stp} {H:Hp},iT_ T l H→(∀ p∈H,v.im p.1∧v.w.heap[p.1]? = some p.2)→(aQ_ l).p v
 | [],_,_,_=>er_
 | s::l,H,h,hv=>by
   obtain⟨Hs,Hr,rfl,h1,h2⟩:=h
   intro x hx
   rcases List.mem_cons.1 hx with rfl|hx
   · obtain⟨ad,cap,e,_,_,_,hr⟩:=kE_ h1 fun p hp=>hv p (List.mem_append_left _ hp)
     simp only[Value.slice.injEq]at e
     rw[e.1];exact hr
   · exact mj_ h2 (fun p hp=>hv p (List.mem_append_right _ hp)) x hx
end Go.Vs
namespace Go.Vs
open Go Go.Sx
def iz_ {α:Type} (l:List α) (i:Nat) (Q:Nat→α→Prop):Prop:=∀ j,j<i→∀ a,l[j]? = some a→Q j a
theorem iz_.zero {α:Type} {l:List α} {Q:Nat→α→Prop}:iz_ l 0 Q:=fun j hj=>by omega
theorem iz_.step {α:Type} {l:List α} {i:Nat} {Q:Nat→α→Prop} {a:α} (h:iz_ l i Q) (hr:l[i]? = some a) (hq:Q i a):iz_ l (i+1) Q:=fun j hj b hb=>by
 by_cases e:j=i
 ·subst e;rw[hr]at hb;cases hb;exact hq
 exact h j (by omega) b hb
theorem iz_.done {α:Type} {l:List α} {i:Nat} {Q:Nat→α→Prop} (h:iz_ l i Q) (hi:¬ (i:Int)<(l.length:Int)):∀ j a,l[j]? = some a→Q j a:=fun j a hj =>
  h j (by have:=(List.getElem?_eq_some_iff.1 hj).1;omega) a hj
theorem iz_.all {α:Type} {l:List α} {i:Nat} {Q:α→Prop} (h:iz_ l i fun _ a=>Q a) (hi:¬ (i:Int)<(l.length:Int)):∀ a∈l,Q a:=fun a ha=>by
  obtain⟨j,hj⟩:=List.getElem?_of_mem ha
  exact h.done hi j a hj
def rq_ (l:List Stp):Prop:=l≠[]∧∀ (i:Nat) s,l[i]? = some s→∀ q∈s.frm,0≤q∧q<(i:Int)
def Fc.wf (f:Fc):Prop:=f.a≠[]∧((f.kind=1∧f.b≠[]∧f=y_ f.a f.b)∨(f.kind=2∧f.b≠[]∧f.r≠[]∧f=E_ f.a f.r f.b)∨(f.kind=3∧f.r≠[]∧f=M_ f.a f.r f.lo f.hi∧-1099511627776≤f.lo∧f.lo≤f.hi∧f.hi≤1099511627776))
end Go.Vs
namespace Go.Vs
open Go Go.Sx
def cp_ (l:List Stp) (s:Stp):Nat:=(fcs l).idxOf s.fact
def fsL (l:List Stp):List Int:=l.map fun s=>(cp_ l s:Int)
def hF (l:List Stp) (q:Int):Int:=(fsL l).getD q.toNat 0
theorem gp_ (l:List Stp):(fsL l).length=l.length:=by simp[fsL]
theorem jb_ {l:List Stp} {i:Nat} {s:Stp} (h:l[i]? = some s):(fsL l)[i]? = some (cp_ l s:Int):=by simp[fsL,h]
theorem lz_ {l:List Stp} {i:Nat} {s:Stp} (h:l[i]? = some s):cp_ l s≤i:=by
 have h1:(fcs l)[i]? = some s.fact:=by simp[fcs,h]
 obtain⟨hi,he⟩:=List.getElem?_eq_some_iff.1 h1
 unfold cp_
 by_cases hc:(fcs l).idxOf s.fact≤i
 ·exact hc
 have:=List.not_of_lt_findIdx (p:=(·==s.fact)) (xs:=fcs l) (i:=i) (by unfold List.idxOf at hc;omega)
 simp[he]at this
theorem qP_ {l:List Stp} {s:Stp} (h:s∈l):(fcs l)[cp_ l s]? = some s.fact:=by
  have hm:s.fact∈fcs l:=List.mem_map_of_mem h
  have hlt:=List.idxOf_lt_length_iff.2 hm
  unfold cp_
  rw[List.getElem?_eq_getElem hlt,List.getElem_idxOf]
theorem ja_ {l:List Stp} {s:Stp} (h:s∈l):cp_ l s<l.length:=by
  rw[← ia_];exact List.idxOf_lt_length_iff.2 (List.mem_map_of_mem h)
theorem mC_ {l:List Stp} {q:Int} {s:Stp} (h:l[q.toNat]? = some s):hF l q=(cp_ l s:Int):=by
  unfold hF;rw[List.getD_eq_getElem?_getD,jb_ h];rfl
def fsI (l:List Stp) (i:Nat):List Int:=(fsL l).take i++List.replicate (l.length - i) 0
theorem qQ_ (l:List Stp):fsI l 0=List.replicate l.length 0:=by simp[fsI]
theorem jc_ (l:List Stp) {i:Nat} (h:i≤l.length):(fsI l i).length=l.length:=by simp[fsI,gp_];omega
theorem sd_ (l:List Stp) {i:Nat} (h:l.length≤i):fsI l i=fsL l:=by
  unfold fsI;rw[List.take_of_length_le (by rw[gp_];exact h),show l.length - i=0 by omega];simp
theorem jd_ {l:List Stp} {i j:Nat} (h:j<i) (hi:i≤l.length):(fsI l i)[j]? = (fsL l)[j]? := by
  unfold fsI
  rw[List.getElem?_append_left (by rw[List.length_take,gp_];omega),List.getElem?_take_of_lt h]
theorem sc_ {l:List Stp} {i:Nat} {s:Stp} (h:l[i]? = some s):(fsI l i).set i (cp_ l s:Int)=fsI l (i+1):=by
 have hi:=(List.getElem?_eq_some_iff.1 h).1
 apply List.ext_getElem?
 intro j
 rw[List.getElem?_set,jc_ l (by omega)]
 by_cases hj:i=j
 ·subst hj
  rw[if_pos rfl,if_pos hi,jd_ (by omega) (by omega),jb_ h]
 rw[if_neg hj]
 by_cases h2:j<i
 ·rw[jd_ h2 (by omega),jd_ (by omega) (by omega)]
 unfold fsI
 rw[List.getElem?_append_right (by rw[List.length_take,gp_];omega),List.getElem?_append_right (by rw[List.length_take,gp_];omega),List.length_take,List.length_take,gp_,Nat.min_eq_left (by omega),Nat.min_eq_left (by omega),List.getElem?_replicate,List.getElem?_replicate]
 by_cases h3:j<l.length
 ·rw[if_pos (by omega),if_pos (by omega)]
 rw[if_neg (by omega),if_neg (by omega)]
structure KnI (l:List Stp) (i:Nat) (ks:List Fc) (vs:List Int):Prop where
  mem:∀ f,f∈ks↔f∈fcs (l.take i)
  val:∀ (q:Nat) k v,ks[q]? = some k→vs[q]? = some v→v=((fcs l).idxOf k:Int)
  len:ks.length≤i
theorem KnI.nil (l:List Stp):KnI l 0 [] []:=⟨by simp[fcs],by simp,by simp⟩
theorem oS_ {l:List Stp} {i:Nat} {s:Stp} (h:l[i]? = some s) (hn:s.fact ∉ fcs (l.take i)):cp_ l s=i:=by
 have h1:=lz_ h
 by_cases he:cp_ l s=i
 ·exact he
 exfalso
 have hm:=List.mem_of_getElem? h
 have h2:=qP_ hm
 apply hn
 have:(fcs (l.take i))[cp_ l s]? = some s.fact:=by
   unfold fcs at h2 ⊢
   rw[List.map_take,List.getElem?_take_of_lt (by omega)];exact h2
 exact List.mem_of_getElem? this
theorem hl_ {l:List Stp} {i:Nat} {s:Stp} (h:l[i]? = some s):fcs (l.take (i+1))=fcs (l.take i)++[s.fact]:=by
  rw[List.take_add_one,h,Option.toList_some,cv_];rfl
theorem KnI.new {l:List Stp} {i:Nat} {ks:List Fc} {vs:List Int} {s:Stp} (h:KnI l i ks vs) (hl:vs.length=ks.length) (hs:l[i]? = some s) (hn:s.fact ∉ ks):KnI l (i+1) (ks++[s.fact]) (vs++[(i:Int)])∧(i:Int)=(cp_ l s:Int):=by
 have hi:=oS_ hs (fun q=>hn ((h.mem _).2 q))
 refine⟨⟨fun f=>?_,fun q k v hk hv=>?_,by have:=h.len;simp;omega⟩,by rw[hi]⟩
 ·rw[hl_ hs,List.mem_append,List.mem_append,h.mem]
 by_cases hq:q<ks.length
 ·rw[List.getElem?_append_left hq]at hk
  rw[List.getElem?_append_left (by omega)]at hv
  exact h.val q k v hk hv
 have e:q=ks.length:=by have:=(List.getElem?_eq_some_iff.1 hk).1;simp at this;omega
 subst e
 rw[List.getElem?_append_right (by omega)]at hk
 rw[List.getElem?_append_right (by omega),hl]at hv
 simp at hk hv
 rw[← hv,← hk]
 show _=(cp_ l s:Int)
 rw[hi]
theorem KnI.old {l:List Stp} {i:Nat} {ks:List Fc} {vs:List Int} {s:Stp} {m:Int} (h:KnI l i ks vs) (hs:l[i]? = some s) (hn:s.fact∈ks) (hm:∃ q:Nat,ks[q]? = some s.fact∧vs[q]? = some m):KnI l (i+1) ks vs∧m=(cp_ l s:Int):=by
 obtain⟨q,h1,h2⟩:=hm
 refine⟨⟨fun f=>?_,h.val,by have:=h.len;omega⟩,h.val q _ _ h1 h2⟩
 rw[hl_ hs,List.mem_append,h.mem]
 constructor
 ·exact .inl
 rintro (q|q)
 ·exact q
 rw[List.mem_singleton]at q;rw[q];exact (h.mem _).1 hn
structure TsI (l ts:List Stp) (i:Nat):Prop where
  len:ts.length=l.length
  done:∀ (j:Nat) s t,j<i→l[j]? = some s→ts[j]? = some t→t.rule=s.rule∧t.fact=s.fact∧t.piece=s.piece∧t.frm=s.frm.map (hF l)
  rest:∀ (j:Nat) t,i≤j→ts[j]? = some t→t.ad=none∧t.cap=0∧t.frm=[]
theorem TsI.zero (l:List Stp):TsI l (List.replicate l.length Stp.zero) 0:=by
 refine⟨by simp,fun j s t hj=>by omega,fun j t _ ht=>?_⟩
 rw[List.getElem?_replicate]at ht
 split at ht
 ·cases ht;exact⟨rfl,rfl,rfl⟩
 cases ht
theorem TsI.step {l ts:List Stp} {i:Nat} {s t:Stp} (h:TsI l ts i) (hs:l[i]? = some s) (ht:t.rule=s.rule∧t.fact=s.fact∧t.piece=s.piece∧t.frm=s.frm.map (hF l)):TsI l (ts.set i t) (i+1):=by
 have hi:=(List.getElem?_eq_some_iff.1 hs).1
 refine⟨by rw[List.length_set];exact h.len,fun j s' t' hj hs' ht'=>?_,fun j t' hj ht'=>?_⟩
 ·rw[List.getElem?_set]at ht'
  by_cases e:i=j
  ·subst e
   rw[if_pos rfl,if_pos (by rw[h.len];exact hi)]at ht'
   rw[hs]at hs';cases hs';cases ht';exact ht
  rw[if_neg e]at ht'
  exact h.done j s' t' (by omega) hs' ht'
 rw[List.getElem?_set,if_neg (by omega)]at ht'
 exact h.rest j t' (by omega) ht'
end Go.Vs
namespace Go.Vs
open Go Go.Sx
theorem qg_ {T:TypeId} {ts:List Stp} {HO HR:Hp} {i:Nat} {t s:Stp} (ho:iT_ T ts HO) (hi:ts[i]? = some t) (ht:t.ad=none∧t.cap=0∧t.frm=[]) (hR:nD_ T s HR):∃ H',iT_ T (ts.set i s) H'∧(HR++HO).Perm H':=by
 obtain⟨Hs,Hr,p1,p2,p3⟩:=ho.get hi
 obtain⟨H',q1,q2⟩:=p3 s HR hR
 have e:Hs=[]:=by
   rcases p2.2 with⟨_,_,h⟩|⟨g,cap,cur,h,_⟩
   · exact h
   · rw[ht.1]at h;simp at h
 subst e
 exact⟨H',q1,(List.Perm.append_left HR (by simpa using p1)).trans q2.symm⟩
theorem fsI_hF {l:List Stp} {i:Nat} {q:Int} (h:q.toNat<i) (hi:i≤l.length):(fsI l i)[q.toNat]? = some (hF l q):=by
  rw[jd_ h hi]
  have:l[q.toNat]? = some l[q.toNat]:=List.getElem?_eq_getElem (by omega)
  rw[mC_ this,jb_ this]
end Go.Vs
namespace Go.Vs
open Go Go.Sx
inductive Nd (us:List Stp):Nat→Prop
  | last {n:Nat} (h:us.length=n+1):Nd us n
  | step {m n:Nat} {s:Stp} (hm:Nd us m) (hs:us[m]? = some s) (hq:(n:Int)∈s.frm):Nd us n
structure NdL (us:List Stp) (L:List Int):Prop where
  dec:L.Pairwise (·>·)
  nat:∀ x∈L,∃ n:Nat,x=n∧Nd us n
  all:∀ n:Nat,Nd us n→(n:Int)∈L
structure MkI (us:List Stp) (bs:List Bool) (k:Nat) (L:List Int):Prop where
  len:bs.length=us.length
  dec:L.Pairwise (·>·)
  nat:∀ x∈L,∃ n:Nat,x=n∧k≤n∧Nd us n
  all:∀ n:Nat,k≤n→Nd us n→(n:Int)∈L
  mrk:∀ j,j<k→(bs[j]? = some true↔us.length=j+1∨∃ m,k≤m∧Nd us m∧∃ s,us[m]? = some s∧(j:Int)∈s.frm)
section
variable {us:List Stp} {bs bs':List Bool} {n:Nat} {L:List Int} {s:Stp}
theorem MkI.nd (h:MkI us bs (n+1) L) (hord:∀ (i:Nat) s,us[i]? = some s→∀ q∈s.frm,0≤q∧q<(i:Int)):bs[n]? = some true↔Nd us n:=by
 rw[h.mrk n (by omega)]
 constructor
 ·rintro (h1|⟨m,_,h1,s,h2,h3⟩)
  ·exact .last h1
  exact .step h1 h2 h3
 rintro (h1|⟨h1,h2,h3⟩)
 ·exact .inl h1
 refine .inr ⟨_,?_,h1,_,h2,h3⟩
 have:=(hord _ _ h2 _ h3).2;omega
theorem MkI.miss (h:MkI us bs (n+1) L) (hord:∀ (i:Nat) s,us[i]? = some s→∀ q∈s.frm,0≤q∧q<(i:Int)) (hn:bs[n]? = some false):MkI us bs n L:=by
 have hnd:¬ Nd us n:=fun q=>by rw[← h.nd hord,hn]at q;cases q
 refine⟨h.len,h.dec,fun x hx=>?_,fun m hm hd=>?_,fun j hj=>?_⟩
 ·obtain⟨m,e,h1,h2⟩:=h.nat x hx;exact⟨m,e,by omega,h2⟩
 ·by_cases e:m=n
  ·subst e;exact absurd hd hnd
  exact h.all m (by omega) hd
 rw[h.mrk j (by omega)]
 refine or_congr_right ⟨fun⟨m,h1,h2⟩=>⟨m,by omega,h2⟩,fun⟨m,h1,h2⟩=>⟨m,?_,h2⟩⟩
 by_cases e:m=n
 ·subst e;exact absurd h2.1 hnd
 omega
theorem MkI.hit (h:MkI us bs (n+1) L) (hord:∀ (i:Nat) s,us[i]? = some s→∀ q∈s.frm,0≤q∧q<(i:Int)) (hn:bs[n]? = some true) (hs:us[n]? = some s) (hl:bs'.length=bs.length) (hb:∀ q:Nat,bs'[q]? = some true↔bs[q]? = some true∨(q:Int)∈s.frm):MkI us bs' n (L++[(n:Int)]):=by
 have hnd:Nd us n:=(h.nd hord).1 hn
 refine⟨hl.trans h.len,?_,fun x hx=>?_,fun m hm hd=>?_,fun j hj=>?_⟩
 ·rw[List.pairwise_append]
  refine⟨h.dec,by simp,fun x hx y hy=>?_⟩
  rw[List.mem_singleton]at hy;subst hy
  obtain⟨m,e,h1,_⟩:=h.nat x hx;omega
 ·rcases List.mem_append.1 hx with hx|hx
  ·obtain⟨m,e,h1,h2⟩:=h.nat x hx;exact⟨m,e,by omega,h2⟩
  rw[List.mem_singleton]at hx;exact⟨n,hx,Nat.le_refl _,hnd⟩
 ·by_cases e:m=n
  ·subst e;simp
  exact List.mem_append_left _ (h.all m (by omega) hd)
 rw[hb j,h.mrk j (by omega),or_assoc]
 refine or_congr_right ⟨?_,?_⟩
 ·rintro (⟨m,h1,h2⟩|h1)
  ·exact⟨m,by omega,h2⟩
  exact⟨n,Nat.le_refl _,hnd,s,hs,h1⟩
 rintro ⟨m,h1,h2,t,h3,h4⟩
 by_cases e:m=n
 ·subst e;rw[hs]at h3;cases h3;exact .inr h4
 exact .inl ⟨m,by omega,h2,t,h3,h4⟩
theorem kO_ (hord:∀ (i:Nat) s,us[i]? = some s→∀ q∈s.frm,0≤q∧q<(i:Int)) {n:Nat} (h:Nd us n):n<us.length:=by
  induction h with
  | last h=>omega
  | step hm hs hq ih=>have:=(hord _ _ hs _ hq).2;omega
theorem MkI.start (hord:∀ (i:Nat) s,us[i]? = some s→∀ q∈s.frm,0≤q∧q<(i:Int)) (hne:us≠[]):MkI us ((List.replicate us.length false).set (us.length - 1) true) us.length []:=by
 have hl:=List.length_pos_iff.2 hne
 refine⟨by simp,by simp,by simp,fun n hn hd=>?_,fun j hj=>?_⟩
 ·have:=kO_ hord hd;omega
 rw[List.getElem?_set]
 by_cases e:us.length - 1=j
 ·rw[if_pos e,if_pos (by simp;omega)]
  exact⟨fun _=>.inl (by omega),fun _=>rfl⟩
 rw[if_neg e,List.getElem?_replicate,if_pos hj]
 constructor
 ·intro q;cases q
 rintro (q|⟨m,h1,h2,_⟩)
 ·omega
 have:=kO_ hord h2;omega
theorem MkI.done (h:MkI us bs 0 L):NdL us L:=⟨h.dec,fun x hx=>by obtain⟨n,e,_,h1⟩:=h.nat x hx;exact⟨n,e,h1⟩,fun n hn=>h.all n (Nat.zero_le _) hn⟩
theorem MkI.llen (h:MkI us bs n L) (hord:∀ (i:Nat) s,us[i]? = some s→∀ q∈s.frm,0≤q∧q<(i:Int)):L.length≤us.length:=by
  have h1:L.Nodup:=h.dec.imp fun hab=>by omega
  have h2:∀ x∈L,x∈(List.range us.length).map Int.ofNat:=fun x hx=>by
    obtain⟨m,e,_,hd⟩:=h.nat x hx
    exact List.mem_map.2 ⟨m,List.mem_range.2 (kO_ hord hd),e.symm⟩
  have:=fp_ h1 h2
  simpa using this
theorem no_ {cs:List Bool} {fr:List Int} {j:Nat} {x:Int} (hb:∀ q:Nat,cs[q]? = some true↔bs[q]? = some true∨(q:Int)∈fr.take j) (hx:fr[j]? = some x) (h0:0≤x) (hlt:x.toNat<cs.length):∀ q:Nat,(cs.set x.toNat true)[q]? = some true↔bs[q]? = some true∨(q:Int)∈fr.take (j+1):=fun q=>by
 rw[List.take_add_one,hx,Option.toList_some,List.mem_append,List.mem_singleton,List.getElem?_set]
 by_cases e:x.toNat=q
 ·rw[if_pos e,if_pos hlt]
  exact⟨fun _=>.inr (.inr (by omega)),fun _=>rfl⟩
 rw[if_neg e,hb q]
 constructor
 ·rintro (h|h)
  ·exact .inl h
  exact .inr (.inl h)
 rintro (h|h|h)
 ·exact .inl h
 ·exact .inr h
 omega
end
def id_ (b:Bool):List Value:=[.bool b]
theorem ix_ (b:Bool):(id_ b).length=1:=rfl
structure RevI (L M:List Int) (k:Nat):Prop where
  len:M.length=L.length
  k2:2*k≤L.length+1
  get:∀ i:Nat,i<L.length→M[i]? = if i<k∨L.length≤i+k then L[L.length - 1 - i]? else L[i]?
theorem RevI.zero (L:List Int):RevI L L 0:=⟨rfl,by omega,fun i hi=>by rw[if_neg (by omega)]⟩
theorem RevI.step {L M:List Int} {k:Nat} {a b:Int} (h:RevI L M k) (hk:(k:Int)<(L.length:Int) - 1 - (k:Int)) (ha:M[L.length - 1 - k]? = some a) (hb:M[k]? = some b):RevI L ((M.set k a).set (L.length - 1 - k) b) (k+1):=by
 have hl:=h.len
 refine⟨by simp[hl],by omega,fun i hi=>?_⟩
 have ga:=h.get (L.length - 1 - k) (by omega)
 have gb:=h.get k (by omega)
 rw[if_neg (by omega)]at ga gb
 rw[List.getElem?_set,List.getElem?_set,List.length_set]
 by_cases e1:L.length - 1 - k=i
 ·rw[if_pos e1,if_pos (by omega),if_pos (by omega)]
  rw[← hb,gb];congr 1;omega
 rw[if_neg e1]
 by_cases e2:k=i
 ·rw[if_pos e2,if_pos (by omega),if_pos (by omega),← ha,ga,e2]
 rw[if_neg e2,h.get i hi]
 by_cases e3:i<k∨L.length≤i+k
 ·rw[if_pos e3,if_pos (by omega)]
 rw[if_neg e3,if_neg (by omega)]
theorem RevI.done {L M:List Int} {k:Nat} (h:RevI L M k) (hk:¬ (k:Int)<(L.length:Int) - 1 - (k:Int)):M=L.reverse:=by
 apply List.ext_getElem?
 intro i
 by_cases hi:i<L.length
 ·rw[h.get i hi,List.getElem?_reverse hi]
  by_cases e:i<k∨L.length≤i+k
  ·rw[if_pos e]
  rw[if_neg e];congr 1;omega
 rw[List.getElem?_eq_none (by rw[h.len];omega),List.getElem?_eq_none (by simp;omega)]
end Go.Vs
namespace Go.Vs
open Go Go.Sx
theorem TsI.ord {l ts:List Stp} (h:TsI l ts l.length) (hord:∀ (i:Nat) s,l[i]? = some s→∀ q∈s.frm,0≤q∧q<(i:Int)):∀ (i:Nat) t,ts[i]? = some t→∀ q∈t.frm,0≤q∧q<(i:Int):=fun i t ht q hq=>by
  have hi:i<l.length:=by rw[← h.len];exact (List.getElem?_eq_some_iff.1 ht).1
  have hs:l[i]? = some l[i]:=List.getElem?_eq_getElem hi
  rw[(h.done i _ t hi hs ht).2.2.2]at hq
  obtain⟨r,hr,rfl⟩:=List.mem_map.1 hq
  obtain⟨h0,h1⟩:=hord i _ hs r hr
  have hr2:l[r.toNat]? = some (l[r.toNat]'(by omega)):=List.getElem?_eq_getElem (by omega)
  rw[mC_ hr2]
  have:=lz_ hr2
  omega
theorem TsI.fl {l ts:List Stp} {n:Nat} (h:TsI l ts l.length) (hfl:∀ s∈l,s.frm.length≤n):∀ t∈ts,t.frm.length≤n:=fun t ht=>by
  obtain⟨i,hi⟩:=List.getElem?_of_mem ht
  have hil:i<l.length:=by rw[← h.len];exact (List.getElem?_eq_some_iff.1 hi).1
  have hs:l[i]? = some l[i]:=List.getElem?_eq_getElem hil
  rw[(h.done i _ t hil hs hi).2.2.2,List.length_map]
  exact hfl _ (List.getElem_mem hil)
end Go.Vs
namespace Go.Vs
open Go Go.Sx
def pix (O:List Int) (q:Int):Int:=(O.idxOf q:Int)
def ev_ (O fr:List Int) (j:Nat):List Int:=(fr.take j).map (pix O)++fr.drop j
theorem oI_ (O fr:List Int):ev_ O fr 0=fr:=by simp[ev_]
theorem fQ_ (O fr:List Int) (j:Nat):(ev_ O fr j).length=fr.length:=by simp[ev_];omega
theorem qy_ (O fr:List Int) {j:Nat} (h:fr.length≤j):ev_ O fr j=fr.map (pix O):=by
  unfold ev_;rw[List.take_of_length_le h,List.drop_of_length_le h,List.append_nil]
theorem qx_ {O fr:List Int} {j:Nat} {x:Int} (h:fr[j]? = some x):(ev_ O fr j)[j]? = some x:=by
  have hj:=(List.getElem?_eq_some_iff.1 h).1
  unfold ev_
  rw[List.getElem?_append_right (by simp;omega)]
  simp only[List.length_map,List.length_take,Nat.min_eq_left (Nat.le_of_lt hj),Nat.sub_self,List.getElem?_drop,Nat.add_zero];exact h
theorem qw_ {O fr:List Int} {j:Nat} {x:Int} (h:fr[j]? = some x):(ev_ O fr j).set j (pix O x)=ev_ O fr (j+1):=by
 have hj:=(List.getElem?_eq_some_iff.1 h).1
 apply List.ext_getElem?
 intro i
 rw[List.getElem?_set,fQ_]
 by_cases e:j=i
 ·subst e
  rw[if_pos rfl,if_pos hj]
  unfold ev_
  rw[List.getElem?_append_left (by simp;omega),List.getElem?_map,List.getElem?_take_of_lt (by omega),h];rfl
 rw[if_neg e]
 unfold ev_
 by_cases h2:i<j
 ·rw[List.getElem?_append_left (by simp;omega),List.getElem?_append_left (by simp;omega),List.getElem?_map,List.getElem?_map,List.getElem?_take_of_lt h2,List.getElem?_take_of_lt (by omega)]
 rw[List.getElem?_append_right (by simp;omega),List.getElem?_append_right (by simp;omega),List.getElem?_drop,List.getElem?_drop]
 congr 1
 simp only[List.length_map,List.length_take];omega
structure PlI (ts:List Stp) (O:List Int) (k:Nat) (pl:List Int) (tk Y:List Stp):Prop where
  pln:pl.length=ts.length
  plc:∀ (j:Nat) q,j<k→O[j]? = some q→pl[q.toNat]? = some (j:Int)
  tl:tk.length=ts.length
  tkk:∀ (i:Nat) t t',ts[i]? = some t→tk[i]? = some t'→t'.rule=t.rule∧t'.fact=t.fact∧t'.piece=t.piece∧t'.ad=t.ad∧t'.cap=t.cap∧t'.frm=if (i:Int)∈O.take k then t.frm.map (pix O) else t.frm
  yl:Y.length=k
  yy:∀ (j:Nat) q,j<k→O[j]? = some q→Y[j]? = tk[q.toNat]?
theorem PlI.zero (ts:List Stp) (O:List Int):PlI ts O 0 (List.replicate ts.length 0) ts []:=by
  refine⟨by simp,fun j q hj=>by omega,rfl,fun i t t' h h'=>?_,rfl,fun j q hj=>by omega⟩
  rw[h]at h';cases h';simp
section
variable {ts tk Y:List Stp} {O pl:List Int} {k n:Nat} {t:Stp}
theorem is_ {O:List Int} (h:O.Pairwise (·<·)):O.Nodup:=h.imp fun hab=>by omega
theorem qM_ {O:List Int} (h:O.Pairwise (·<·)) {k:Nat} {x:Int} (hk:O[k]? = some x):x ∉ O.take k:=fun hm=>by
  obtain⟨j,hj⟩:=List.getElem?_of_mem hm
  have hjk:=(List.getElem?_eq_some_iff.1 hj).1
  simp at hjk
  rw[List.getElem?_take_of_lt (by omega)]at hj
  have:=(List.getElem?_inj (List.getElem?_eq_some_iff.1 hj).1 (is_ h)).1 (hj.trans hk.symm)
  omega
theorem PlI.at (h:PlI ts O k pl tk Y) (hO:O.Pairwise (·<·)) (hk:O[k]? = some (n:Int)) (ht:ts[n]? = some t):tk[n]? = some t:=by
  have hn:n<tk.length:=by rw[h.tl];exact (List.getElem?_eq_some_iff.1 ht).1
  have h1:tk[n]? = some tk[n]:=List.getElem?_eq_getElem hn
  obtain⟨e1,e2,e3,e4,e5,e6⟩:=h.tkk n t _ ht h1
  rw[if_neg (qM_ hO hk)]at e6
  rw[h1]
  generalize tk[n]=u at *
  cases u;cases t;simp_all
theorem PlI.place (h:PlI ts O k pl tk Y) (hO:O.Pairwise (·<·)) (hk:O[k]? = some (n:Int)) (hnl:n<ts.length) {m:Int} (hm:m∈O) (h0:0≤m) (hmn:m<n):(pl.set n (k:Int))[m.toNat]? = some (pix O m):=by
 rw[List.getElem?_set_ne (by omega)]
 have hi:=List.idxOf_lt_length_iff.2 hm
 have hg:O[O.idxOf m]? = some m:=by rw[List.getElem?_eq_getElem hi,List.getElem_idxOf]
 refine h.plc _ m ?_ hg
 by_cases hc:O.idxOf m<k
 ·exact hc
 exfalso
 have hkl:=(List.getElem?_eq_some_iff.1 hk).1
 by_cases e:O.idxOf m=k
 ·rw[e,hk]at hg;cases hg;omega
 have:=List.pairwise_iff_getElem.1 hO k (O.idxOf m) hkl hi (by omega)
 rw[List.getElem?_eq_getElem hkl]at hk
 rw[List.getElem?_eq_getElem hi]at hg
 simp only[Option.some.injEq]at hk hg
 omega
theorem PlI.step (h:PlI ts O k pl tk Y) (hO:O.Pairwise (·<·)) (hO0:∀ x∈O,0≤x) (hk:O[k]? = some (n:Int)) (ht:ts[n]? = some t):PlI ts O (k+1) (pl.set n (k:Int)) (tk.set n ⟨t.rule,t.fact,t.piece,t.ad,t.cap,t.frm.map (pix O)⟩) (Y++[⟨t.rule,t.fact,t.piece,t.ad,t.cap,t.frm.map (pix O)⟩]):=by
 have hnl:=(List.getElem?_eq_some_iff.1 ht).1
 have hkl:=(List.getElem?_eq_some_iff.1 hk).1
 have hot:O.take (k+1)=O.take k++[(n:Int)]:=by rw[List.take_add_one,hk];rfl
 have hne:∀ (j:Nat) q,j<k→O[j]? = some q→q≠(n:Int):=fun j q hj hq e=>by
   subst e
   have:=(List.getElem?_inj (List.getElem?_eq_some_iff.1 hq).1 (is_ hO)).1 (hq.trans hk.symm)
   omega
 refine⟨by rw[List.length_set];exact h.pln,fun j q hj hq=>?_,by rw[List.length_set];exact h.tl,fun i u u' hu hu'=>?_,by simp[h.yl],fun j q hj hq=>?_⟩
 ·by_cases e:j=k
  ·subst e;rw[hk]at hq;cases hq
   simp only[Int.toNat_natCast]
   rw[List.getElem?_set_self (by rw[h.pln];exact hnl)]
  have hqn:=hne j q (by omega) hq
  have hq0:=hO0 q (List.mem_of_getElem? hq)
  have h1:=h.plc j q (by omega) hq
  by_cases h0:q.toNat=n
  ·rw[h0,List.getElem?_set_self (by rw[h.pln];exact hnl)]
   exfalso
   have hlt:=List.pairwise_iff_getElem.1 hO j k (List.getElem?_eq_some_iff.1 hq).1 hkl (by omega)
   rw[List.getElem?_eq_getElem hkl]at hk
   rw[List.getElem?_eq_getElem (List.getElem?_eq_some_iff.1 hq).1]at hq
   simp only[Option.some.injEq]at hk hq
   rw[hk,hq]at hlt
   omega
  rw[List.getElem?_set_ne (by omega)];exact h1
 ·rw[hot]
  by_cases e:n=i
  ·subst e
   rw[List.getElem?_set_self (by rw[h.tl];exact hnl)]at hu'
   rw[ht]at hu;cases hu;cases hu'
   exact⟨rfl,rfl,rfl,rfl,rfl,by rw[if_pos (by simp)]⟩
  rw[List.getElem?_set_ne e]at hu'
  obtain⟨e1,e2,e3,e4,e5,e6⟩:=h.tkk i u u' hu hu'
  refine⟨e1,e2,e3,e4,e5,?_⟩
  rw[e6]
  have:(i:Int)∈O.take k++[(n:Int)]↔(i:Int)∈O.take k:=by
    rw[List.mem_append,List.mem_singleton];exact or_iff_left (by omega)
  simp only[this]
 by_cases e:j=k
 ·subst e;rw[hk]at hq;cases hq
  simp only[Int.toNat_natCast]
  rw[List.getElem?_append_right (by rw[h.yl];exact Nat.le_refl _),h.yl,Nat.sub_self,List.getElem?_set_self (by rw[h.tl];exact hnl)];rfl
 rw[List.getElem?_append_left (by rw[h.yl];omega),h.yy j q (by omega) hq]
 have hqn:=hne j q (by omega) hq
 have hq0:=hO0 q (List.mem_of_getElem? hq)
 have hlt:=List.pairwise_iff_getElem.1 hO j k (List.getElem?_eq_some_iff.1 hq).1 hkl (by omega)
 have hq2:=hq
 have hk2:=hk
 rw[List.getElem?_eq_getElem hkl]at hk2
 rw[List.getElem?_eq_getElem (List.getElem?_eq_some_iff.1 hq).1]at hq2
 simp only[Option.some.injEq]at hk2 hq2
 rw[hk2,hq2]at hlt
 by_cases h0:q.toNat=n
 ·exfalso;omega
 rw[List.getElem?_set_ne (by omega)]
end
end Go.Vs
namespace Go.Vs
open Go Go.Sx
theorem PlI.sub {ts tk Y:List Stp} {O pl:List Int} {k:Nat} (h:PlI ts O k pl tk Y) (hk:k≤O.length):∀ y∈Y,y∈tk:=fun y hy=>by
  obtain⟨j,hj⟩:=List.getElem?_of_mem hy
  have hjk:j<k:=by rw[← h.yl];exact (List.getElem?_eq_some_iff.1 hj).1
  have hq:O[j]? = some (O[j]'(by omega)):=List.getElem?_eq_getElem (by omega)
  have:=h.yy j _ hjk hq
  rw[hj]at this
  exact List.mem_of_getElem? this.symm
inductive NdS (l:List Stp):Nat→Prop
  | last {s:Stp} (h:l[l.length - 1]? = some s):NdS l (cp_ l s)
  | step {m:Nat} {s t:Stp} {q:Int} (hm:NdS l m) (hs:l[m]? = some s) (hq:q∈s.frm) (ht:l[q.toNat]? = some t):NdS l (cp_ l t)
structure TrimR (l Y:List Stp) (O:List Int):Prop where
  inc:O.Pairwise (·<·)
  nat:∀ x∈O,∃ n:Nat,x=n∧NdS l n
  all:∀ n,NdS l n→(n:Int)∈O
  len:Y.length=O.length
  step:∀ (j n:Nat) s y,O[j]? = some (n:Int)→l[n]? = some s→Y[j]? = some y→y.rule=s.rule∧y.fact=s.fact∧y.piece=s.piece∧y.frm=s.frm.map fun q=>pix O (hF l q)
def lK_ (l Y:List Stp):Prop:=∃ O,TrimR l Y O
theorem jM_ {l:List Stp} {n:Nat} (h:NdS l n):n<l.length:=by
  cases h with
  | last h=>exact ja_ (List.mem_of_getElem? h)
  | step hm hs hq ht=>exact ja_ (List.mem_of_getElem? ht)
theorem qt_ {l:List Stp} {xl:Stp} (hord:∀ (i:Nat) s,l[i]? = some s→∀ q∈s.frm,0≤q∧q<(i:Int)) (hx:l[l.length - 1]? = some xl) {n:Nat} (h:NdS l n):n≤cp_ l xl:=by
  induction h with
  | last h=>rw[hx]at h;cases h;exact Nat.le_refl _
  | step hm hs hq ht ih =>
    have h1:=hord _ _ hs _ hq
    have h2:=lz_ ht
    omega
theorem qu_ {l ts:List Stp} {xl:Stp} (h:TsI l ts l.length) (hord:∀ (i:Nat) s,l[i]? = some s→∀ q∈s.frm,0≤q∧q<(i:Int)) (hx:l[l.length - 1]? = some xl) (n:Nat):Nd (ts.take (cp_ l xl+1)) n↔NdS l n:=by
 have hla:=ja_ (List.mem_of_getElem? hx)
 have hul:(ts.take (cp_ l xl+1)).length=cp_ l xl+1:=by rw[List.length_take,h.len];omega
 have hget:∀ (m:Nat) s,m≤cp_ l xl→l[m]? = some s→∃ t,(ts.take (cp_ l xl+1))[m]? = some t∧t.frm=s.frm.map (hF l):=fun m s hm hs=>by
   have hml:=(List.getElem?_eq_some_iff.1 hs).1
   have ht:ts[m]? = some (ts[m]'(by rw[h.len];exact hml)):=List.getElem?_eq_getElem _
   exact⟨_,by rw[List.getElem?_take_of_lt (by omega)];exact ht,(h.done m s _ hml hs ht).2.2.2⟩
 constructor
 ·intro hn
  induction hn with
  | last hl=>rw[hul]at hl;have e:cp_ l xl=_:=Nat.succ.inj hl;rw[← e];exact .last hx
  | @step m n t hm ht hq ih =>
    have hml:m<l.length:=jM_ ih
    have hs:l[m]? = some l[m]:=List.getElem?_eq_getElem hml
    obtain⟨t',h1,h2⟩:=hget m _ (qt_ hord hx ih) hs
    rw[ht]at h1;cases h1
    rw[h2]at hq
    obtain⟨r,hr,e⟩:=List.mem_map.1 hq
    have hb:=hord m _ hs r hr
    have hr2:l[r.toNat]? = some (l[r.toNat]'(by omega)):=List.getElem?_eq_getElem (by omega)
    rw[mC_ hr2]at e
    have e':cp_ l _=n:=Int.ofNat.inj e
    rw[← e'];exact .step ih hs hr hr2
 intro hn
 induction hn with
 | last hl=>rw[hx]at hl;cases hl;exact .last hul
 | @step m s u q hm hs hq hu ih =>
   obtain⟨t,h1,h2⟩:=hget m s (qt_ hord hx hm) hs
   refine .step ih h1 ?_
   rw[h2]
   exact List.mem_map.2 ⟨q,hq,mC_ hu⟩
theorem PlI.done {l ts tk Y:List Stp} {O pl:List Int} {xl:Stp} (h:PlI ts O O.length pl tk Y) (ht:TsI l ts l.length) (hord:∀ (i:Nat) s,l[i]? = some s→∀ q∈s.frm,0≤q∧q<(i:Int)) (hx:l[l.length - 1]? = some xl) (hOi:O.Pairwise (·<·)) (hOn:∀ x∈O,∃ n:Nat,x=n∧Nd (ts.take (cp_ l xl+1)) n) (hOa:∀ n,Nd (ts.take (cp_ l xl+1)) n→(n:Int)∈O):TrimR l Y O:=by
 refine⟨hOi,fun x hx'=>?_,fun n hn=>hOa n ((qu_ ht hord hx n).2 hn),h.yl,fun j n s y hj hs hy=>?_⟩
 ·obtain⟨n,e,h1⟩:=hOn x hx';exact⟨n,e,(qu_ ht hord hx n).1 h1⟩
 have hjl:=(List.getElem?_eq_some_iff.1 hj).1
 have hnl:=(List.getElem?_eq_some_iff.1 hs).1
 have h1:=h.yy j _ hjl hj
 simp only[Int.toNat_natCast]at h1
 rw[hy]at h1
 have htn:ts[n]? = some (ts[n]'(by rw[ht.len];exact hnl)):=List.getElem?_eq_getElem _
 obtain⟨e1,e2,e3,e4⟩:=ht.done n s _ hnl hs htn
 obtain⟨g1,g2,g3,_,_,g6⟩:=h.tkk n _ _ htn h1.symm
 refine⟨g1.trans e1,g2.trans e2,g3.trans e3,?_⟩
 rw[g6,List.take_length,if_pos (List.mem_of_getElem? hj),e4,List.map_map];rfl
end Go.Vs
namespace Go.Vs
open Go Go.Sx
def Ky.cells (k:Ky):List Value:=[.int .i64 k.kind,str k.role,str k.atom]
theorem Ky.cells_len (k:Ky):k.cells.length=3:=rfl
def Ky.val (k:Ky):Value:=.agg k.cells.toArray
def hN_ (s:eA_):List Value:=[str s.1,str s.2]
def aR_ (s:eA_):Value:=.agg (hN_ s).toArray
def Ky.eqb (p q:Ky):Bool:=(p.kind==q.kind)&&((p.role==q.role)&&((p.atom==q.atom)&&true))
theorem Ky.eqb_eq (p q:Ky):p.eqb q=decide (p=q):=by
  rw[Bool.eq_iff_iff];cases p;cases q;simp[Ky.eqb]
def sE_ (p q:eA_):Bool:=(p.1==q.1)&&((p.2==q.2)&&true)
theorem lW_ (p q:eA_):sE_ p q=decide (p=q):=by
  rw[Bool.eq_iff_iff];cases p;cases q;simp[sE_]
theorem Fc.cells_one (p:Fc):p.cells.all Value.oneCell'=true:=rfl
end Go.Vs
namespace Go.Sx
open Go Go.Vs
structure Emt (P:Program) (tF:TypeId) where
  stp:Fc→List Fc→List Fc
  kof:List Fc→List Fc
  St:List Fc→List Fc→Hp→Prop
  fn:FuncId
  caps:List Value
  ef:Fct
  kb:Nat
  fb:Nat
  grows:Grows stp kof
  emit:∀ f nw fm H,St nw fm H→Tri P fn (f.val::caps).toArray H [ef] (fun _:{H':Hp // St (stp f nw) fm H'}=>.tuple #[]) (fun y=>y.1) (fun _=>[])
  known:∀ {nw fm H},St nw fm H→∃ es c,(kb,Obj.map es c)∈H∧SetE Fc.val es (kof nw)
  firm:∀ {nw fm H},St nw fm H→∃ es c q,(fb,Obj.map es c)∈H∧SetE Fc.val es q∧∀ f,f∈q↔f∈fm
  setf:∀ {nw fm H} (f:Fc),St nw fm H→∃ es c q Hr,H.Perm ((fb,Obj.map es c)::Hr)∧SetE Fc.val es q∧(∀ f,f∈q↔f∈fm)∧∀ es' c',SetE Fc.val es' (if f∈q then q else q++[f])→∃ H',St nw (f::fm) H'∧H'.Perm ((fb,Obj.map es' c')::Hr)
section
variable {P:Program} {N:Nf} {v0:Vw} {H0:Hp} {R:Exit→Act→World→Prop} {K:List Kt} {fr:Fr} {H:Hp} {Γ:List Fct}
variable {ops:Array Oper} {l:List Oper} {d:Nat} {ty:TypeId} {ps:String} {af:Array Edge} {tF:TypeId} {E:Emt P tF} {nw fm:List Fc} {Hs F:Hp}
theorem jD_ {b:Nat} {o:Obj} {v:Vw} (hp:H.Perm (Hs++F)) (hm:(b,o)∈Hs) (h:v.sat H):v.w.heap[b]? = some o:=(h.own _ (hp.mem_iff.2 (List.mem_append_left _ hm))).1
theorem gW_ {t et:TypeId} {x y:Operand} {f:Fc} (hS:E.St nw fm Hs) (hK:KeyT P tF Fc.val) (hu:∀ w,(underlying t).run P w=.ok (.map tF et) w) (hz:∀ w,(zeroValue et).run P w=.ok (.bool false) w) (hx:Fr.ev fr x=some (.map (some E.kb))) (hy:Fr.ev fr y=some f.val) (hp:H.Perm (Hs++F)) :
    Yld P N fr H Γ (.lookup t x y false) ty (.bool (decide (f∈E.kof nw))):=by
  obtain⟨es,c,g1,g2⟩:=E.known hS
  exact fs_ hK hu hz hx hy g2 fun v h _=>jD_ hp g1 h
theorem lO_ {t et:TypeId} {x y:Operand} {f:Fc} (hS:E.St nw fm Hs) (hK:KeyT P tF Fc.val) (hu:∀ w,(underlying t).run P w=.ok (.map tF et) w) (hz:∀ w,(zeroValue et).run P w=.ok (.bool false) w) (hx:Fr.ev fr x=some (.map (some E.fb))) (hy:Fr.ev fr y=some f.val) (hp:H.Perm (Hs++F)) :
    Yld P N fr H Γ (.lookup t x y false) ty (.bool (decide (f∈fm))):=by
  obtain⟨es,c,q,g1,g2,g3⟩:=E.firm hS
  have:=fs_ (P:=P) (N:=N) (H:=H) (Γ:=Γ) (ty:=ty) hK hu hz hx hy g2 fun v h _=>jD_ hp g1 h
  have e:decide (f∈q)=decide (f∈fm):=by rw[decide_eq_decide];exact g3 f
  rw[← e];exact this
theorem qi_ {o:Op} {t et:TypeId} {x y z:Operand} {f:Fc} (hS:E.St nw fm Hs) (hK:KeyT P tF Fc.val) (ho:o=.insert t x y z∨o=.mapUpdate t x y z) (hu:∀ w,(underlying t).run P w=.ok (.map tF et) w)
    (hx:Fr.ev fr x=some (.map (some E.fb))) (hy:Fr.ev fr y=some f.val) (hz:Fr.ev fr z=some (.bool true)) (hp:H.Perm (Hs++F))
    (hk:∀ Hs',E.St nw (f::fm) Hs'→Ops P R N v0 H0 ops l K fr (Hs'++F) Γ):Ops P R N v0 H0 ops (⟨none,o,ty,ps,af,none⟩::l) K fr H Γ:=by
  obtain⟨es,c,q,Hr,p1,p2,p3,p4⟩:=E.setf f hS
  refine w_ (H':=(E.fb,.map es c)::(Hr++F)) (hp.trans (by have:=p1.append_right F;simpa using this)) ?_
  refine jG_ 0 hK ho hu hx hy hz rfl p2 fun es' c' hs'=>?_
  obtain⟨H',q1,q2⟩:=p4 es' c' hs'
  simp only[List.set_cons_zero]
  exact w_ (by have:=(q2.append_right F).symm;simpa using this) (hk H' q1)
end
structure EngB where
  g:Nat
  pb:Nat
  ab:Nat
  ub:Nat
  ob:Nat
  ib:Nat
  rb:Nat
  sb:Nat
  lad:Option Addr
  lcap:Nat
  lps:List Str
structure EngA where
  p:Ky→Option Addr×Nat
  a:Str→Option Addr×Nat
  u:Str→Option Addr×Nat
  o:eA_→Option Addr×Nat
  i:eA_→Option Addr×Nat
  r:eA_→Option Addr×Nat
  s:eA_→Option Addr×Nat
def EngB.cells (B:EngB) {P:Program} {tF:TypeId} (E:Emt P tF):List Value :=
  [.map (some B.pb),.slice B.lad B.lps.length B.lcap,.map (some E.kb),.func (.func E.fn) #[] E.caps.toArray,.map (some B.ab),.map (some B.ub),.map (some B.ob),.map (some B.ib),.map (some B.rb),.map (some B.sb),.map (some E.fb)]
structure IxH where
  a:Hp
  u:Hp
  o:Hp
  i:Hp
  r:Hp
  s:Hp
def IxO (tS tF:TypeId) (B:EngB) (x:Ix) (y:IxH):Prop :=
  aP_ str aS_ tS 1 x.above B.ab y.a∧aP_ str aS_ tS 1 x.under B.ub y.u∧aP_ aR_ aS_ tS 1 x.frm B.ob y.o∧aP_ aR_ aS_ tS 1 x.into B.ib y.i∧aP_ aR_ Fc.cells tF 6 x.ranges B.rb y.r∧aP_ aR_ Fc.cells tF 6 x.firms B.sb y.s
end Go.Sx
namespace Go.Proofs.YtkeanlfhghlgiaaGreatDoor
open Go Go.Sx Go.Proofs
attribute [local irreducible] Code.wp wpList wpAnyH
open Go.Vs
theorem eqKy (p q:Ky) (w:World):(Op.equalIn 10000 145 (Ky.val p) (Ky.val q)).run Tryz.prog w=.ok (decide (p=q)) w:=by
  have h:=run_equalIn_struct (P:=Tryz.prog) w 9999 145 (Ky.cells p).toArray (Ky.cells q).toArray (by simp only[Program.fieldsOf,Tryz.underlying145]) Tryz.stoodInHeld145
  refine h.trans ?_
  rw[← Ky.eqb_eq]
  simp only[Program.fieldsOf,Tryz.underlying145]
  exact bx_ rfl ad_ rfl rfl (eqI bo_ w) (bx_ rfl O_ rfl rfl (eqS av_ w) (bx_ rfl O_ rfl rfl (eqS av_ w) (hh_ w)))
theorem eqSpot (p q:eA_) (w:World):(Op.equalIn 10000 128 (aR_ p) (aR_ q)).run Tryz.prog w=.ok (decide (p=q)) w:=by
  have h:=run_equalIn_struct (P:=Tryz.prog) w 9999 128 (hN_ p).toArray (hN_ q).toArray (by simp only[Program.fieldsOf,Tryz.underlying128]) Tryz.stoodInHeld128
  refine h.trans ?_
  rw[← lW_]
  simp only[Program.fieldsOf,Tryz.underlying128]
  exact bx_ rfl O_ rfl rfl (eqS av_ w) (bx_ rfl O_ rfl rfl (eqS av_ w) (hh_ w))
theorem okKy (p:Ky):gT_ Tryz.prog 145 (Ky.val p):=fun e w=>by
 have hi:∀ (n:Int) (w:World),(Instr.checkKey e (9998+1) 3 (.int .i64 n)).run Tryz.prog w=.ok () w:=fun n w=>MapKept.run_checkKey (d:=.int .i64) bo_ (by simp[MapKept.IsKey]) e 9998
 have hs:∀ (n:Str) (w:World),(Instr.checkKey e (9998+1) 9 (str n)).run Tryz.prog w=.ok () w:=fun n w=>MapKept.run_checkKey (d:=.string) av_ (by simp[MapKept.IsKey,str]) e 9998
 refine ckF (n:=9999) Tryz.underlying145 fun f hf=>?_
 simp only[List.mem_cons,List.not_mem_nil,or_false]at hf
 rcases hf with rfl|rfl|rfl
 ·exact⟨rfl,ad_,_,rfl,hi _⟩
 ·exact⟨rfl,O_,_,rfl,hs _⟩
 exact⟨rfl,O_,_,rfl,hs _⟩
theorem okSpot (p:eA_):gT_ Tryz.prog 128 (aR_ p):=fun e w=>by
 have hi:∀ (n:Int) (w:World),(Instr.checkKey e (9998+1) 3 (.int .i64 n)).run Tryz.prog w=.ok () w:=fun n w=>MapKept.run_checkKey (d:=.int .i64) bo_ (by simp[MapKept.IsKey]) e 9998
 have hs:∀ (n:Str) (w:World),(Instr.checkKey e (9998+1) 9 (str n)).run Tryz.prog w=.ok () w:=fun n w=>MapKept.run_checkKey (d:=.string) av_ (by simp[MapKept.IsKey,str]) e 9998
 refine ckF (n:=9999) Tryz.underlying128 fun f hf=>?_
 simp only[List.mem_cons,List.not_mem_nil,or_false]at hf
 rcases hf with rfl|rfl
 ·exact⟨rfl,O_,_,rfl,hs _⟩
 exact⟨rfl,O_,_,rfl,hs _⟩
theorem okFc (p:Fc):gT_ Tryz.prog 24 p.val:=fun e w=>by
 have hi:∀ (n:Int) (w:World),(Instr.checkKey e (9998+1) 3 (.int .i64 n)).run Tryz.prog w=.ok () w:=fun n w=>MapKept.run_checkKey (d:=.int .i64) bo_ (by simp[MapKept.IsKey]) e 9998
 have hs:∀ (n:Str) (w:World),(Instr.checkKey e (9998+1) 9 (str n)).run Tryz.prog w=.ok () w:=fun n w=>MapKept.run_checkKey (d:=.string) av_ (by simp[MapKept.IsKey,str]) e 9998
 refine ckF (n:=9999) kB_ fun f hf=>?_
 simp only[List.mem_cons,List.not_mem_nil,or_false]at hf
 rcases hf with rfl|rfl|rfl|rfl|rfl|rfl
 ·exact⟨rfl,ad_,_,rfl,hi _⟩
 ·exact⟨rfl,O_,_,rfl,hs _⟩
 ·exact⟨rfl,O_,_,rfl,hs _⟩
 ·exact⟨rfl,O_,_,rfl,hs _⟩
 ·exact⟨rfl,ad_,_,rfl,hi _⟩
 exact⟨rfl,ad_,_,rfl,hi _⟩
theorem gt_:KeyT Tryz.prog 145 Ky.val:=ec_ (K:=Ky) Tryz.underlying145 okKy (fun p q w=>eqKy p q w) fun k=>fN_ (l:=Ky.cells k) fun v hv=>by
 simp only[Ky.cells,List.mem_cons,List.not_mem_nil,or_false]at hv
 rcases hv with rfl|rfl|rfl
 ·exact ei_ _ _
 ·exact cn_ _ _
 exact cn_ _ _
theorem cC_:KeyT Tryz.prog 128 aR_:=ec_ (K:=eA_) Tryz.underlying128 okSpot (fun p q w=>eqSpot p q w) fun k=>fN_ (l:=hN_ k) fun v hv=>by
 simp only[hN_,List.mem_cons,List.not_mem_nil,or_false]at hv
 rcases hv with rfl|rfl
 ·exact cn_ _ _
 exact cn_ _ _
theorem eO_:KeyT Tryz.prog 24 Fc.val:=ec_ (K:=Fc) kB_ okFc (fun p q w=>eqFc p q w) fun k=>fN_ (l:=Fc.cells k) fun v hv=>by
 simp only[Fc.cells,List.mem_cons,List.not_mem_nil,or_false]at hv
 rcases hv with rfl|rfl|rfl|rfl|rfl|rfl
 ·exact ei_ _ _
 ·exact cn_ _ _
 ·exact cn_ _ _
 ·exact cn_ _ _
 ·exact ei_ _ _
 exact ei_ _ _
theorem lr_:KeyT Tryz.prog 52 Pc.val:=ec_ (K:=Pc) kz_ keyPc (fun p q w=>eqPc p q w) fun k=>fN_ (l:=Pc.cells k) fun v hv=>by
 simp only[Pc.cells,List.mem_cons,List.not_mem_nil,or_false]at hv
 rcases hv with rfl|rfl|rfl|rfl|rfl|rfl|rfl|rfl|rfl|rfl
 ·exact ei_ _ _
 ·exact cn_ _ _
 ·exact cn_ _ _
 ·exact cn_ _ _
 ·exact cn_ _ _
 ·exact cn_ _ _
 ·exact cn_ _ _
 ·exact ei_ _ _
 ·exact ei_ _ _
 exact ei_ _ _
theorem dI_:KeyT Tryz.prog 9 str:=qE_ av_
theorem lF_:Elt Tryz.prog 37 24 6 72:=la_ Tryz.underlying37 (z:=.agg #[.int .i64 0,str [],str [],str [],.int .i64 0,.int .i64 0]) (by kernel_rfl) rfl (by decide)
theorem ny_:Elt Tryz.prog 22 52 10 128:=la_ Tryz.underlying22 (z:=.agg #[.int .i64 0,str [],str [],str [],str [],str [],str [],.int .i64 0,.int .i64 0,.int .i64 0]) (by kernel_rfl) rfl (by decide)
theorem cX_:Elt Tryz.prog 36 9 1 16:=la_ kA_ (z:=.string ⟨#[]⟩) (by kernel_rfl) rfl (by decide)
theorem eh_:iy_ Tryz.prog 145 [(0,1),(1,1),(2,1)] [.int .i64 0,str [],str []]:=⟨_,Tryz.zeroValue145,Tryz.runUnderlying145,fun w=>by simp[s_,J_]⟩
theorem eQ_:iy_ Tryz.prog 128 [(0,1),(1,1)] [str [],str []]:=⟨_,ck_,Tryz.runUnderlying128,fun w=>by simp[J_]⟩
theorem strt80:iy_ Tryz.prog 80 [(0,1),(1,1),(2,1),(3,1),(4,1),(5,1),(6,1),(7,1),(8,1),(9,1),(10,1)] [.map none,.slice none 0 0,.map none,.nilFunc,.map none,.map none,.map none,.map none,.map none,.map none,.map none]:=⟨_,Tryz.zeroValue80,cz_,fun w=>by simp[sF_,Tryz.sizeOf73,Tryz.sizeOf74,eH_,Tryz.sizeOf76,Tryz.sizeOf77,Tryz.sizeOf78]⟩
theorem cy_ (s:Str):(aS_ s).all Value.oneCell'=true:=rfl
theorem bZ_ (s:Int):(ae_ s).all Value.oneCell'=true:=rfl
def gF (B:EngB) (E:Emt Tryz.prog 24):Fct:=ef_ B.g (.cells (B.cells E).toArray 80 (0,0))
def pF (B:EngB) (pm:List (Ky×Pc)) (A:EngA):Fct:=mlF Tryz.prog 145 Ky.val Pc.cells B.pb pm A.p
def aF (B:EngB) (x:Ix) (A:EngA):Fct:=mlF Tryz.prog 9 str aS_ B.ab x.above A.a
def uF (B:EngB) (x:Ix) (A:EngA):Fct:=mlF Tryz.prog 9 str aS_ B.ub x.under A.u
def oF (B:EngB) (x:Ix) (A:EngA):Fct:=mlF Tryz.prog 128 aR_ aS_ B.ob x.frm A.o
def iF (B:EngB) (x:Ix) (A:EngA):Fct:=mlF Tryz.prog 128 aR_ aS_ B.ib x.into A.i
def rF (B:EngB) (x:Ix) (A:EngA):Fct:=mlF Tryz.prog 128 aR_ Fc.cells B.rb x.ranges A.r
def sF (B:EngB) (x:Ix) (A:EngA):Fct:=mlF Tryz.prog 128 aR_ Fc.cells B.sb x.firms A.s
end Go.Proofs.YtkeanlfhghlgiaaGreatDoor
