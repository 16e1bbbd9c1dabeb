/-
  Lemmas for the law ModuleExtracts (no condition).
-/
import Derived.Test.YtbffkokbdeppaaaGreatDoorQModuleExtracts8
import Derived.Maps.RangeRun
import Derived.WalkSpells
import Derived.Shelf.SlSortCmp.NoneTotal
import Derived.Test.YtbffkokbdeppaaaGreatDoorProg
import Derived.OrdersIn
set_option linter.unusedVariables false
set_option linter.unusedSimpArgs false
set_option linter.unusedSectionVars false
set_option maxHeartbeats 1000000
namespace Go.Sx
open Go
section
variable {P:Program} {N:Nat} {v0:Vw} {H0:Hp} {R:Exit->Act->World->Prop} {Kk:List Kt} {fr:Fr} {H:Hp} {Γ:List Fct}
variable {ops:Array Oper} {lo:List Oper} {d:Nat} {ty:TypeId} {ps:String} {af:Array Edge}
variable {K:Type} [DecidableEq K] {kv:K->Value}
theorem yd_ {o:Op} {t L S:TypeId} {x y z:Operand} {b c:Nat} (n:Nat) {es:Array MapEntry} {q:List K} {k:K} (u:KeyT P L kv) (B:o=.insert t x y z\/o=.mapUpdate t x y z) (E:∀ w,(underlying t).run P w=.ok (.map L S) w)
    (I:Fr.ev fr x=some (.map (some b))) (C:Fr.ev fr y=some (kv k)) (M:Fr.ev fr z=some (.bool true)) (hi:H[n]? = some (b,.map es c)) (A:SetE kv es q)
    (v:∀ es' c',SetE kv es' (if k∈q then q else q++[k])->(Born es c->Born es' c')->Ops P R N v0 H0 ops lo Kk fr (H.set n (b,.map es' c')) Γ):Ops P R N v0 H0 ops (⟨none,o,ty,ps,af,none⟩::lo) Kk fr H Γ:=by
  by_cases h:k∈q
  . obtain⟨i,e,T,J,G,O,Q⟩:=A.yes u h
    refine gQ_ n u B E I C M hi Q J G ?_;rw[ht_ J G O]
    grind
  . exact bG_ n B E I C M hi (u.ok k) (A.no u h) (v _ _ (by rw[yam_ h];exact A.push h c) (λhB=>hB.push _ _))
theorem qT_ {t e h:TypeId} {x:Operand} {b c:Nat} (n:Nat) {es:Array MapEntry} (o:P.underlying t=some (.map e h)) (y:Fr.ev fr x=some (.map (some b))) (hi:H[n]? = some (b,.map es c)) (C:Nat.blt d N=true)
    (A:∀ r,Ops P R N v0 H0 ops lo Kk ((d,.pointer (some ⟨r,0,none⟩))::fr) ((r,.mapIter (some b) c #[] c)::H) Γ):Ops P R N v0 H0 ops (⟨some d,.range t x,ty,ps,af,none⟩::lo) Kk fr H Γ :=
  in_ (x:=λb=>.pointer (some ⟨b,0,none⟩)) C (λa v B k _=>by
    have u:=(k.own _ (yad_ hi)).1;simp[execOp,B.ev y,run_range_map v.w t e h b es c o u]) A
theorem tJ_ {J:Operand} {b r c h I:Nat} {es:Array MapEntry} {o:Array Nat} (n m:Nat) (hit:Fr.ev fr J=some (.pointer (some ⟨r,0,none⟩))) (X:H[n]? = some (r,.mapIter (some b) h o I)) (hb:H[m]? = some (b,.map es c)) (C:∀ x∈es.toList,x.born<h) (T:h<=I) (Z:Nat.blt d N=true)
    (h0:(leftOf es o).size=0->Ops P R N v0 H0 ops lo Kk ((d,.tuple #[.bool false])::fr) H Γ)
    (U:∀ e,e∈(leftOf es o).toList->Ops P R N v0 H0 ops lo Kk ((d,.tuple #[.bool true,e.key,e.val])::fr) (H.set n (r,.mapIter (some b) h (o.push e.born) c)) Γ):Ops P R N v0 H0 ops (⟨some d,.next J false,ty,ps,af,none⟩::lo) Kk fr H Γ :=
  dl_ rfl λa v G B Y W=>by
    have E:=(B.own _ (yad_ X)).1;have M:=(B.own _ (yad_ hb)).1;unfold Oper.wp;rcases run_next_at (P:=P) v.w ty r b h I o es c E M C T with⟨e0,y⟩|⟨e,he,A,u,y⟩
    . have Q:(execOp a.eval ⟨some d,.next J false,ty,ps,af,none⟩).run P v.w=.ok (.value (.tuple #[.bool false])) v.w:=by simp[execOp,G.ev hit,y]
      rw[Q];exact h0 e0 _ v (G.put Z) B Y W
    . have Q:(execOp a.eval ⟨some d,.next J false,ty,ps,af,none⟩).run P v.w=.ok (.value (.tuple #[.bool true,e.key,e.val])) (ChangeMaps.setBlock A r (.mapIter (some b) h (o.push e.born) c)):=by simp[execOp,G.ev hit,y]
      rw[Q];have O:A.heap[r]? = some (.mapIter (some b) h o I):=by rcases u with rfl|rfl<;>exact E
      have L:r<A.heap.size:=(yaC_.1 O).1;have hw:A.heap=v.w.heap:=by rcases u with rfl|rfl<;>rfl
      have S:v.w.drawn<=A.drawn:=by
        rcases u with rfl|rfl
        . simp
        . exact Nat.le_succ _
      obtain⟨g1,V⟩:=fw_ (w':=ChangeMaps.setBlock A r (.mapIter (some b) h (o.push e.born) c)) B X zcd_ zcd_ zcd_ S (by grind[ChangeMaps.setBlock])
        (by simp only[ChangeMaps.setBlock];rw[Array.getElem?_setIfInBounds_self_of_lt L]) (λk U=>by grind[ChangeMaps.setBlock])
      exact U e he _ ⟨v.im,_,v.sl⟩ (G.put Z) g1 (Y.trans V) (ba_ (V.le B) W)
theorem qw_ {u:Operand} {b r c h:Nat} {es:Array MapEntry} {k:Array Nat} {e:MapEntry} (n m:Nat) (hit:Fr.ev fr u=some (.pointer (some ⟨r,0,none⟩))) (x:H[n]? = some (r,.mapIter (some b) h (k.push e.born) c)) (y:H[m]? = some (b,.map es c)) (A:e∈es.toList) (hB:Born es c) :
    Yld P N fr H Γ (.entry u) ty (.tuple #[e.key,e.val]) :=
  λa v B o _ _ _ _=>by
    have:=run_entry_at (P:=P) v.w r b h k es c e (o.own _ (yad_ x)).1 (o.own _ (yad_ y)).1 A hB.nd;simp[execOp,B.ev hit,this]
structure ItS (kv:K->Value) (es:Array MapEntry) (seen:Array Nat) (done:List K):Prop where
  nd:done.Nodup
  mem:∀ e∈es.toList,seen.contains e.born=true↔∃ k∈done,e.key=kv k
  sub:∀ k∈done,∃ e∈es.toList,e.key=kv k
theorem ItS.nil {es:Array MapEntry}:ItS kv es #[] []:=⟨ybH_,λe _=>by simp,λk h=>by simp at h⟩
end
section
variable {P:Program} {N:Nat} {v0:Vw} {H0:Hp} {R:Exit->Act->World->Prop} {K:List Kt} {fr:Fr} {H F:Hp} {Γ:List Fct}
def sR_ {σ:Type} (v0:Vw) (H0:Hp) (Hj:σ->Hp) (ok:σ->Prop) (HL:Hp):Exit->Act->World->Prop
  | .normal,_,w=>∃ s' v,ok s'/\v.w=w/\v.sat (Hj s'++HL)/\v0.to H0 v (Hj s'++HL)
  | _,_,_=>False
theorem jm_ {σ ι:Type} {l D:Nat} {h:Loop} {u:Nat} {x:Value} {Hj:σ->Hp} {s:σ} {ok:σ->Prop} (L:ι->Fr) (I:ι->Hp)
    (hp:h.params=#[u]) (O:h.state=.ready) (hpe:h.pending=none) (ht:Fr.sat N fr ⟨h.tmps,[]⟩) (S:Nat.blt u N=true)
    (o:∀ n v0 H0 HL,iK_ (Fence.wide.inRound l) n P (Mid N v0 H0 L (λi=>I i++HL) (λ_=>Γ)) N [] v0 H0 h.assign [] ((u,x)::fr) (Hj s++HL) Γ)
    (A:∀ n v0 H0 HL i,iK_ (Fence.wide.inRound l) n P (sR_ v0 H0 Hj ok HL) N [] v0 H0 h.body [] (L i) (I i++HL) Γ) :
    jY_ P l x (Hj s++HLp l D h) Γ (λ_:{B:σ // ok B}=>.bool true) (λB=>Hj B.1++HLp l D h) (λ_=>[]):=by
  intro v hs hΓ
  have k:∀ (X:Hp) r,(X++HLp l D r).Perm ((l,.loop r)::(X++[(D,.deferred (some []))])):=λX r=>by
    grind[HLp,List.perm_middle]
  have hl:v.w.heap[l]? = some (.loop h):=((hs.perm (k _ _)).own _ yaq_).1;refine⟨h.fn,_,h.assign,h.body,run_yield hl (by simp[hp]),λn=>roundIn_of_wpIn trivial ?_⟩;have Y:(h.params.zip #[x]).foldl (λtmps (t,a)=>tmps.setIfInBounds t a) h.tmps=h.tmps.setIfInBounds u x:=by simp[hp]
  rw[Y];have J:Fr.sat N ((u,x)::fr) ⟨h.tmps.setIfInBounds u x,[]⟩:=ht.put S;refine wpIn_mono (ef_.1 (o n v (Hj s++HLp l D h) (HLp l D h)) ⟨h.tmps.setIfInBounds u x,[]⟩ v J hs (Vw.to.refl _ _) hΓ) ?_;rintro e a1 w1 ⟨rfl,i,G,rfl,k1,k2,k3,k4⟩;have y:=k2.perm (k _ _);have W:=(y.own _ yaq_).1;obtain⟨m1,Z⟩:=fx_ (o':=.loop { h with state:=.busy }) y;refine⟨_,run_beginRound W O,?_⟩;have m3:=m1.perm (k (I i) { h with state:=.busy }).symm
  have m4:v.to (Hj s++HLp l D h) ⟨G.im,G.w.putObj l (.loop { h with state:=.busy }),G.sl⟩ (I i++HLp l D { h with state:=.busy }) :=
    (k3.trans ((Z.permL (k _ _).symm).subR λb M=>((k (I i) { h with state:=.busy }).map Prod.fst).mem_iff.1 M))
  have T:=ba_ (Z.le y) k4;refine wpIn_mono (ef_.1 (A n v (Hj s++HLp l D h) (HLp l D { h with state:=.busy }) i) a1 ⟨G.im,_,G.sl⟩ k1 m3 m4 T) ?_;intro e2 a2 w2 C;cases e2 with
  | normal =>
    obtain⟨B,U,V,rfl,q1,q2⟩:=C;have E:=q1.perm (k _ _);have Q:=(E.own _ yaq_).1;obtain⟨z1,z2⟩:=fx_ (o':=.loop h) E;have er:({ h with state:=.ready,pending:=none }:Loop)=h:=by cases h;simp_all
    refine⟨_,_,run_endRound none Q,⟨B,V⟩,⟨U.im,U.w.putObj l (.loop h),U.sl⟩,rfl,?_,z1.perm (k _ _).symm,trivial,q2.trans ((z2.permL (k _ _).symm).subR λb M=>((k (Hj B) h).map Prod.fst).mem_iff.1 M)⟩;simp[er]
  | ret=>exact C.elim
  | exit id=>exact C.elim
  | goto t=>exact C.elim
  | panic c=>exact C.elim
  | outgrown=>exact C.elim
theorem kV_ {σ:Type} {Hj:σ->Hp} {h G:Hp} {ok:σ->Prop} (e:σ) (u:ok e) (o:H.Perm (Hj e++h++G)):OkD N [] v0 H0 (sR_ v0 H0 Hj ok h .normal) fr H Γ :=
  du_ (Γ':=[]) o (λ_ _ _=>trivial) λa v y k x _=>⟨e,v,u,rfl,k,x⟩
theorem jw_ {σ α:Type} {g:Operand} {W:Nat} {assign body:Code} {S:FuncId} {caps:List Value} {Hj:σ->Hp} {Hc:Hp} {Γi:List Fct} (Γx:List Fct) {xv:α->Value} {good:σ->α->Prop} {nx:α->σ->σ->Prop} {Rc:σ->Prop}
    (s0:σ) (hg:Fr.ev fr g=some (.func (.func S) #[] caps.toArray)) (hH:H.Perm (Hc++Hj s0)) (V:∀ v,v.sat H->aC_ Γ v->aC_ Γi v)
    (B:∀ l D (k:Loop),k.params=#[W]->k.state=.ready->k.pending=none->Fr.sat N fr ⟨k.tmps,[]⟩->k.assign=assign->k.body=body->∀ s x,good s x->
      jY_ P l (xv x) (Hj s++HLp l D k) Γx (λ_:{y:σ // nx x s y}=>.bool true) (λy=>Hj y.1++HLp l D k) (λ_=>[]))
    (hit:∀ l (Gj:σ->Hp),(∀ s x,good s x->jY_ P l (xv x) (Gj s) Γx (λ_:{y:σ // nx x s y}=>.bool true) (λy=>Gj y.1) (λ_=>[]))->
      Tri P S (.func (.yield l) #[] #[]::caps).toArray (Hc++Gj s0) Γi (λ_:{y:σ // Rc y}=>.tuple #[]) (λy=>Hc++Gj y.1) (λ_=>[]))
    (E:∀ y,Rc y->∀ D l r,vS_ Fence.wide 0 P R N (qm_ D) v0 H0 K fr (Hc++Hj y++HLp l D r) Γ) :
    Run P R N v0 H0 (.rangeFunc g #[W] assign body) K fr H Γ:=by
  intro a v G O h3 h4;refine wpIn_wide (n:=0) |>.1 (wpIn_mono (Q:=eM_ Fence.wide 0 P R K) (wpIn_rangeFunc λfn _=>?_) λe a w hq=>cd_ K e a w hq)
  obtain⟨a1,a2⟩:=gA_ (w':=v.w.alloc (.deferred (some []))) (o:=.deferred (some [])) O rfl rfl rfl rfl (yab_ _);obtain⟨k,u⟩:∃ k:Loop,k={ state:=.ready,pending:=none,fn,tmps:=a.tmps,params:=#[W],assign,body,defers:=v.w.heap.size }:=⟨_,rfl⟩;obtain⟨b1,b2⟩:=gA_ (w':=(v.w.alloc (.deferred (some []))).alloc (.loop k)) (o:=.loop k) a1 rfl rfl rfl rfl (yab_ _);have I:(v.w.alloc (Obj.deferred (some []))).heap.size=v.w.heap.size+1:=by simp
  have b1':(⟨v.im,(v.w.alloc (.deferred (some []))).alloc (.loop k),v.sl⟩:Vw).sat ((v.w.heap.size+1,.loop k)::(v.w.heap.size,.deferred (some []))::H):=I▸b1;have J:v.to H ⟨v.im,(v.w.alloc (.deferred (some []))).alloc (.loop k),v.sl⟩ ((v.w.heap.size+1,.loop k)::(v.w.heap.size,.deferred (some []))::H):=a2.trans (I▸b2)
  have A:((v.w.heap.size+1,Obj.loop k)::(v.w.heap.size,.deferred (some []))::H).Perm (Hc++(Hj s0++HLp (v.w.heap.size+1) v.w.heap.size k)):=by
    rw[<-yak_];exact (yah_ (l₁:=HLp (v.w.heap.size+1) v.w.heap.size k) (l₂:=H)).trans (hH.append_right _)
  have hT:=hit (v.w.heap.size+1) (λs=>Hj s++HLp (v.w.heap.size+1) v.w.heap.size k)
    (B _ _ k (by rw[u]) (by rw[u]) (by rw[u]) (by rw[u];exact⟨G.size,rfl,G.val⟩) (by rw[u]) (by rw[u]))
  have T:=ba_ (J.le O) (V v O h4);have he:=G.ev hg;refine⟨v.w.heap.size+1,qm_ v.w.heap.size,(v.w.alloc (.deferred (some []))).alloc (.loop k),⟨.fn (.func S) caps.toArray,#[.func (.yield (v.w.heap.size+1)) #[] #[]]⟩,(v.w.alloc (.deferred (some []))).alloc (.loop k),S,(.func (.yield (v.w.heap.size+1)) #[] #[]::caps).toArray,_,?_,?_,λ_ _=>trivial,?_,λh=>(by cases h),callsIn_wide.2 ((hT.run ⟨v.im,_,v.sl⟩ (b1'.perm A) T).mono ?_)⟩
  . rw[u];exact run_enterLoop_outer _ _ _ _ _
  . simp only[resolve,rangeCall,ybd_,yaE_,ybz_,he,Deferred.ofValue]
    rfl
  . have:=hT.callable (.func (.yield (v.w.heap.size+1)) #[] #[]::caps).toArray ((v.w.alloc (.deferred (some []))).alloc (.loop k))
    simpa [invoke] using this
  . rintro e w' ⟨⟨y,Z⟩,v',rfl,rfl,g1,g2,g3⟩
    have M:=J.trans (g3.permL A.symm);have U:=ba_ (M.le O) h4;have hsd:∀ L,SatD N L fr { a with defers:=L++a.defers }:=λL=>⟨⟨G.size,rfl,G.val⟩,by show L++a.defers=L;rw[G.defers];simp⟩
    have C:∀ (X Y:Hp) r,(Y++(X++HLp (v.w.heap.size+1) v.w.heap.size r)).Perm ((v.w.heap.size+1,.loop r)::(Y++X++[(v.w.heap.size,.deferred (some []))])):=λX Y r=>by
      unfold HLp;rw[<-yak_];exact ybo_
    have q:=g1.perm (C (Hj y) Hc k);have hl:=(q.own _ yaq_).1;obtain⟨z1,z2⟩:=fx_ (o':=.loop { k with state:=.exhausted }) q
    have zp:((v.w.heap.size+1,Obj.loop { k with state:=.exhausted })::(Hc++Hj y++[(v.w.heap.size,.deferred (some []))])).Perm (Hc++Hj y++HLp (v.w.heap.size+1) v.w.heap.size { k with state:=.exhausted }):=by
      have:=(C (Hj y) Hc { k with state:=.exhausted }).symm;rw[<-yak_]at this;exact this
    refine⟨k.pending,_,run_endLoop hl (by rw[u];simp),?_⟩;have hpn:k.pending=none:=by rw[u]
    split
    case h_2=>rename_i c hc;rw[hpn]at hc;cases hc
    exact E y Z _ _ _ _ ⟨v'.im,_,v'.sl⟩ (hsd _) (z1.perm zp) (h3.trans (M.trans ((z2.permL (C _ _ _).symm).subR λb hb=>(zp.map Prod.fst).mem_iff.2 hb))) (ba_ (z2.le q) U)
theorem uW_ {σ α:Type} {g:Operand} {u:Nat} {assign body:Code} {y:FuncId} {caps:List Value} {Hj:σ->Hp} {Hc:Hp} {Γi:List Fct} {xv:α->Value} {good:σ->α->Prop} {nx:α->σ->σ->Prop} {Rc:σ->Prop}
    (k:σ) (B:Fr.ev fr g=some (.func (.func y) #[] caps.toArray)) (A:H.Perm (Hc++Hj k)) (o:∀ v,v.sat H->aC_ Γ v->aC_ Γi v)
    (e:∀ l D (rec:Loop),rec.params=#[u]->rec.state=.ready->rec.pending=none->Fr.sat N fr ⟨rec.tmps,[]⟩->rec.assign=assign->rec.body=body->∀ s x,good s x->
      jY_ P l (xv x) (Hj s++HLp l D rec) [] (λ_:{s':σ // nx x s s'}=>.bool true) (λs'=>Hj s'.1++HLp l D rec) (λ_=>[]))
    (hit:∀ l (Gj:σ->Hp),(∀ s x,good s x->jY_ P l (xv x) (Gj s) [] (λ_:{s':σ // nx x s s'}=>.bool true) (λs'=>Gj s'.1) (λ_=>[]))->
      Tri P y (.func (.yield l) #[] #[]::caps).toArray (Hc++Gj k) Γi (λ_:{s':σ // Rc s'}=>.tuple #[]) (λs'=>Hc++Gj s'.1) (λ_=>[]))
    (h:∀ s',Rc s'->∀ D l r,vS_ Fence.wide 0 P R N (qm_ D) v0 H0 K fr (Hc++Hj s'++HLp l D r) Γ) :
    Run P R N v0 H0 (.rangeFunc g #[u] assign body) K fr H Γ:=
  jw_ [] k B A o e hit h
end
section
variable {Fc:Fence} {n:Nat} {P:Program} {N:Nat} {D:List Deferred} {v0:Vw} {H0:Hp} {R:Exit->Act->World->Prop} {K:List Kt} {fr:Fr} {H:Hp} {Γ:List Fct}
variable {ops:Array Oper} {l:List Oper} {d:Nat} {ty:TypeId} {ps:String} {af:Array Edge}
theorem qW_ {t e:TypeId} {len sz:Nat} {parts:List (Nat×Operand)} {C:List (Nat×Value)} {u:Value} {cs:List Value} (hF:Opn Fc) (T:∀ w,(underlying t).run P w=.ok (.slice e) w) (V:∀ w,(sizeOf e).run P w=.ok sz w) (hz:∀ w,(zeroValue e).run P w=.ok u w)
    (G:u.cells.toList.length=sz) (hp:Nat.blt 0 (len*sz)=true) (E:Nat.ble (len*sz) 16777216=true) (W:Fr.evp fr parts=some C) (Q:pS_ (λi=>some (i*sz,sz)) (kq_ u.cells.toList len) C=some cs) (hN:Nat.blt d N=true)
    (X:∀ b,fH_ Fc n P R N D v0 H0 ops l K ((d,.slice (some ⟨b,0,none⟩) len len)::fr) ((b,.cells cs.toArray e (0,0))::H) Γ):fH_ Fc n P R N D v0 H0 ops (⟨some d,.buildSlice t len parts.toArray,ty,ps,af,none⟩::l) K fr H Γ :=
  eE_ rfl λa v M I U Z=>by
    refine⟨λf _=>hF.fn f,?_⟩;rw[semAt_eq rfl]
    have Y:(execOp a.eval ⟨some d,.buildSlice t len parts.toArray,ty,ps,af,none⟩).run P v.w=.ok (.value (.slice (some ⟨v.w.heap.size,0,none⟩) len len)) (v.w.alloc (.cells cs.toArray e (0,0))):=by
      have y:=M.sat.evp W;have h:=mk_ _ _ _ _ Q;have k:0<len*sz:=by grind[Nat.blt_eq]
      have O:0<sz:=Nat.pos_of_mul_pos_left k;have J:len*sz<=16777216:=yaF_ E;have B:=kZ_ u.cells.toList zaa_ len;rw[G]at B;simp only[ycL_]at B;rw[<-B]at h;have A:(parts.map λ(i,x)=>(i,a.eval x))=C:=y;simp only[execOp,Instr.buildSlice,Sem.run_bind,T,Result.andThen_ok,V,ybd_,A];rw[yam_ zaa_,yam_ zaa_];simp only[Sem.run_bind,Sem.run_pure,hz,Result.andThen_ok,h];rfl
    rw[Y];obtain⟨S,L⟩:=gA_ (w':=v.w.alloc (.cells cs.toArray e (0,0))) (o:=.cells cs.toArray e (0,0)) I rfl rfl rfl rfl (yab_ _);exact X v.w.heap.size _ ⟨v.im,_,v.sl⟩ (M.put hN) S (U.trans L) (ba_ (L.le I) Z)
theorem gj_ {k:Act->World->Prop} {H':Hp} (e:H.Perm H') (h:OkD N D v0 H0 k fr H' Γ):OkD N D v0 H0 k fr H Γ :=
  λa v x o y u=>h a v x (o.perm e) (y.subR λb A=>(e.map Prod.fst).mem_iff.2 A) u
theorem kC_ {t e:TypeId} {x y:Operand} {b off sz m:Nat} {sv:Value} {xs:List Value} {Hr:Hp} (B:Opn Fc) (i:Nat) {cur:Array Value} {T:TypeId} (h:av_ e sz sv m xs Hr) (u:∀ w,(sizeOf t).run P w=.ok 1 w)
    (v:Fr.ev fr x=some (.pointer (some ⟨b,off,none⟩))) (o:Fr.ev fr y=some sv) (hi:H[i]? = some (b,.cells cur T (0,0))) (k:Nat.ble (off+1) cur.size=true)
    (A:fH_ Fc n P R N D v0 H0 ops l K fr (H.set i (b,.cells (cur.toList.take off++[sv]++cur.toList.drop (off+1)).toArray T (0,0))) Γ):fH_ Fc n P R N D v0 H0 ops (⟨none,.store t x y,ty,ps,af,none⟩::l) K fr H Γ :=
  by grind[eD_,en_]
theorem oh_ {x y:Operand} {t e:TypeId} {sz by' m k c:Nat} {sv:Value} {xs news:List Value} {Hr F:Hp} {ad:Addr} (Z:Opn Fc) (E:Elt P t e sz by') (o:av_ e sz sv m xs Hr)
    (hx:Fr.ev fr x=some sv) (hy:Fr.ev fr y=some (.slice (some ad) k c)) (J:H.Perm (Hr++F)) (hl:news.length=k*sz) (A:∀ v,v.sat H->aC_ Γ v->∀ j u,news[j]? = some u->v.w.cell? (ad.add j)=some u) (C:∀ u∈news,u.oneCell'=true)
    (B:m+k<=maxLen) (V:(m+k)*by'<=140737488355328) (hN:Nat.blt d N=true)
    (W:∀ sv' h,av_ e sz sv' (m+k) (xs++news) h->fH_ Fc n P R N D v0 H0 ops l K ((d,sv')::fr) (h++F) Γ) :
    fH_ Fc n P R N D v0 H0 ops (⟨some d,.call ⟨.builtin .append,#[x,y],#[t,t]⟩,ty,ps,af,none⟩::l) K fr H Γ :=
  eE_ rfl λa v I G h3 Q=>by
    refine⟨λf _=>Z.fn f,?_⟩;rw[semAt_eq rfl];obtain⟨i,z,hi,S,es,Y,ez⟩:=E.info;have g:=G.perm J;have U:=A v G Q;have T:=o.owns g;obtain⟨M,w',hr,X,q2,_⟩:=run_append_own (P:=P) v.w 0 t ty e i z sz by' E.und hi S es Y ez E.pos sv m xs T ad k c news hl U C B V (yaV_ _)
    obtain⟨a1,a2⟩:=mt_ v.w E.und hi S es T hl U C B zap_ hr;obtain⟨h,k1,k2,O⟩:=rr_ o g X q2 a1 a2;have e1:a.eval x=sv:=I.sat.ev hx;have e2:a.eval y=.slice (some ad) k c:=I.sat.ev hy
    have L:(execOp a.eval ⟨some d,.call ⟨.builtin .append,#[x,y],#[t,t]⟩,ty,ps,af,none⟩).run P v.w=.ok (.value M) w':=by
      grind[execOp,resolve,invoke,builtin,Sem.run_bind,Sem.run_pure,Result.andThen_ok]
    rw[L];exact W M h k1 _ ⟨v.im,w',v.sl⟩ (I.put hN) k2 (h3.trans (O.permL J.symm)) (ba_ ((O.permL J.symm).le G) Q)
end
end Go.Sx
namespace Go.Vs
open Go Go.Sx
abbrev RSt:=Str×Str×Bool
def qj_ (l:List Str) (x:Str):List Str:=if x∈l then l else l++[x]
def oU_ (l:List Str):List Str:=l.foldl qj_ []
theorem uQ_ (l:List Str) (x:Str):oU_ (l++[x])=qj_ (oU_ l) x:=by simp[oU_]
theorem Ba_ {l:List Str} {x y:Str}:y∈qj_ l x↔y∈l\/y=x:=by
  grind[qj_]
theorem CS_ {l:List Str} {x:Str} (h:l.Nodup):(qj_ l x).Nodup:=by
  grind[qj_]
theorem oT_ (l:List Str):(oU_ l).Nodup/\∀ y,y∈oU_ l↔y∈l:=by
  unfold oU_
  have key:∀ (l e:List Str),e.Nodup->(l.foldl qj_ e).Nodup/\∀ y,y∈l.foldl qj_ e↔y∈e\/y∈l:=by
    intro l
    induction l<;>grind[CS_,Ba_]
  grind
def ik (S:List RSt) (r:Str):List Str:=oU_ ((S.filter λz=>decide (z.1=r)).map (·.2.1))
def flg (S:List RSt) (r s:Str):Bool:=S.any λz=>decide (z.1=r)&&(decide (z.2.1=s)&&z.2.2)
theorem st_ {S:List RSt} {r s:Str}:s∈ik S r↔∃ c,(r,s,c)∈S:=by
 unfold ik;rw[(oT_ _).2,yaM_];constructor
 .grind
 rintro ⟨c,h⟩;exact⟨(r,s,c),by grind,rfl⟩
theorem Df_ (S:List RSt) (r:Str):(ik S r).Nodup:=(oT_ _).1
theorem ss_ (S:List RSt) (r s:Str) (c:Bool) (q:Str):ik (S++[(r,s,c)]) q=if r=q then qj_ (ik S q) s else ik S q:=by
  grind[ik,uQ_]
theorem pM_ {S:List RSt} {r s:Str}:flg S r s=true↔(r,s,true)∈S:=by
  grind[flg]
theorem pN_ (S:List RSt) (r s:Str) (c:Bool) (q t:Str):flg (S++[(r,s,c)]) q t=(flg S q t||(decide (r=q)&&(decide (s=t)&&c))):=by
  grind[flg]
theorem flg_no {S:List RSt} {r s:Str} (h:s ∉ ik S r):flg S r s=false:=by
  grind[st_,pM_]
end Go.Vs
namespace Go.Sx
open Go Go.Vs
structure BolE (es:Array MapEntry) (ks:List Str) (g:Str->Bool):Prop where
  keys:es.toList.map (·.key)=ks.map str
  vals:es.toList.map (·.val)=ks.map λk=>Value.bool (g k)
  nd:ks.Nodup
section
variable {P:Program} {kt:TypeId} {es:Array MapEntry} {ks:List Str} {g:Str->Bool}
theorem BolE.nil {g:Str->Bool}:BolE #[] [] g:=⟨rfl,rfl,ybH_⟩
theorem BolE.no (e:KeyT P kt str) (h:BolE es ks g) {k:Str} (o:k ∉ ks):ek_ P kt (str k) es.toList none:=e.nf k es.toList ks h.keys o
theorem BolE.yes (A:KeyT P kt str) (h:BolE es ks g) {k:Str} (y:k∈ks):∃ i e,ks[i]? = some k/\es[i]? = some e/\e.key=str k/\e.val=.bool (g k)/\ek_ P kt (str k) es.toList (some (i,.bool (g k))):=by
  obtain⟨i,hi⟩:=yaA_ y
  have u:i<es.toList.length:=by
    have:=(yaf_.1 hi).1;have e:=yag_ List.length h.keys
    grind
  have v:=yaa_ u;have x:=yag_ (λl=>l[i]?) h.vals;simp only[yaD_,v,yba_,hi,yai_]at x;have o:=yag_ (λl=>l[i]?) h.keys;simp only[yaD_,v,yba_,hi,yai_]at o;refine⟨i,es.toList[i],hi,by grind,o,x,?_⟩;have:=A.sf k es.toList ks i _ h.keys h.nd hi v
  grind
theorem BolE.push (h:BolE es ks g) {k:Str} (o:k ∉ ks) (b:Bool) (c:Nat) {e:Str->Bool} (v:e k=b) (u:∀ q,q∈ks->e q=g q):BolE (es.push ⟨str k,.bool b,c⟩) (ks++[k]) e:=by
  refine⟨by grind[keys],?_,?_⟩
  all_goals grind[vals,List.map_congr_left,nd]
theorem BolE.set (h:BolE es ks g) {k:Str} {i:Nat} (hi:ks[i]? = some k) (b:Bool) {v:Str->Bool} (J:v k=b) (C:∀ q,q≠k->v q=g q):BolE (es.modify i λy=>{ y with key:=str k,val:=.bool b }) ks v:=by
 have u:=yag_ List.length h.keys;simp only[yaB_]at u;refine⟨?_,?_,h.nd⟩
 .rw[<-h.keys]
  apply yaT_
  intro j;simp only[yaD_,ybT_,ybl_]
  by_cases o:i=j
  .subst o
   rw[yax_ rfl];have I:=yag_ (λl=>l[i]?) h.keys
   grind
  grind
 apply yaT_
 intro j;have x:=yag_ (λl=>l[j]?) h.vals;simp only[yaD_,ybT_,ybl_]at x ⊢
 by_cases o:i=j
 .grind
 rw[yam_ o,x];cases hq:ks[j]? with
 | none=>rfl
 | some q =>
   have:q≠k:=λe=>by
     subst e;have A:=(yaf_.1 hi).1;have B:=(yaf_.1 hq).1;have G:=h.nd
     grind[List.pairwise_iff_getElem]
   grind
end
def hg_ (E:Str->Array MapEntry×Nat) (p:Str×Nat):Nat×Obj:=(p.2,.map (E p.1).1 (E p.1).2)
def ov_ (o:Option Nat):Value:=.map o
structure MmE (ks:List (Str×Nat)) (S:List RSt) (es:Array MapEntry) (c:Nat) (E:Str->Array MapEntry×Nat):Prop where
  keys:es.toList.map (·.key)=(ks.map (·.1)).map str
  vals:es.toList.map (·.val)=ks.map λp=>ov_ (some p.2)
  nd:(ks.map (·.1)).Nodup
  all:∀ z∈S,z.1∈ks.map (·.1)
  born:Born es c
  inn:∀ k∈ks.map (·.1),BolE (E k).1 (ik S k) (flg S k)/\Born (E k).1 (E k).2
def MmO (mb:Nat) (ks:List (Str×Nat)) (S:List RSt) (H:Hp):Prop:=∃ es c E,H=(mb,.map es c)::ks.map (hg_ E)/\MmE ks S es c E
theorem MmO.nil (mb c:Nat):MmO mb [] [] [(mb,.map #[] c)]:=⟨#[],c,λ_=>(#[],0),rfl,rfl,rfl,ybH_,by simp,Born.nil c,by simp⟩
section
variable {P:Program} {kt:TypeId} {mb:Nat} {ks:List (Str×Nat)} {S:List RSt} {es:Array MapEntry} {c:Nat} {E:Str->Array MapEntry×Nat} {H:Hp}
theorem MmE.no (e:KeyT P kt str) (h:MmE ks S es c E) {k:Str} (o:hE_ ks k=none):ek_ P kt (str k) es.toList none:=e.nf k es.toList _ h.keys (kc_ o)
theorem MmE.yes (u:KeyT P kt str) (h:MmE ks S es c E) {k:Str} {b:Nat} (o:hE_ ks k=some b):∃ i,ek_ P kt (str k) es.toList (some (i,ov_ (some b))):=by
  obtain⟨i,hi⟩:=yaA_ (mx_ o);have e:=yag_ (λl=>l[i]?) h.vals;simp only[yaD_,hi,yba_]at e;cases hx:es.toList[i]? with
  | none=>grind
  | some x =>
    rw[hx]at e;simp only[yba_,yai_]at e;refine⟨i,?_⟩;have:=u.sf k es.toList _ i x h.keys h.nd zap_ hx
    grind
theorem MmO.at (h:MmO mb ks S H) {k:Str} {b:Nat} (G:hE_ ks k=some b):∃ es c Hr,H.Perm ((b,.map es c)::Hr)/\BolE es (ik S k) (flg S k)/\Born es c/\
    ∀ s d o u,BolE o (ik (S++[(k,s,d)]) k) (flg (S++[(k,s,d)]) k)->Born o u->∃ H',MmO mb ks (S++[(k,s,d)]) H'/\((b,Obj.map o u)::Hr).Perm H':=by
  obtain⟨es,c,E,rfl,hE⟩:=h;have hm:=mx_ G;have v:k∈ks.map (·.1):=yaU_ hm;obtain⟨y,A,rfl⟩:=List.append_of_mem hm;refine⟨(E k).1,(E k).2,(mb,.map es c)::(y++A).map (hg_ E),?_,(hE.inn k v).1,(hE.inn k v).2,λs d o u hB C=>?_⟩
  . rw[yaz_,yaE_,yaz_]
    exact (List.Perm.cons _ ybo_).trans (.swap _ _ _)
  . have B:=hE.nd
    rw[yaz_,yaE_,ybA_,yby_]at B
    have M:y.map (hg_ λq=>if q=k then (o,u) else E q)=y.map (hg_ E):=ybG_ λp L=>by
      grind[hg_]
    have J:A.map (hg_ λq=>if q=k then (o,u) else E q)=A.map (hg_ E):=ybG_ λp L=>by
      grind[hg_]
    refine⟨(mb,.map es c)::(y++(k,b)::A).map (hg_ λq=>if q=k then (o,u) else E q),⟨es,c,_,rfl,hE.keys,hE.vals,hE.nd,λz x=>?_,hE.born,λq I=>?_⟩,?_⟩
    . rcases yaj_.1 x with x|x
      . exact hE.all z x
      grind
    . by_cases e:q=k
      . grind
      . rw[yam_ e,ss_,yam_ (Ne.symm e)]
        have:flg (S++[(k,s,d)]) q=flg S q:=funext λt=>by grind[pN_]
        rw[this];exact hE.inn q I
    . have O:hg_ (λq=>if q=k then (o,u) else E q) (k,b)=(b,.map o u):=by grind[hg_]
      rw[yaz_,yaz_,yaE_,M,J,O];exact ((List.Perm.cons _ ybo_).trans (.swap _ _ _)).symm
theorem MmE.push (h:MmE ks S es c E) {k:Str} (v:hE_ ks k=none) (b A:Nat):MmE (ks++[(k,b)]) S (es.push ⟨str k,ov_ (some b),c⟩) (c+1) (λq=>if q=k then (#[],A) else E q):=by
 have o:=kc_ v;refine⟨by grind[keys],by grind[vals],?_,λx B=>by simp only[yaz_,yaj_];exact .inl (h.all x B),h.born.push _ _,λq C=>?_⟩
 .grind[nd]
 by_cases e:q=k
 .subst e
  rw[yax_ rfl]
  have:ik S q=[]:=yca_.2 λs y=>by
    obtain⟨d,u⟩:=st_.1 y;exact o (h.all _ u)
  grind[BolE.nil,Born.nil]
 rw[yam_ e];refine h.inn q ?_
 grind
end
section ops
variable {P:Program} {N:Nf} {v0:Vw} {H0:Hp} {R:Exit->Act->World->Prop} {K:List Kt} {fr:Fr} {H F:Hp} {Γ:List Fct}
variable {ops:Array Oper} {l:List Oper} {d:Nat} {ty:TypeId} {ps:String} {af:Array Edge}
variable {mb:Nat} {ks:List (Str×Nat)} {S:List RSt} {Hx:Hp}
theorem fM_ {t kt B:TypeId} {x y:Operand} {k:Str} (e:KeyT P kt str) (u:∀ w,(underlying t).run P w=.ok (.map kt B) w) (J:∀ w,(zeroValue B).run P w=.ok (.map none) w) (I:MmO mb ks S Hx) (A:Fr.ev fr x=some (.map (some mb))) (o:Fr.ev fr y=some (str k)) (C:H.Perm (Hx++F)) :
    Yld P N fr H Γ (.lookup t x y false) ty (ov_ (hE_ ks k)):=by
  obtain⟨es,c,E,rfl,hE⟩:=I;have hm:∀ v:Vw,v.sat H->aC_ Γ v->v.w.heap[mb]? = some (.map es c):=λv h _=>(h.own (mb,.map es c) (C.mem_iff.2 zak_)).1
  cases hk:hE_ ks k with
  | none=>exact gx_ u J A o hm (e.ok k) (hE.no e hk)
  | some b =>
    obtain⟨i,G⟩:=hE.yes e hk;exact fL_ u A o hm (e.ok k) G
theorem yN_ {t A kt e:TypeId} {x y:Operand} {o:Option Nat} (B:P.underlying t=some (.map kt e)) (C:Fr.ev fr x=some (ov_ o)) (u:Fr.ev fr y=some (.map none)):Yld P N fr H Γ (.binOp .eql t x y A) ty (.bool (decide (o=none))) :=
  λa v h _ _ _ _ _=>by
    have k:decide (o=none)=o.isNone:=by cases o<;>simp
    rw[k];have:=run_eql_map_nil (P:=P) v.w t kt e o B;simp[execOp,h.ev C,h.ev u,eqGuard,ov_,this]
theorem kN_ {t kt G:TypeId} {x y:Operand} {k s:Str} {b:Nat} (e:KeyT P kt str) (B:∀ w,(underlying t).run P w=.ok (.map kt G) w) (Q:∀ w,(zeroValue G).run P w=.ok (.bool false) w) (M:MmO mb ks S Hx) (L:hE_ ks k=some b) (C:Fr.ev fr x=some (.map (some b))) (u:Fr.ev fr y=some (str s)) (I:H.Perm (Hx++F)) :
    Yld P N fr H Γ (.lookup t x y false) ty (.bool (flg S k s)):=by
  obtain⟨es,c,Hr,O,A,_,_⟩:=M.at L;have hm:∀ v:Vw,v.sat H->aC_ Γ v->v.w.heap[b]? = some (.map es c):=λv h _=>(h.own _ (I.mem_iff.2 (yaG_ _ (O.mem_iff.2 yaq_)))).1
  by_cases o:s∈ik S k
  . obtain⟨_,_,_,_,_,_,J⟩:=A.yes e o
    exact fL_ B C u hm (e.ok s) J
  . rw[flg_no o]
    exact gx_ B Q C u hm (e.ok s) (A.no e o)
theorem zR_ {o:Op} {t kt O:TypeId} {x y z:Operand} {k:Str} {b h:Nat} (C:KeyT P kt str) (G:o=.insert t x y z\/o=.mapUpdate t x y z) (J:∀ w,(underlying t).run P w=.ok (.map kt O) w) (M:MmO mb ks S Hx) (A:hE_ ks k=none)
    (L:Fr.ev fr x=some (.map (some mb))) (I:Fr.ev fr y=some (str k)) (Q:Fr.ev fr z=some (.map (some b))) (u:H.Perm ((b,.map #[] h)::(Hx++F)))
    (v:∀ H',MmO mb (ks++[(k,b)]) S H'->Ops P R N v0 H0 ops l K fr (H'++F) Γ):Ops P R N v0 H0 ops (⟨none,o,ty,ps,af,none⟩::l) K fr H Γ:=by
  obtain⟨es,c,E,rfl,hE⟩:=M
  have T:ks.map (hg_ λq=>if q=k then (#[],h) else E q)=ks.map (hg_ E):=ybG_ λp u=>by
    unfold hg_;dsimp only;rw[yam_ λe:p.1=k=>kc_ A (e▸yaU_ u)]
  have U:hg_ (λq=>if q=k then (#[],h) else E q) (k,b)=(b,.map #[] h):=by grind[hg_]
  have B:H.Perm ((mb,.map es c)::((ks++[(k,b)]).map (hg_ λq=>if q=k then (#[],h) else E q)++F)):=by
    refine u.trans ?_
    grind[List.Perm.symm,List.perm_middle]
  refine s_ B ?_;refine bG_ 0 G J L I Q rfl (C.ok k) (hE.no C A) ?_;simp only[ycU_];exact v _ ⟨_,_,_,rfl,hE.push A b h⟩
theorem tI_ {o:Op} {t kt et:TypeId} {x y z:Operand} {k s:Str} {b:Nat} {e M:Bool} (A:KeyT P kt str) (Q:o=.insert t x y z\/o=.mapUpdate t x y z) (U:∀ w,(underlying t).run P w=.ok (.map kt et) w) (Z:MmO mb ks S Hx) (X:hE_ ks k=some b) (he:M=(flg S k s||e))
    (W:Fr.ev fr x=some (.map (some b))) (T:Fr.ev fr y=some (str s)) (O:Fr.ev fr z=some (.bool M)) (hp:H.Perm (Hx++F))
    (u:∀ H',MmO mb ks (S++[(k,s,e)]) H'->Ops P R N v0 H0 ops l K fr (H'++F) Γ):Ops P R N v0 H0 ops (⟨none,o,ty,ps,af,none⟩::l) K fr H Γ:=by
  subst he;obtain⟨es,c,Hr,h1,v,V,L⟩:=Z.at X;have G:flg (S++[(k,s,e)]) k s=(flg S k s||e):=by grind[pN_]
  have J:∀ q,q≠s->flg (S++[(k,s,e)]) k q=flg S k q:=λq I=>by grind[pN_]
  refine s_ (hp.trans (h1.append_right F)) ?_
  by_cases h:s∈ik S k
  . obtain⟨i,en,g1,Y,g3,g4,g5⟩:=v.yes A h
    obtain⟨H',B,C⟩:=L s e (es.modify i λy=>{ y with key:=str s,val:=.bool (flg S k s||e) }) c (by rw[ss_,yax_ rfl,qj_,yax_ h];exact v.set g1 _ G J) (V.modify i _ λ_=>rfl);exact gQ_ 0 A Q U W T O rfl g5 Y g3 (s_ (C.append_right F) (u H' B))
  . obtain⟨H',B,C⟩:=L s e (es.push ⟨str s,.bool (flg S k s||e),c⟩) (c+1) (by rw[ss_,yax_ rfl,qj_,yam_ h];exact v.push h (flg S k s||e) c G λq I=>J q (λe=>h (e▸I))) (V.push _ _)
    exact bG_ 0 Q U W T O rfl (A.ok s) (v.no A h) (s_ (C.append_right F) (u H' B))
end ops
end Go.Sx
namespace Go.Vs
open Go Go.Sx
def Ax.selfs (x:Ax):Nat:=x.roles.countP λr=>decide (r=x.role)
def Ax.exm (x:Ax) (i:Nat):Bool:=decide (x.roles[i]? = some x.role)&&((decide (x.selfs=1)&&(decide (i=0)||decide (i+1=x.roles.length)))||(decide (x.selfs=2)&&decide (x.roles.length=2)))
def Ax.chs (x:Ax):Nat->List RSt
  | 0=>[]
  | i+1=>x.chs i++(match x.roles[i]? with|some r=>if x.exm i=true then [] else [(r,x.role,true)]|none=>[])
def Ax.steps (x:Ax):List RSt :=
  if x.kind=5 then (match x.roles[0]? with|some r=>if r=x.role then [] else [(r,x.role,false)]|none=>[])
  else if x.kind=6 then x.chs x.roles.length else []
def bM_ (l:List Ax):List RSt:=l.flatMap Ax.steps
theorem dj_ {l:List Ax} {i:Nat} {x:Ax} (h:l[i]? = some x):bM_ (l.take (i+1))=bM_ (l.take i)++x.steps:=by
  grind[bM_,List.take_add_one]
theorem Ax.steps_five {x:Ax} {r:Str} (d:x.kind=5) (h:x.roles[0]? = some r) (e:r≠x.role):x.steps=[(r,x.role,false)]:=by grind[steps]
theorem Ax.steps_same {x:Ax} {r:Str} (d:x.kind=5) (h:x.roles[0]? = some r) (e:r=x.role):x.steps=[]:=by grind[steps]
theorem Ax.steps_six {x:Ax} (d:x.kind=6):x.steps=x.chs x.roles.length:=by grind[steps]
theorem Ax.steps_no {x:Ax} (d:x.kind≠5) (e:x.kind≠6):x.steps=[]:=by grind[steps]
theorem Ax.chs_yes {x:Ax} {i:Nat} {r:Str} (h:x.roles[i]? = some r) (d:x.exm i=true):x.chs (i+1)=x.chs i:=by grind[chs]
theorem Ax.chs_no {x:Ax} {i:Nat} {r:Str} (h:x.roles[i]? = some r) (d:x.exm i=false):x.chs (i+1)=x.chs i++[(r,x.role,true)]:=by grind[chs]
def Frm (ks:List (Str×Nat)) (S:List RSt):Prop:=∀ k∈ks.map (·.1),∃ s c,(k,s,c)∈S
theorem Frm.nil {S:List RSt}:Frm [] S:=λk d=>by simp at d
theorem Frm.more {ks:List (Str×Nat)} {S T:List RSt} (h:Frm ks S):Frm ks (S++T):=λk d=>by
  obtain⟨s,c,e⟩:=h k d
  grind
theorem Frm.add {ks d:List (Str×Nat)} {S:List RSt} {r s:Str} {e:Bool} (h:Frm ks S) (u:∀ k∈d.map (·.1),k∈ks.map (·.1)\/k=r):Frm d (S++[(r,s,e)]):=λk o=>by
 rcases u k o with v|rfl
 .obtain⟨t,c,x⟩:=h k v
  grind
 grind
def sE (S:List RSt) (r s:Str) (c:Bool):Prop:=(r,s,c)∈S
def qk_ (S:List RSt):Prop:=∃ n,Clo (sE S) n
theorem zT_ {α:Type} {l:List α} (e:l.Nodup) {i j:Nat} {x:α} (hi:l[i]? = some x) (d:l[j]? = some x):i=j:=by
  grind[List.pairwise_iff_getElem]
structure GrO (S:List RSt) (R:List Str) (G:List (List (Nat×Bool))):Prop where
  len:G.length=R.length
  nd:R.Nodup
  mem:∀ r,r∈R↔∃ s c,(r,s,c)∈S
  row:∀ (i:Nat) (r:Str) (l:List (Nat×Bool)),R[i]? = some r->G[i]? = some l->∀ (j:Nat) (c:Bool),(j,c)∈l↔∃ s,R[j]? = some s/\(∃ c',(r,s,c')∈S)/\c=flg S r s
theorem GrO.to {S:List RSt} {R:List Str} {G:List (List (Nat×Bool))} (h:GrO S R G):∀ (i:Nat) (l:List (Nat×Bool)),G[i]? = some l->∀ s∈l,s.1<G.length:=by
  intro i l hl s e;have d:=(yaf_.1 hl).1;rw[h.len]at d;obtain⟨t,k,_⟩:=(h.row i _ l (yaa_ d) hl s.1 s.2).1 e
  grind[len]
theorem GrO.circ {S:List RSt} {R:List Str} {G:List (List (Nat×Bool))} (h:GrO S R G):qk_ S↔∃ n,Clo (gE G) n:=by
 constructor
 .rintro ⟨n,f,c,A,E,o,v,e,k⟩
  have K:∀ m,∃ j,m<=n->R[j]? = some (f m):=λm=>by
    by_cases g:m<=n
    . by_cases I:m<n
      . obtain⟨j,H⟩:=yaA_ ((h.mem (f m)).2 ⟨_,_,o m I⟩)
        exact⟨j,λ_=>H⟩
      . obtain⟨j,H⟩:=yaA_ ((h.mem (f 0)).2 ⟨_,_,o 0 A⟩)
        grind
    . exact⟨0,λq=>absurd q g⟩
  obtain⟨g,B⟩:=Classical.axiomOfChoice K;refine⟨n,g,λm=>flg S (f m) (f (m+1)),A,?_,λm hm=>?_,v,e,?_⟩
  .have x:=B n (yab_ _)
   have F:=B 0 (yaV_ _);rw[E]at x;exact zT_ h.nd x F
  .have x:=B m zaa_
   have u:g m<G.length:=by grind[len]
   exact⟨_,yaa_ u,(h.row (g m) (f m) _ x (yaa_ u) _ _).2 ⟨f (m+1),B (m+1) zaa_,⟨_,o m hm⟩,rfl⟩⟩
  have:=o v e;rw[k]at this;exact pM_.2 this
 rintro ⟨n,g,c,A,E,o,v,e,k⟩
 have key:∀ m,m<n->∃ d,((R[g m]?).getD [],(R[g (m+1)]?).getD [],d)∈S/\(c m=true->d=true):=λm hm=>by
   obtain⟨l,hl,J⟩:=o m hm;have C:g m<R.length:=by grind[len]
   obtain⟨s,x,⟨L,F⟩,M⟩:=(h.row (g m) _ l (yaa_ C) hl _ _).1 J
   grind[pM_]
 have y:∀ m,∃ d,m<n->((R[g m]?).getD [],(R[g (m+1)]?).getD [],d)∈S/\(c m=true->d=true):=λm=>by
   by_cases g:m<n
   all_goals grind
 obtain⟨d,y⟩:=Classical.axiomOfChoice y;exact⟨n,λm=>(R[g m]?).getD [],d,A,by grind,λm hm=>(y m hm).1,v,e,(y v e).2 k⟩
end Go.Vs
namespace Go.Sx
open Go
section
variable {P:Program} {N:Nat} {v0:Vw} {H0:Hp} {R:Exit->Act->World->Prop} {K:List Kt} {fr:Fr} {H F:Hp} {Γ:List Fct}
theorem cz_ {n:Nat}:∀ (K:List Kt) (e:Exit) (a:Act) (w:World),post P R K e a w->eM_ Fence.wide n P R K e a w
 | [],_,_,_,h=>h
 | .seq c::K,.normal,a,w,h=>wpIn_wide.2 (wp_mono h λe a w d=>cz_ K e a w d)
 | .seq _::K,.exit _,a,w,h=>cz_ K _ a w h
 | .seq _::K,.goto _,a,w,h=>cz_ K _ a w h
 | .seq _::K,.ret,a,w,h=>cz_ K _ a w h
 | .seq _::K,.panic _,a,w,h=>cz_ K _ a w h
 | .seq _::K,.outgrown,a,w,h=>cz_ K _ a w h
 | .inv J::_,.normal,_,_,h=>h
 | .inv _::K,.exit _,a,w,h=>cz_ K _ a w h
 | .inv _::K,.goto _,a,w,h=>cz_ K _ a w h
 | .inv _::K,.ret,a,w,h=>cz_ K _ a w h
 | .inv _::K,.panic _,a,w,h=>cz_ K _ a w h
 | .inv _::K,.outgrown,a,w,h=>cz_ K _ a w h
 | .blk id::K,.exit id',a,w,h=>by
   simp only[eM_,post]at h ⊢
   split
   . rename_i e;rw[yax_ e]at h;exact cz_ K _ a w h
   . rename_i e;rw[yam_ e]at h;exact cz_ K _ a w h
 | .blk _::K,.normal,a,w,h=>cz_ K _ a w h
 | .blk _::K,.goto _,a,w,h=>cz_ K _ a w h
 | .blk _::K,.ret,a,w,h=>cz_ K _ a w h
 | .blk _::K,.panic _,a,w,h=>cz_ K _ a w h
 | .blk _::K,.outgrown,a,w,h=>cz_ K _ a w h
end
end Go.Sx
namespace Go.Sx
open Go
section
variable {P:Program} {N:Nf} {v0:Vw} {H0:Hp} {R:Exit->Act->World->Prop} {K:List Kt} {fr:Fr} {H F:Hp} {Γ:List Fct} {ops:Array Oper} {l:List Oper} {d:Nat} {ty:TypeId} {ps:String} {af:Array Edge} {e:TypeId} {sz n:Nat} {sv:Value} {xs:List Value} {Hr:Hp}
theorem zZ_ (z:List Value) (h:0<z.length) (n:Nat):madeCells z.toArray (n*z.length)=(kq_ z n).toArray:=kZ_ z h n
theorem jE_ {t:TypeId} {x y:Operand} {by':Nat} {z:Value} (G:P.underlying t=some (.slice e)) (hi:(P.info? e).map (λi=>(i.zero,i.size,i.bytes))=some (some z,sz,by')) (k:z.cells.toList.length=sz) (M:0<sz) (I:Fr.ev fr x=some (.int .i64 (n:Int))) (E:Fr.ev fr y=some (.int .i64 (n:Int)))
    (O:by'*n<=281474976710656) (A:n<=maxLen) (L:Nat.blt d N.n=true)
    (J:∀ sv Hr,av_ e sz sv n (kq_ z.cells.toList n) Hr->Ops P R N v0 H0 ops l K ((d,sv)::fr) (Hr++H) Γ):Ops P R N v0 H0 ops (⟨some d,.makeSlice t x y,ty,ps,af,none⟩::l) K fr H Γ:=by
  refine in_ (x:=λb=>.slice (some ⟨b,0,none⟩) n n) (o:=.cells (kq_ z.cells.toList n).toArray e (0,0)) L (λa v C _ _=>?_) (λb=>J _ [(b,.cells (kq_ z.cells.toList n).toArray e (0,0))] ⟨?_,.inr ⟨b,n,(kq_ z.cells.toList n).toArray,rfl,rfl,yab_ _,A,?_,?_⟩⟩)
  . cases h:P.info? e with
    | none=>grind
    | some i =>
      rw[h]at hi;simp only[yba_,yai_,ycl_]at hi
      have u:(i.bytes:Int)*(n:Int)<=281474976710656:=by
        grind
      have B:=run_make (P:=P) v.w t e i z G h hi.1 .i64 .i64 (n:Int) (n:Int) zaa_ (Int.le_refl _) u (by grind[maxLen]);have hm:=zZ_ z.cells.toList zaa_ n;rw[k,ycL_]at hm;rw[hi.2.1,Int.toNat_natCast,hm]at B;simp only[execOp,C.ev I,C.ev E];simp[B]
  all_goals grind[oQ_]
theorem lK_ {α:Type} (f:α->List Value) (z:α):∀ n,kq_ (f z) n=(List.replicate n z).flatMap f
  | 0=>rfl
  | n+1=>by rw[kq_,List.replicate_succ,yaR_,lK_ f z n]
end
end Go.Sx
namespace Go.Vs
open Go Go.Sx
def Ky.cells (k:Ky):List Value:=[.int .i64 k.kind,str k.role,str k.atom]
def Ky.val (k:Ky):Value:=.agg k.cells.toArray
end Go.Vs
namespace Go.Sx
open Go Go.Vs
structure Emt (P:Program) (tF:TypeId) where
  stp:Fc->List Fc->List Fc
  kof:List Fc->List Fc
  St:List Fc->List Fc->Hp->Prop
  fn:FuncId
  caps:List Value
  ef:Fct
  kb:Nat
  fb:Nat
  grows:Grows stp kof
  emit:∀ f nw fm H,St nw fm H->Tri P fn (f.val::caps).toArray H [ef] (λ_:{H':Hp // St (stp f nw) fm H'}=>.tuple #[]) (λy=>y.1) (λ_=>[])
  known:∀ {nw fm H},St nw fm H->∃ es c,(kb,Obj.map es c)∈H/\SetE Fc.val es (kof nw)
  firm:∀ {nw fm H},St nw fm H->∃ es c q,(fb,Obj.map es c)∈H/\SetE Fc.val es q/\∀ f,f∈q↔f∈fm
  setf:∀ {nw fm H} (f:Fc),St nw fm H->∃ es c q Hr,H.Perm ((fb,Obj.map es c)::Hr)/\SetE Fc.val es q/\(∀ f,f∈q↔f∈fm)/\∀ es' c',SetE Fc.val es' (if f∈q then q else q++[f])->∃ H',St nw (f::fm) H'/\H'.Perm ((fb,Obj.map es' c')::Hr)
section
variable {P:Program} {N:Nf} {v0:Vw} {H0:Hp} {R:Exit->Act->World->Prop} {K:List Kt} {fr:Fr} {H:Hp} {Γ:List Fct}
variable {ops:Array Oper} {l:List Oper} {d:Nat} {ty:TypeId} {ps:String} {af:Array Edge} {tF:TypeId} {E:Emt P tF} {nw fm:List Fc} {Hs F:Hp}
end
structure EngB where
  g:Nat
  pb:Nat
  ab:Nat
  ub:Nat
  ob:Nat
  ib:Nat
  rb:Nat
  sb:Nat
  lad:Ao
  lcap:Nat
  lps:List Str
def EngB.cells (B:EngB) {P:Program} {tF:TypeId} (E:Emt P tF):List Value :=
  [.map (some B.pb),.slice B.lad B.lps.length B.lcap,.map (some E.kb),.func (.func E.fn) #[] E.caps.toArray,.map (some B.ab),.map (some B.ub),.map (some B.ob),.map (some B.ib),.map (some B.rb),.map (some B.sb),.map (some E.fb)]
end Go.Sx
namespace Go.Proofs.YtbffkokbdeppaaaGreatDoor
open Go Go.Sx Go.Proofs Tryz
attribute [local irreducible] Code.wp wpList wpAnyH
open Go.Vs
theorem sC_:Elt prog 69 80 10 128:=gn_ underlying69 (z:=.agg #[i4_ 0,str [],str [],str [],str [],str [],str [],i4_ 0,i4_ 0,i4_ 0]) zam_ rfl zaj_
theorem ch_:Elt prog 25 9 1 16:=gn_ jq_ (z:=.string ⟨#[]⟩) zam_ rfl zaj_
theorem bN_ (s:Str):(V_ s).all Value.oneCell'=true:=rfl
theorem gk_ (s:Int):(cS_ s).all Value.oneCell'=true:=rfl
def gF (B:EngB) (E:Emt prog 104):Fct:=cv_ B.g (.cells (B.cells E).toArray 204 (0,0))
structure NewE where
  g:Nat
  pb:Nat
  kb:Nat
  ab:Nat
  ub:Nat
  ob:Nat
  ib:Nat
  rb:Nat
  sb:Nat
  fb:Nat
  lv:Value
  hm:Hp
  hl:Hp
def NewE.ok (ps:List Pc) (y:NewE):Prop:=kv_ Ky.val Pc.cells 80 10 (pmOf ps) y.pb y.hm/\zR 9 1 V_ y.lv (Cg_ ps) y.hl
def NewE.own (y:NewE):Hp:=(y.g,.cells #[.map (some y.pb),y.lv,.map (some y.kb),.nilFunc,.map (some y.ab),.map (some y.ub),.map (some y.ob),.map (some y.ib),.map (some y.rb),.map (some y.sb),.map (some y.fb)] 204 (0,0))::(y.kb,.map #[] 0)::(y.ab,.map #[] 0)::(y.ub,.map #[] 0)::(y.ob,.map #[] 0)::(y.ib,.map #[] 0)::(y.rb,.map #[] 0)::(y.sb,.map #[] 0)::(y.fb,.map #[] 0)::(y.hm++y.hl)
section
variable {N:Nf} {v0:Vw} {H0:Hp} {fr:Fr}
theorem tN_ {k:Act->World->Prop} {F:Hp}:∀ (B:Hp) {H:Hp} {Γ:List Fct},H.Perm (B++F)->Ok N v0 H0 k fr F (B.reverse.map (λp=>cv_ p.1 p.2)++Γ)->Ok N v0 H0 k fr H Γ
  | [],H,Γ,hH,h=>s_ hH h
  | (b,o)::B,H,Γ,hH,h=>by
    refine fW_ (cv_ b o) (F:=B++F) hH (λ_ d e _=>⟨d,e⟩) ?_;refine tN_ B (.refl _) ?_;simpa using h
end
end Go.Proofs.YtbffkokbdeppaaaGreatDoor
namespace Go.Proofs.YtbffkokbdeppaaaGreatDoor
open Go Go.Sx Go.Proofs Tryz
attribute [local irreducible] Code.wp wpList wpAnyH
open Go.Vs
theorem yv_ {P:Program} (w:World) (d:Nat) (t e:TypeId) (a:Ao) (l c:Nat) (h:P.underlying t=some (.slice e)):(Op.equalIn (d+1) t (.slice a l c) (.slice none 0 0)).run P w=.ok a.isNone w:=by
  cases a<;>simp[Op.equalIn,run_underlying h]
theorem wR_ {P:Program} (w:World) (t e:TypeId) (a:Ao) (l c:Nat) (h:P.underlying t=some (.slice e)):(Op.equal t (.slice a l c) (.slice none 0 0)).run P w=.ok a.isNone w:=yv_ w 9999 t e a l c h
theorem sU_ {P:Program} {N:Nf} {fr:Fr} {H:Hp} {Γ:List Fct} {ty t k e:TypeId} {x y:Operand} {ad:Ao} {m c:Nat} (o:P.underlying t=some (.slice e)) (u:Fr.ev fr x=some (.slice ad m c)) (h:Fr.ev fr y=some (.slice none 0 0)):Yld P N fr H Γ (.binOp .eql t x y k) ty (.bool (decide (ad=none))) :=
  λa v d _ _ _ _ _=>by
    have A:decide (ad=none)=ad.isNone:=by cases ad<;>simp
    simp[execOp,d.ev u,d.ev h,eqGuard,binOp,wR_ v.w t e ad m c o,A]
theorem zr_ {v:Vw} {cs:List Value} (h:bW_ v none cs):cs=[]:=by
  rcases h with h|⟨b,off,d,T,fz,e,_⟩
  all_goals grind
theorem dr_ (b:Nat) (e:TypeId) (sz:Nat):av_ e sz (.slice (some ⟨b,0,none⟩) 0 0) 0 [] [(b,.cells #[] e (0,0))]:=⟨by simp,.inr ⟨b,0,#[],rfl,rfl,yab_ _,by simp,by simp,by simp⟩⟩
end Go.Proofs.YtbffkokbdeppaaaGreatDoor
namespace Go.Proofs
open Go.Shelf
def Tryz.sortTr_ren:Go.Shelf.Ren:=⟨fun|6=>199|15=>181|14=>278|28=>267|29=>268|20=>321|21=>322|22=>323|23=>324|24=>325|25=>326|26=>327|27=>328|46=>366|47=>309|48=>310|49=>367|50=>368|57=>386|n=>n,fun|22=>169|24=>171|25=>240|3=>3|39=>231|0=>0|53=>306|55=>308|4=>4|46=>300|45=>299|50=>249|5=>5|9=>9|66=>349|70=>237|76=>388|77=>389|n=>n,fun|n=>n⟩
theorem Tryz.sortTr:Go.Proofs.SlLaysF0.n6 Tryz.prog Tryz.sortTr_ren:={
  mixed:=by kernel_rfl
  f6:=⟨Tryz.f199.name,by decide,Tryz.func199.trans (yag_ some zam_)⟩
  f14:=⟨Tryz.f278.name,by decide,Tryz.func278.trans (yag_ some zam_)⟩
  f15:=Tryz.func181.trans (yag_ some zam_)
  f20:=⟨Tryz.f321.name,by decide,Tryz.func321.trans (yag_ some zam_)⟩
  f21:=⟨Tryz.f322.name,by decide,Tryz.func322.trans (yag_ some zam_)⟩
  f22:=⟨Tryz.f323.name,by decide,Tryz.func323.trans (yag_ some zam_)⟩
  f23:=⟨Tryz.f324.name,by decide,Tryz.func324.trans (yag_ some zam_)⟩
  f24:=⟨Tryz.f325.name,by decide,Tryz.func325.trans (yag_ some zam_)⟩
  f25:=⟨Tryz.f326.name,by decide,Tryz.func326.trans (yag_ some zam_)⟩
  f26:=⟨Tryz.f327.name,by decide,Tryz.func327.trans (yag_ some zam_)⟩
  f27:=⟨Tryz.f328.name,by decide,Tryz.func328.trans (yag_ some zam_)⟩
  f28:=Tryz.func267.trans (yag_ some zam_)
  f29:=Tryz.func268.trans (yag_ some zam_)
  f46:=⟨Tryz.f366.name,by decide,Tryz.func366.trans (yag_ some zam_)⟩
  f47:=Tryz.func309.trans (yag_ some zam_)
  f48:=Tryz.func310.trans (yag_ some zam_)
  f49:=⟨Tryz.f367.name,by decide,Tryz.func367.trans (yag_ some zam_)⟩
  f50:=⟨Tryz.f368.name,by decide,Tryz.func368.trans (yag_ some zam_)⟩
  f57:=⟨Tryz.f386.name,by decide,Tryz.func386.trans (yag_ some zam_)⟩
  t0:=Tryz.underlying0
  a0:=Tryz.isAgg0
  z0:=Tryz.sizeOf0
  v0:=Tryz.zeroValue0
  t3:=Tryz.underlying3
  a3:=Tryz.isAgg3
  z3:=Tryz.sizeOf3
  v3:=Tryz.zeroValue3
  t4:=Tryz.underlying4
  a4:=Tryz.isAgg4
  z4:=Tryz.sizeOf4
  v4:=Tryz.zeroValue4
  t5:=Tryz.underlying5
  a5:=Tryz.isAgg5
  z5:=Tryz.sizeOf5
  v5:=Tryz.zeroValue5
  t9:=Tryz.underlying9
  a9:=Tryz.isAgg9
  z9:=Tryz.sizeOf9
  v9:=Tryz.zeroValue9
  t22:=Tryz.underlying169
  a22:=Tryz.isAgg169
  z22:=Tryz.sizeOf169
  v22:=Tryz.zeroValue169
  t25:=Tryz.underlying240
  a25:=Tryz.isAgg240
  z25:=Tryz.sizeOf240
  v25:=Tryz.zeroValue240
  t39:=Tryz.underlying231
  a39:=Tryz.isAgg231
  z39:=Tryz.sizeOf231
  v39:=Tryz.zeroValue231
  t45:=Tryz.underlying299
  a45:=Tryz.isAgg299
  z45:=Tryz.sizeOf299
  v45:=Tryz.zeroValue299
  t46:=Tryz.underlying300
  a46:=Tryz.isAgg300
  z46:=Tryz.sizeOf300
  v46:=Tryz.zeroValue300
  t50:=Tryz.underlying249
  a50:=Tryz.isAgg249
  z50:=Tryz.sizeOf249
  v50:=Tryz.zeroValue249
  t53:=Tryz.underlying306
  a53:=Tryz.isAgg306
  z53:=Tryz.sizeOf306
  v53:=Tryz.zeroValue306
  t55:=Tryz.underlying308
  a55:=Tryz.isAgg308
  z55:=Tryz.sizeOf308
  v55:=Tryz.zeroValue308
  t66:=Tryz.underlying349
  a66:=Tryz.isAgg349
  z66:=Tryz.sizeOf349
  v66:=Tryz.zeroValue349
  t70:=Tryz.underlying237
  a70:=Tryz.isAgg237
  z70:=Tryz.sizeOf237
  v70:=Tryz.zeroValue237
  t76:=Tryz.underlying388
  a76:=Tryz.isAgg388
  z76:=Tryz.sizeOf388
  v76:=Tryz.zeroValue388
  t77:=Tryz.underlying389
  a77:=Tryz.isAgg389
  z77:=Tryz.sizeOf389
  v77:=Tryz.zeroValue389 }
end Go.Proofs
namespace Go.Vs
open Go Go.Sx
def ln_ {α:Type} (l:List α) (i:Nat) (Q:Nat->α->Prop):Prop:=∀ j,j<i->∀ a,l[j]? = some a->Q j a
theorem ln_.zero {α:Type} {l:List α} {Q:Nat->α->Prop}:ln_ l 0 Q:=λj d=>by omega
theorem ln_.step {α:Type} {l:List α} {i:Nat} {Q:Nat->α->Prop} {a:α} (h:ln_ l i Q) (u:l[i]? = some a) (k:Q i a):ln_ l (i+1) Q:=λj o b d=>by
 by_cases e:j=i
 .grind
 exact h j zaa_ b d
theorem ln_.done {α:Type} {l:List α} {i:Nat} {Q:Nat->α->Prop} (h:ln_ l i Q) (hi:¬ (i:Int)<(l.length:Int)):∀ j a,l[j]? = some a->Q j a:=λj a d =>
  h j zap_ a d
theorem ln_.all {α:Type} {l:List α} {i:Nat} {Q:α->Prop} (h:ln_ l i λ_ a=>Q a) (hi:¬ (i:Int)<(l.length:Int)):∀ a∈l,Q a:=λa e=>by
  obtain⟨j,d⟩:=yaA_ e;exact h.done hi j a d
def jQ_ (b:Bool):List Value:=[.bool b]
theorem rI_ (b:Bool):(jQ_ b).length=1:=rfl
end Go.Vs
namespace Go.Sx
open Go
section
variable {K:Type} [DecidableEq K] {kv:K->Value}
structure KeyE (kv:K->Value) (es:Array MapEntry) (q:List K):Prop where
  keys:es.toList.map (·.key)=q.map kv
  nd:q.Nodup
theorem SetE.ke {es:Array MapEntry} {q:List K} (h:SetE kv es q):KeyE kv es q:=⟨h.keys,h.nd⟩
theorem KeyE.ofKey {es:Array MapEntry} {q:List K} (hE:KeyE kv es q) {e:MapEntry} (d:e∈es.toList):∃ k∈q,e.key=kv k:=by
  have:e.key∈es.toList.map (·.key):=yaU_ d;rw[hE.keys]at this
  grind
theorem KeyE.entry {es:Array MapEntry} {q:List K} (hE:KeyE kv es q) (hi:∀ x y,kv x=kv y->x=y) {x e:MapEntry} (B:x∈es.toList) (k:e∈es.toList) (h:x.key=e.key):x=e:=by
  obtain⟨i,d,u⟩:=ycO_ B;obtain⟨j,o,A⟩:=ycO_ k
  have v:(es.toList.map (·.key)).Nodup:=by
    rw[hE.keys];unfold List.Nodup;rw[ybQ_];exact ycB_ (fun {a b} hab e=>hab (hi _ _ e)) hE.nd
  grind[List.pairwise_iff_getElem]
theorem ItS.stepK {es:Array MapEntry} {q:List K} {c:Nat} {d:Array Nat} {done:List K} {e:MapEntry} (hi:∀ x y,kv x=kv y->x=y) (hE:KeyE kv es q) (hB:Born es c) (h:ItS kv es d done) (C:e∈(leftOf es d).toList) :
    ∃ k,k∈q/\k ∉ done/\e.key=kv k/\e∈es.toList/\ItS kv es (d.push e.born) (done++[k]):=by
  unfold leftOf at C;rw[Array.toList_filter,ybC_]at C;obtain⟨v,G⟩:=C;obtain⟨k,F,u⟩:=hE.ofKey v
  have A:k ∉ done:=λhm=>by
    have:=(h.mem e v).2 ⟨k,hm,u⟩
    grind
  have same:∀ x∈es.toList,x.born=e.born->x=e:=λx B H=>by
    grind[Born.nd,List.getElem_of_mem,List.pairwise_iff_getElem]
  refine⟨k,F,A,u,v,⟨?_,λx B=>?_,λy o=>?_⟩⟩
  . grind[nd]
  . rw[Array.contains_push,ybj_,h.mem x B,ybZ_]
    constructor
    . grind
    . rintro ⟨y,o,E⟩
      rcases yaj_.1 o with o|o
      . grind
      . rw[yal_]at o
        subst o;exact .inr (yag_ MapEntry.born (hE.entry hi B v (E.trans u.symm)))
  . rcases yaj_.1 o with o|o
    . exact h.sub y o
    grind
theorem ItS.endK {es:Array MapEntry} {q:List K} {d:Array Nat} {done:List K} (hi:∀ x y,kv x=kv y->x=y) (hE:KeyE kv es q) (h:ItS kv es d done) (F:(leftOf es d).size=0):done.Perm q:=by
 refine (List.perm_ext_iff_of_nodup h.nd hE.nd).2 λk=>⟨λB=>?_,λB=>?_⟩
 .obtain⟨e,A,u⟩:=h.sub k B
  obtain⟨E,v,o⟩:=hE.ofKey A
  grind
 have:kv k∈es.toList.map (·.key):=by rw[hE.keys];grind
 obtain⟨e,A,u⟩:=yaM_.1 this
 have C:d.contains e.born=true:=by
   cases hc:d.contains e.born
   . exfalso
     have:e∈(leftOf es d).toList:=by grind[leftOf]
     grind
   . rfl
 obtain⟨E,v,o⟩:=(h.mem e A).1 C
 grind
end
end Go.Sx
namespace Go.Sx
open Go
section
variable {P:Program} {ops:Array Oper} {Q:Exit->Act->World->Prop}
theorem uL_ {r n:Nat} {o:Oper} {a:Act} {w:World} {next:Act->World->Prop} (v:gU_ o.op=true) (h:o.wp P a w next Q):o.wpIn (Fence.wide.inRound r) n P a w next Q:=by
  refine⟨λ_ _=>trivial,?_⟩;rw[semAt_eq v];unfold Oper.wp at h;generalize (execOp a.eval o).run P w=z at h ⊢
  cases z with
  | ok x w' =>
    cases x with
    | value u=>exact h
    | skip=>exact h
    | defer d=>exact h
    | enter f args=>exact⟨λq=>zbX_,(mq_ (F:=Fence.wide) h r).mono λe k q=>by omega⟩
    | row row args =>
      refine⟨λq=>zbX_,λc cs _=>?_⟩;obtain⟨u,k,A,y⟩:=h c cs;exact⟨u,k,A,stepsIn_wide.2 y⟩
    | _=>exact h.elim
  | halt x w'=>cases x<;>first|exact h|exact h.elim
theorem if_ {r n:Nat} (d:(ops.toList.all λo=>gU_ o.op)=true) (k:¬ LetsOut Q):∀ (l:List Nat) (a:Act) (w:World),wpOps P ops Q l a w->wpOpsIn (Fence.wide.inRound r) n P ops Q l a w
 | [],_,_,h=>h
 | i::l,a,w,h=>by
   unfold wpOps at h;unfold wpOpsIn;cases ho:ops[i]? with
   | none=>rw[ho]at h;exact if_ d k l a w h
   | some o =>
     rw[ho]at h;simp only at h ⊢
     have u:gU_ o.op=true:=by
       grind
     split
     . rename_i e
       rw[yax_ e]at h;rcases h with h|h
       . exact uL_ u (Oper.wp_mono (λa w q=>if_ d k l a w q) h)
       grind
     . rename_i e
       rw[yam_ e]at h;exact⟨λ_ _=>trivial,if_ d k l _ w h⟩
end
section
variable {n:Nat} {P:Program} {N:Nat} {v0:Vw} {H0:Hp} {R:Exit->Act->World->Prop} {K:List Kt} {fr:Fr} {H:Hp} {Γ:List Fct} {ops:Array Oper}
theorem uY_ {r y:Nat} (A:Hp) (hm:P.follows .mixedOrders=true) (u:(ops.toList.all λo=>gU_ o.op)=true) (F:gt_ K=true) (E:∀ e a w,R e a w->e=.normal)
    (h:Any P R N v0 H0 ops A Γ ops.size (Array.replicate ops.size false) [] fr H Γ):iK_ (Fence.wide.inRound r) n P R N [] v0 H0 (.region y ops true) K fr H Γ:=by
  refine ef_.2 λa v C k d B=>?_
  refine wpIn_mono (Q:=R) (wpIn_region_draw λt=>?_) λe a w q=>by
    grind[mF_]
  have x:v.le ⟨v.im,{ v.w with drawn:=v.w.drawn+1 },v.sl⟩:=⟨λ_ h=>h,λ_ _=>rfl,rfl⟩;have q:=h a ⟨v.im,{ v.w with drawn:=v.w.drawn+1 },v.sl⟩ C ⟨k.own,k.nodup,k.lt⟩ ⟨d.os,d.tape,d.output,d.size,d.block,d.imUp,d.imNew,d.hNew,d.sl,d.dr.imp (λh=>h) λh=>yaW_ h⟩ (ba_ x B);refine if_ u (λ⟨a,w,q⟩=>by grind) _ _ _ ?_;simp only[Region.schedule,hm,Bool.true_or,ycu_];exact wpAny_sound ops.size t _ a _ (wpAny_of_held _ _ _ _ q)
theorem ql_ {σ:Type} {Hj:σ->Hp} {ok:σ->Prop} {d:Hp}:∀ e a w,sR_ v0 H0 Hj ok d e a w->e=.normal
  | .normal,_,_,_=>rfl
instance {σ:Type} {Hj:σ->Hp} {ok:σ->Prop} {HL:Hp}:NoPan (sR_ v0 H0 Hj ok HL):=⟨λ_ _ _ _ _ h=>h⟩
end
end Go.Sx
namespace Go.Vs
open Go Go.Sx
structure Thg where
  kind:Int
  name:Str
deriving DecidableEq
def Thg.cells (t:Thg):List Value:=[.int .i64 t.kind,str t.name]
theorem Thg.cells_len (t:Thg):t.cells.length=2:=rfl
def Thg.val (t:Thg):Value:=.agg t.cells.toArray
def aM_ (x:Pc):List Thg :=
  if x.kind=1\/x.kind=3\/x.kind=8 then [⟨1,x.a⟩]
  else if x.kind=2 then [⟨1,x.a⟩,⟨1,x.b⟩]
  else if x.kind=4 then [⟨2,x.r⟩,⟨1,x.a⟩]
  else if x.kind=5 then [⟨2,x.r⟩]
  else if x.kind=6 then [⟨2,x.r⟩,⟨2,x.s⟩]
  else if x.kind=9 then [⟨3,x.r⟩] else []
def aP_ (x:Pc):List Thg :=
  if x.kind=1\/x.kind=2\/x.kind=4\/x.kind=9 then [⟨1,x.c⟩]
  else if x.kind=3 then [⟨2,x.r⟩,⟨1,x.c⟩]
  else if x.kind=5\/x.kind=6 then [⟨2,x.t⟩]
  else if x.kind=7 then [⟨2,x.r⟩]
  else if x.kind=8 then [⟨3,x.r⟩] else []
def ei_ (S:List Str):List Thg:=[⟨1,[42]⟩,⟨1,[33]⟩]++S.map (λs=>⟨1,s⟩)
inductive Rch (p:List Pc) (S:List Str):Thg->Prop
  | base {t:Thg} (h:t∈ei_ S):Rch p S t
  | give {x:Pc} {t:Thg} (hx:x∈p) (hn:∀ u∈aM_ x,Rch p S u) (ht:t∈aP_ x):Rch p S t
def Usb (p:List Pc) (S:List Str) (x:Pc):Prop:=∀ u∈aM_ x,Rch p S u
def cn_ (K:List Thg):List Thg->List Thg
  | []=>[]
  | t::l=>if t∈K then cn_ K l else t::cn_ (K++[t]) l
theorem hc_:∀ (l K:List Thg) (t:Thg),t∈K++cn_ K l↔t∈K\/t∈l
 | [],K,t=>by simp[cn_]
 | u::l,K,t=>by
   rw[cn_]
   by_cases h:u∈K
   . rw[yax_ h,hc_ l K t]
     grind
   . rw[yam_ h,show K++u::cn_ (K++[u]) l=(K++[u])++cn_ (K++[u]) l by simp,hc_ l (K++[u]) t]
     grind
theorem hb_:∀ (l K:List Thg),K.Nodup->(K++cn_ K l).Nodup
 | [],K,h=>by grind[cn_]
 | u::l,K,h=>by
   rw[cn_]
   by_cases d:u∈K
   . rw[yax_ d];exact hb_ l K h
   . rw[yam_ d,show K++u::cn_ (K++[u]) l=(K++[u])++cn_ (K++[u]) l by simp]
     refine hb_ l (K++[u]) ?_
     grind
theorem um_ {K l:List Thg} (h:K.Nodup) {t:Thg} (d:t∈cn_ K l):t ∉ K:=by grind[hb_]
def pnd (K W:List Thg) (t:Thg):Bool:=decide (t ∉ K)||decide (t∈W)
theorem BZ_ {K W l:List Thg} (h:K.Nodup) (t:Thg):pnd (K++cn_ K l) (W++cn_ K l) t=pnd K W t:=by
  grind[pnd,um_]
def eN_ (K W:List Thg) (x:Pc):Nat:=(aM_ x).countP (pnd K W)
theorem mK_ {K W l:List Thg} (h:K.Nodup) (x:Pc):eN_ (K++cn_ K l) (W++cn_ K l) x=eN_ K W x:=by
  unfold eN_
  congr 1
  grind[BZ_]
structure KW (p:List Pc) (S:List Str) (K W:List Thg):Prop where
  snd:∀ t∈K,Rch p S t
  kn:K.Nodup
  sub:∀ t∈W,t∈K
  wn:W.Nodup
theorem KW.ext {p:List Pc} {S:List Str} {K W l:List Thg} (h:KW p S K W) (hl:∀ t∈l,Rch p S t):KW p S (K++cn_ K l) (W++cn_ K l) where
  snd t ht:=((hc_ l K t).1 ht).elim (h.snd t) (hl t)
  kn:=hb_ l K h.kn
  sub t ht:=(yaj_.1 ht).elim (λq=>yaG_ _ (h.sub t q)) (λq=>ybV_ _ q)
  wn:=by
    have d:=hb_ l K h.kn;rw[ybA_]at d ⊢;exact⟨h.wn,d.2.1,λa e b k=>d.2.2 a (h.sub a e) b k⟩
structure RK (p:List Pc) (S:List Str) (i:Nat) (K:List Thg) (U:List Bool):Prop where
  kw:KW p S K K
  bas:∀ t∈ei_ S,t∈K
  ul:U.length=p.length
  use:∀ (j:Nat) x,p[j]? = some x->U[j]? = some (decide (j<i)&&decide (aM_ x=[]))
  giv:∀ (j:Nat) x,p[j]? = some x->j<i->aM_ x=[]->∀ t∈aP_ x,t∈K
structure RI (p:List Pc) (S:List Str) (K W:List Thg) (U:List Bool) (wl:List Int):Prop where
  kw:KW p S K W
  bas:∀ t∈ei_ S,t∈K
  ul:U.length=p.length
  wll:wl.length=p.length
  cnt:∀ (i:Nat) x,p[i]? = some x->wl[i]? = some (eN_ K W x:Int)
  use:∀ (i:Nat) x,p[i]? = some x->U[i]? = some (decide (eN_ K W x=0))
  giv:∀ (i:Nat) x,p[i]? = some x->eN_ K W x=0->∀ t∈aP_ x,t∈K
theorem mL_ (K:List Thg) (x:Pc):eN_ K K x=(aM_ x).length:=by
  grind[eN_,List.countP_eq_length,pnd]
theorem RK.init {p:List Pc} {S:List Str} {K:List Thg} (d:KW p S K K) (e:∀ t∈ei_ S,t∈K):RK p S 0 K (List.replicate p.length false) where
  kw:=d
  bas:=e
  ul:=by simp
  use j x hj:=by
    grind
  giv j x _ h:=absurd h (Nat.not_lt_zero _)
theorem RK.skip {p:List Pc} {S:List Str} {i:Nat} {K:List Thg} {U:List Bool} {x:Pc} (h:RK p S i K U) (d:p[i]? = some x) (k:aM_ x≠[]):RK p S (i+1) K U where
 kw:=h.kw
 bas:=h.bas
 ul:=h.ul
 use j y hj:=by
   rw[h.use j y hj]
   grind[Option.some.injEq]
 giv j y hj hlt he:=by
   by_cases e:j=i
   . grind
   . exact h.giv j y hj zaa_ he
theorem oC_ {α:Type} {l:List α} {i:Nat} {v:α} (h:i<l.length) (j:Nat):(l.set i v)[j]? = if j=i then some v else l[j]? := by
  grind
theorem RK.take {p:List Pc} {S:List Str} {i:Nat} {K:List Thg} {U:List Bool} {x:Pc} (h:RK p S i K U) (o:p[i]? = some x) (u:aM_ x=[]):RK p S (i+1) (K++cn_ K (aP_ x)) (U.set i true) where
 kw:=h.kw.ext λt d=>.give (yad_ o) zap_ d
 bas t d:=yaG_ _ (h.bas t d)
 ul:=by grind[ul]
 use j y hj:=by
   have k:=(yaf_.1 o).1;rw[oC_ (by grind[ul])]
   by_cases e:j=i
   . grind
   . rw[yam_ e,h.use j y hj]
     congr 2
     grind
 giv j y hj k he t d:=by
   by_cases e:j=i
   . grind[hc_]
   . exact yaG_ _ (h.giv j y hj zaa_ he t d)
theorem RK.done {p:List Pc} {S:List Str} {K:List Thg} {U:List Bool} (h:RK p S p.length K U):RI p S K K U (p.map λx=>((aM_ x).length:Int)) where
  kw:=h.kw
  bas:=h.bas
  ul:=h.ul
  wll:=by simp
  cnt i x hx:=by grind[mL_]
  use i x hx:=by
    have:=(yaf_.1 hx).1;rw[h.use i x hx,mL_,ycc_ this,ycx_]
    grind[List.length_eq_zero_iff]
  giv i x hx h0:=by
    rw[mL_,List.length_eq_zero_iff]at h0;exact h.giv i x hx (yaf_.1 hx).1 h0
structure RJ (p:List Pc) (S:List Str) (t:Thg) (us:List Int) (j:Nat) (K W:List Thg) (U:List Bool) (wl:List Int):Prop where
  kw:KW p S K W
  bas:∀ t∈ei_ S,t∈K
  ul:U.length=p.length
  wll:wl.length=p.length
  tk:t∈K
  tw:t ∉ W
  cnt:∀ (i:Nat) x,p[i]? = some x->wl[i]? = some ((eN_ K W x:Int)+((aM_ x).count t:Int) - ((us.take j).count (i:Int):Int))
  use:∀ (i:Nat) x,p[i]? = some x->U[i]? = some (decide ((eN_ K W x:Int)+((aM_ x).count t:Int) - ((us.take j).count (i:Int):Int)=0))
  giv:∀ (i:Nat) x,p[i]? = some x->(eN_ K W x:Int)+((aM_ x).count t:Int) - ((us.take j).count (i:Int):Int)=0->∀ u∈aP_ x,u∈K
theorem mJ_ {p:List Pc} {S:List Str} {K W:List Thg} {t:Thg} (h:KW p S K (W++[t])) (x:Pc):eN_ K (W++[t]) x=eN_ K W x+(aM_ x).count t:=by
  have d:t∈K:=h.sub t zak_
  grind[KW.wn,List.nodup_append,eN_,aM_,pnd]
theorem RI.pop {p:List Pc} {S:List Str} {K W:List Thg} {U:List Bool} {wl:List Int} {t:Thg} (h:RI p S K (W++[t]) U wl) (us:List Int):RJ p S t us 0 K W U wl where
  kw:=⟨h.kw.snd,h.kw.kn,λu d=>h.kw.sub u (yaG_ _ d),(ybA_.1 h.kw.wn).1⟩
  bas:=h.bas
  ul:=h.ul
  wll:=h.wll
  tk:=h.kw.sub t zak_
  tw:=λq=>(ybA_.1 h.kw.wn).2.2 t q t zak_ rfl
  cnt i x hx:=by rw[h.cnt i x hx,mJ_ h.kw];simp
  use i x hx:=by
    rw[h.use i x hx,mJ_ h.kw]
    congr 1
    grind
  giv i x hx h0:=h.giv i x hx (by rw[mJ_ h.kw];grind)
def oS_ (p:List Pc) (us:List Int) (t:Thg):Prop:=(∀ m∈us,0<=m/\m<p.length)/\∀ (i:Nat) x,p[i]? = some x->us.count (i:Int)=(aM_ x).count t
theorem kE_ (us:List Int) (j:Nat) (m:Int):(us.take j).count m<=us.count m:=by grind[List.take_sublist]
theorem cV_ {us:List Int} {j:Nat} {m:Int} (hm:us[j]? = some m) (k:Int):(us.take (j+1)).count k=(us.take j).count k+if k=m then 1 else 0:=by
  grind[List.take_add_one]
section
variable {p:List Pc} {S:List Str} {t:Thg} {us:List Int} {j:Nat} {K W:List Thg} {U:List Bool} {wl:List Int} {i:Nat} {x:Pc} {n:Int}
theorem RJ.pos (h:RJ p S t us j K W U wl) (k:oS_ p us t) (hm:us[j]? = some (i:Int)) (d:p[i]? = some x):∃ n:Int,wl[i]? = some n/\1<=n/\n<=(aM_ x).length+(aM_ x).length/\n=(eN_ K W x:Int)+((aM_ x).count t:Int) - ((us.take j).count (i:Int):Int):=by
  have e:=kE_ us (j+1) i;rw[cV_ hm,yax_ rfl,k.2 i x d]at e;have o:eN_ K W x<=(aM_ x).length:=List.countP_le_length;have u:(aM_ x).count t<=(aM_ x).length:=List.count_le_length;exact⟨_,h.cnt i x d,by omega,by omega,rfl⟩
theorem RJ.skip (h:RJ p S t us j K W U wl) (v:oS_ p us t) (hm:us[j]? = some (i:Int)) (d:p[i]? = some x) (o:wl[i]? = some n) (C:n - 1≠0):RJ p S t us (j+1) K W U (wl.set i (n - 1)) where
 kw:=h.kw
 bas:=h.bas
 ul:=h.ul
 wll:=by grind[wll]
 tk:=h.tk
 tw:=h.tw
 cnt k y hy:=by
   have u:=(yaf_.1 d).1;rw[oC_ zap_,cV_ hm]
   by_cases e:k=i
   . subst e
     rw[d,yai_]at hy;subst hy;rw[h.cnt k x d,yai_]at o
     grind
   . rw[yam_ e,yam_ zaa_,h.cnt k y hy]
     congr 1
 use k y hy:=by
   rw[h.use k y hy,cV_ hm]
   by_cases e:k=i
   . subst e
     obtain⟨m,B,F,E,A⟩:=h.pos v hm hy
     grind[Option.some.injEq]
   grind
 giv k y hy h0:=by
   rw[cV_ hm]at h0
   by_cases e:k=i
   . subst e
     rw[d,yai_]at hy;subst hy;rw[h.cnt k x d,yai_]at o
     grind
   . rw[yam_ zaa_]at h0
     exact h.giv k y hy h0
theorem vv_ {K W:List Thg} {x:Pc} (h:eN_ K W x=0) {u:Thg} (d:u∈aM_ x):u∈K:=by
  grind[eN_,pnd]
theorem RJ.take (h:RJ p S t us j K W U wl) (E:oS_ p us t) (hm:us[j]? = some (i:Int)) (d:p[i]? = some x) (B:wl[i]? = some n) (G:n - 1=0):RJ p S t us (j+1) (K++cn_ K (aP_ x)) (W++cn_ K (aP_ x)) (U.set i true) (wl.set i (n - 1)) where
 kw:=h.kw.ext λu A=>.give (yad_ d) (λv F=>h.kw.snd v (by
   have C:=kE_ us (j+1) i;rw[cV_ hm,yax_ rfl,E.2 i x d]at C;rw[h.cnt i x d,yai_]at B
   grind[vv_])) A
 bas u hb:=yaG_ _ (h.bas u hb)
 ul:=by grind[ul]
 wll:=by grind[wll]
 tk:=yaG_ _ h.tk
 tw:=λq=>(yaj_.1 q).elim h.tw λq=>um_ h.kw.kn q h.tk
 cnt k y hy:=by
   have o:=(yaf_.1 d).1;rw[oC_ zap_,cV_ hm,mK_ h.kw.kn]
   by_cases e:k=i
   . subst e
     rw[d,yai_]at hy;subst hy;rw[h.cnt k x d,yai_]at B
     grind
   . rw[yam_ e,yam_ zaa_,h.cnt k y hy]
     congr 1
 use k y hy:=by
   have o:=(yaf_.1 d).1;rw[oC_ (by grind[ul]),cV_ hm,mK_ h.kw.kn]
   by_cases e:k=i
   . subst e
     rw[d,yai_]at hy;subst hy;rw[h.cnt k x d,yai_]at B
     grind
   . rw[yam_ e,yam_ zaa_,h.use k y hy]
     rfl
 giv k y hy h0 u A:=by
   rw[cV_ hm,mK_ h.kw.kn]at h0
   by_cases e:k=i
   . grind[hc_]
   . rw[yam_ zaa_]at h0
     exact yaG_ _ (h.giv k y hy h0 u A)
theorem RJ.done (h:RJ p S t us us.length K W U wl) (e:oS_ p us t):RI p S K W U wl:=by
  have key:∀ (i:Nat) x,p[i]? = some x->(eN_ K W x:Int)+((aM_ x).count t:Int) - ((us.take us.length).count (i:Int):Int)=(eN_ K W x:Int):=λi x d=>by
    rw[ybE_,e.2 i x d];omega
  refine⟨h.kw,h.bas,h.ul,h.wll,λi x d=>by rw[h.cnt i x d,key i x d],λi x d=>?_,λi x d k=>h.giv i x d zap_⟩;rw[h.use i x d,key i x d]
  congr 1
  grind
end
structure ReachR (p:List Pc) (S:List Str) (K:List Thg) (U:List Bool):Prop where
  known:∀ t,t∈K↔Rch p S t
  kn:K.Nodup
  ul:U.length=p.length
  use:∀ (i:Nat) x,p[i]? = some x->∃ b,U[i]? = some b/\(b=true↔Usb p S x)
theorem RI.end {p:List Pc} {S:List Str} {K:List Thg} {U:List Bool} {wl:List Int} (h:RI p S K [] U wl):ReachR p S K U:=by
  have o:∀ x,eN_ K [] x=0↔∀ u∈aM_ x,u∈K:=λx=>by
    grind[eN_,pnd]
  have d:∀ t,Rch p S t->t∈K:=λt v=>by
    induction v with
    | base hb=>exact h.bas _ hb
    | give k hn hg ih =>
      obtain⟨i,hi⟩:=yaA_ k;exact h.giv i _ hi ((o _).2 ih) _ hg
  refine⟨λt=>⟨h.kw.snd t,d t⟩,h.kw.kn,h.ul,λi x k=>⟨_,h.use i x k,?_⟩⟩;rw[yaY_,o];exact⟨λq u e=>h.kw.snd u (q u e),λq u e=>d u (q u e)⟩
def ob_ (p:List Pc) (S:List Str):List Thg:=ei_ S++p.flatMap aP_
theorem Rch.univ {p:List Pc} {S:List Str} {t:Thg} (h:Rch p S t):t∈ob_ p S:=by
  unfold ob_;cases h<;>grind
theorem fX_ {α:Type} [DecidableEq α]:∀ (l m:List α),l.Nodup->(∀ x∈l,x∈m)->l.length<=m.length
  | [],m,_,_=>yaV_ _
  | a::l,m,h,hs=>by
    have k:=hs a yaq_;have d:=yby_.1 h;have:=fX_ l (m.erase a) d.2 λx e=>(List.mem_erase_of_ne zap_).2 (hs x (yaN_ _ e))
    grind
theorem KW.len {p:List Pc} {S:List Str} {K W:List Thg} (h:KW p S K W):K.length<=(ob_ p S).length:=fX_ K _ h.kn λt d=>(h.snd t d).univ
theorem pL_ (x:Pc):(aP_ x).length<=2:=by
  grind[aP_]
theorem ip_ (x:Pc):(aM_ x).length<=2:=by
  grind[aM_]
theorem hC_ (p:List Pc) (S:List Str):(ob_ p S).length<=2*p.length+S.length+2:=by
  have:∀ q:List Pc,(q.flatMap aP_).length<=2*q.length:=λq=>by
    induction q<;>grind[pL_]
  grind[ob_,ei_]
end Go.Vs
namespace Go.Sx
open Go Go.Vs
section
variable {P:Program} {N:Nf} {v0:Vw} {H0:Hp} {R:Exit->Act->World->Prop} {Kk:List Kt} {fr:Fr} {H:Hp} {Γ:List Fct}
variable {ops:Array Oper} {lo:List Oper} {d:Nat} {ty:TypeId} {ps:String} {af:Array Edge}
variable {K:Type} [DecidableEq K] {kv:K->Value}
theorem IntE.at {x:TypeId} {es:Array MapEntry} {ks:List K} {y:List Int} (B:KeyT P x kv) (h:IntE kv es ks y) {k:K} {i:Nat} {n:Int} (hi:ks[i]? = some k) (C:y[i]? = some n):∃ e,es[i]? = some e/\e.key=kv k/\e.val=.int .i64 n/\ek_ P x (kv k) es.toList (some (i,.int .i64 n)):=by
  have o:i<es.toList.length:=by
    have:=(yaf_.1 hi).1;have e:=yag_ List.length h.keys
    grind
  have u:=yaa_ o;have A:=yag_ (λl=>l[i]?) h.vals;simp only[yaD_,u,yba_,C,yai_]at A;have v:=yag_ (λl=>l[i]?) h.keys;simp only[yaD_,u,yba_,hi,yai_]at v;refine⟨es.toList[i],by grind,v,A,?_⟩;have:=B.sf k es.toList ks i _ h.keys h.nd hi u
  grind
theorem qu_ {t e G:TypeId} {x y:Operand} {o c:Nat} {es:Array MapEntry} {ks:List K} {h:List Int} {k:K} {i:Nat} {n:Int} (u:KeyT P e kv) (C:∀ w,(underlying t).run P w=.ok (.map e G) w) (E:Fr.ev fr x=some (.map (some o))) (B:Fr.ev fr y=some (kv k))
    (hE:IntE kv es ks h) (hi:ks[i]? = some k) (F:h[i]? = some n) (hm:∀ v,v.sat H->aC_ Γ v->v.w.heap[o]? = some (.map es c)):Yld P N fr H Γ (.lookup t x y false) ty (.int .i64 n):=by
  obtain⟨_,_,_,_,A⟩:=hE.at u hi F;exact fL_ C E B hm (u.ok k) A
theorem vr_ {kv:K->Value} {es:Array MapEntry} {ks:List K} {v:List Int} (h:IntE kv es ks v) {k:K} {i:Nat} (hi:ks[i]? = some k) (n:Int):IntE kv (es.modify i λy=>{ y with key:=kv k,val:=.int .i64 n }) ks (v.set i n):=by
 have e:=yag_ List.length h.vals;simp only[yaB_]at e;have o:=yag_ List.length h.keys;simp only[yaB_]at o;refine⟨?_,?_,h.nd⟩
 .rw[<-h.keys]
  apply yaT_
  intro j;simp only[yaD_,ybT_,ybl_]
  by_cases u:i=j
  .subst u
   rw[yax_ rfl];have x:=yag_ (λl=>l[i]?) h.keys
   grind
  grind
 apply yaT_
 intro j;have A:=yag_ (λl=>l[j]?) h.vals
 grind
theorem vm_ {o:Op} {t A O:TypeId} {x y z:Operand} {v c:Nat} (j:Nat) {es:Array MapEntry} {ks:List K} {u:List Int} {k:K} {i:Nat} {m n:Int} (B:KeyT P A kv) (E:o=.insert t x y z\/o=.mapUpdate t x y z) (I:∀ w,(underlying t).run P w=.ok (.map A O) w)
    (L:Fr.ev fr x=some (.map (some v))) (F:Fr.ev fr y=some (kv k)) (Q:Fr.ev fr z=some (.int .i64 n)) (J:H[j]? = some (v,.map es c)) (hE:IntE kv es ks u) (hi:ks[i]? = some k) (hm:u[i]? = some m)
    (h:∀ es',IntE kv es' ks (u.set i n)->Ops P R N v0 H0 ops lo Kk fr (H.set j (v,.map es' c)) Γ):Ops P R N v0 H0 ops (⟨none,o,ty,ps,af,none⟩::lo) Kk fr H Γ:=by
  obtain⟨e,M,G,S,C⟩:=hE.at B hi hm;exact gQ_ j B E I L F Q J C M G (h _ (vr_ hE hi n))
end
end Go.Sx
namespace Go.Vs
open Go Go.Sx
def Thg.eqb (p q:Thg):Bool:=(p.kind==q.kind)&&((p.name==q.name)&&true)
theorem Thg.eqb_eq (p q:Thg):p.eqb q=decide (p=q):=by
  rw[ybu_];cases p;cases q;grind[eqb]
theorem mm_:∀ (l m K:List Thg),cn_ K (l++m)=cn_ K l++cn_ (K++cn_ K l) m
 | [],m,K=>by simp[cn_]
 | u::l,m,K=>by
   rw[yaL_,cn_,cn_]
   by_cases d:u∈K
   . rw[yax_ d,yax_ d,mm_ l m K]
   . rw[yam_ d,yam_ d,mm_ l m (K++[u]),show K++u::cn_ (K++[u]) l=(K++[u])++cn_ (K++[u]) l by simp]
     rfl
theorem jL_:∀ (l K:List Thg),(cn_ K l).length<=l.length
 | [],K=>by simp[cn_]
 | u::l,K=>by
   rw[cn_]
   by_cases d:u∈K
   . rw[yax_ d];have:=jL_ l K;grind
   . rw[yam_ d];have:=jL_ l (K++[u]);grind
theorem take_snoc {α:Type} {l:List α} {i:Nat} {x:α} (h:l[i]? = some x):l.take (i+1)=l.take i++[x]:=by
  grind[List.take_add_one]
theorem ul_ {W K l:List Thg} {j:Nat} {t:Thg} (h:l[j]? = some t):W++cn_ K (l.take (j+1))=(W++cn_ K (l.take j))++cn_ (K++cn_ K (l.take j)) [t]:=by
  grind[take_snoc,mm_]
theorem vM_ {S:List Str} {j:Nat} {s:Str} (h:S[j]? = some s):ei_ (S.take (j+1))=ei_ (S.take j)++[⟨1,s⟩]:=by
  unfold ei_;rw[take_snoc h,yaz_,<-yak_];rfl
theorem yG_ {S:List Str} {j:Nat} {s:Str} (h:S[j]? = some s):cn_ [] (ei_ (S.take (j+1)))=cn_ [] (ei_ (S.take j))++cn_ (cn_ [] (ei_ (S.take j))) [⟨1,s⟩]:=by
  grind[vM_,mm_]
theorem yF_:cn_ [] (ei_ (([]:List Str).take 0))=([]++cn_ [] [⟨1,[42]⟩])++cn_ ([]++cn_ [] [⟨1,[42]⟩]) [⟨1,[33]⟩]:=by decide
theorem sM_ (p:List Pc) (S:List Str):KW p S (cn_ [] (ei_ S)) (cn_ [] (ei_ S)):=by
  have e:KW p S [] []:=⟨by simp,ybH_,by simp,ybH_⟩;have:=e.ext (l:=ei_ S) λt d=>.base d
  grind
theorem uA_ (S:List Str):∀ t∈ei_ S,t∈cn_ [] (ei_ S):=λt d=>by
  have:=(hc_ (ei_ S) [] t).2 (.inr d)
  grind
theorem KW.wlen {p:List Pc} {S:List Str} {K W:List Thg} (h:KW p S K W):W.length<=(ob_ p S).length:=fX_ W _ h.wn λt d=>(h.snd t (h.sub t d)).univ
def eU_:Nat->List Pc->List (Thg×Int)
  | _,[]=>[]
  | k,x::l=>(aM_ x).map (λt=>(t,(k:Int)))++eU_ (k+1) l
theorem tc_:∀ (l m:List Pc) (k:Nat),eU_ k (l++m)=eU_ k l++eU_ (k+l.length) m
  | [],m,k=>by simp[eU_]
  | x::l,m,k=>by
    rw[yaL_,eU_,eU_,tc_ l m (k+1),yak_,yap_,show k+1+l.length=k+(l.length+1) by omega]
theorem qD_ {p:List Pc} {i:Nat} {x:Pc} (h:p[i]? = some x):eU_ 0 (p.take (i+1))=eU_ 0 (p.take i)++(aM_ x).map λt=>(t,(i:Int)):=by
  have hl:=(yaf_.1 h).1;rw[take_snoc h,tc_,yat_,ybk_ zaa_,ybP_];simp[eU_]
theorem qn_ {l:List Thg} {k:Int} {t:Thg}:lat (l.map λu=>(u,k)) t=List.replicate (l.count t) k:=by
 induction l with
 | nil=>rfl
 | cons u l ih =>
   unfold lat at ih ⊢;rw[yaE_,List.count_cons,ycZ_]
   by_cases e:u=t
   . subst e
     grind
   grind
theorem kS_:∀ (l:List Pc) (k:Nat) (t:Thg) (m:Int),(lat (eU_ k l) t).count m=if h:(k:Int)<=m/\m<k+l.length then ((l[(m - k).toNat]?).map λx=>(aM_ x).count t).getD 0 else 0
 | [],k,t,m=>by
   simp only[eU_,yaw_]
   split
   . grind
   . rfl
 | x::l,k,t,m=>by
   rw[eU_,vu_,List.count_append,qn_,List.count_replicate,kS_ l (k+1) t m]
   by_cases e:m=(k:Int)
   . grind
   . rw[yam_ zap_]
     by_cases h:((k+1:Nat):Int)<=m/\m<((k+1:Nat):Int)+l.length
     . rw[dif_pos h,dif_pos zap_,show (m - (k:Int)).toNat=(m - ((k+1:Nat):Int)).toNat+1 by omega]
       simp
     grind
theorem uR_ (p:List Pc) (t:Thg):oS_ p (lat (eU_ 0 p) t) t:=by
 constructor
 .intro m hm
  have h:=List.count_pos_iff.2 hm
  grind[kS_]
 grind[kS_]
theorem oV_:∀ (l:List Pc) (k:Nat),(eU_ k l).length<=2*l.length
  | [],_=>by simp[eU_]
  | x::l,k=>by
    have d:=oV_ l (k+1)
    grind[ip_,eU_]
def StK (tk tw te:TypeId) (b4 b8 kb:Nat) (K W:List Thg) (H:Hp):Prop:=∃ es c sv Hw,H=(b4,.cells #[.map (some kb)] tk (0,0))::(b8,.cells #[sv] tw (0,0))::(kb,.map es c)::Hw/\SetE Thg.val es K/\Born es c/\av_ te 2 sv W.length (W.flatMap Thg.cells) Hw
def Ac_ (p:List Pc):List Int:=p.map λx=>((aM_ x).length:Int)
theorem ri_ {p:List Pc} {i:Nat} {x:Pc} (h:p[i]? = some x):Ac_ (p.take (i+1))=Ac_ (p.take i)++[((aM_ x).length:Int)]:=by
  unfold Ac_;rw[take_snoc h,yaz_];rfl
theorem Ck_ (n:Nat):¬ (n:Int)∈iot n:=by grind[List.getElem?_of_mem,Cm_,Cl_]
theorem vy_ {n i:Nat} (h:i<n):(iot n)[i]? = some (i:Int):=by
  grind[iot]
def rY_ (p:List Pc) (K:List Thg):List Thg:=(p.filter λx=>decide (∀ u∈aM_ x,u∈K)).flatMap aP_
def ou_ (p:List Pc):Nat->List Thg->List Thg
  | 0,K=>K
  | n+1,K=>ou_ p n (K++cn_ K (rY_ p K))
def vb_ (p:List Pc) (S:List Str):List Thg:=ou_ p (2*p.length+S.length+3) (cn_ [] (ei_ S))
theorem zu_ {p:List Pc} {S:List Str} {K:List Thg} (h:∀ t∈K,Rch p S t):∀ t∈rY_ p K,Rch p S t:=λt o=>by
  obtain⟨x,y,v⟩:=ybe_.1 o;obtain⟨e,d⟩:=ybC_.1 y;exact .give e (λu k=>h u (ybB_ d u k)) v
theorem wo_ {p:List Pc} {S:List Str}:∀ (n:Nat) (K:List Thg),KW p S K K->KW p S (ou_ p n K) (ou_ p n K)
  | 0,K,h=>h
  | n+1,K,h=>wo_ n _ (h.ext (zu_ h.snd))
theorem tr_ {p:List Pc}:∀ (n:Nat) (K:List Thg),∀ t∈K,t∈ou_ p n K
  | 0,K,t,h=>h
  | n+1,K,t,h=>tr_ n _ t (yaG_ _ h)
theorem tt_ {p:List Pc}:∀ (n:Nat) (K:List Thg),cn_ K (rY_ p K)=[]->ou_ p n K=K
  | 0,K,h=>rfl
  | n+1,K,h=>by rw[ou_,h,yas_];exact tt_ n K h
theorem ts_ {p:List Pc}:∀ (n:Nat) (K:List Thg),cn_ (ou_ p n K) (rY_ p (ou_ p n K))=[]\/K.length+n<=(ou_ p n K).length
 | 0,K=>.inr (by simp[ou_])
 | n+1,K=>by
   by_cases h:cn_ K (rY_ p K)=[]
   . grind[tt_]
   . rw[ou_]
     rcases ts_ n (K++cn_ K (rY_ p K)) with q|q
     . exact .inl q
     grind[List.length_pos_iff]
theorem zt_ (p:List Pc) (S:List Str) (t:Thg):t∈vb_ p S↔Rch p S t:=by
 have d:=wo_ (2*p.length+S.length+3) _ (sM_ p S)
 have e:cn_ (vb_ p S) (rY_ p (vb_ p S))=[]:=by
   rcases ts_ (2*p.length+S.length+3) (cn_ [] (ei_ S)) (p:=p) with h|h
   . exact h
   . have k:=d.len
     grind[hC_]
 refine⟨d.snd t,λh=>?_⟩
 induction h with
 | base hb=>exact tr_ _ _ _ (uA_ S _ hb)
 | @give x t hx hn hg ih =>
   have hm:t∈rY_ p (vb_ p S):=ybe_.2 ⟨x,ybC_.2 ⟨hx,ycc_ ih⟩,hg⟩;have:=(hc_ (rY_ p (vb_ p S)) (vb_ p S) t).2 (.inr hm)
   grind
def usbB (p:List Pc) (S:List Str) (x:Pc):Bool:=(aM_ x).all λu=>decide (u∈vb_ p S)
theorem yU_ (p:List Pc) (S:List Str) (x:Pc):usbB p S x=true↔Usb p S x:=by
  grind[usbB,Usb,zt_]
end Go.Vs
namespace Go.Proofs.YtbffkokbdeppaaaGreatDoor
open Go Go.Sx Go.Proofs Tryz
attribute [local irreducible] Code.wp wpList wpAnyH
open Go.Vs
theorem cM_:iJ_ prog 281 [(0,1),(1,1)] [i4_ 0,str []]:=⟨_,bj_,runUnderlying281,λw=>by simp[af_,B_]⟩
theorem jb_ {G:Prop} (h:G:=by
 exact W_ results246 ⟨((some ⟨e,0,none⟩),2),by rw[d];simp[maxLen]⟩ (cw_ rfl (show _=Value.slice (some ⟨e,0,none⟩) (aM_ x).length 2 from by rw[d];rfl)) e_ (λv _ h=>⟨(show (O_ (some ⟨e,0,none⟩) ((aM_ x).flatMap Thg.cells)).p v from by rw[d];exact h.1),trivial⟩)):G:=h
theorem gc_ {G:Prop} (h:G:=by
 exact W_ results246 ⟨((some ⟨e,0,none⟩),1),by rw[d];simp[maxLen]⟩ (cw_ rfl (show _=Value.slice (some ⟨e,0,none⟩) (aM_ x).length 1 from by rw[d];rfl)) e_ (λv _ h=>⟨(show (O_ (some ⟨e,0,none⟩) ((aM_ x).flatMap Thg.cells)).p v from by rw[d];exact h.1),trivial⟩)):G:=h
theorem Cd_ (x:Pc):Tri prog 246 #[Pc.val x] [] [] (λy:{y:Ao×Nat // ((aM_ x)).length<=y.2/\y.2<=maxLen/\(y.1=none->y.2=0)}=>.slice y.1.1 ((aM_ x)).length y.1.2) (λ_=>[]) (λy=>[O_ y.1.1 (((aM_ x)).flatMap Thg.cells)]):=by
 refine l_ func246 rfl rfl ntmps246 rfl λP=>?_;refine Zz 2 ?_;refine Q_ rfl rfl λQ=>Zi 14 (λo=>?_) λo=>?_
 .refine Zi 6 (λA=>?_) λA=>?_
  .refine Zi 5 (λC=>?_) λC=>?_
   .refine Zi 6 (λF=>?_) λF=>?_
    .refine Zi 6 (λG=>?_) λG=>?_
     .refine Zi 6 (λI=>?_) λI=>?_
      .refine Zi 6 (λK=>?_) λK=>?_
       .refine Zi 6 (λM=>?_) λM=>?_
        .refine Zz 12 ?_
         have d:aM_ x=([]:List Thg):=by have k:=yay_ o;have u:=yay_ A;have B:=yay_ C;have E:=yay_ F;have H:=yay_ G;have J:=yay_ I;have L:=yay_ K;have O:=yay_ M;simp[aM_,k,u,B,E,H,J,L,O]
         exact W_ results246 ⟨(none,0),by rw[d];simp[maxLen]⟩ (cw_ rfl (show _=Value.slice none (aM_ x).length 0 from by rw[d];rfl)) e_ (λv _ h=>⟨(show (O_ none ((aM_ x).flatMap Thg.cells)).p v from by rw[d];exact .inl rfl),trivial⟩)
        refine Zz 8 ?_;refine c_ (x_ cM_ rfl rfl) rfl (p_ aH_ bt_ bj_ rfl rfl rfl rfl rfl rfl λe=>?_);refine R_ (List.flatMap Thg.cells [(Thg.mk 3 x.r)]) f_ rfl ?_;refine Zz 4 ?_;have d:aM_ x=[(Thg.mk 3 x.r)]:=by have k:=yay_ o;have u:=yay_ A;have B:=yay_ C;have E:=yay_ F;have H:=yay_ G;have J:=yay_ I;have L:=yay_ K;have O:=ycp_ M;simp[aM_,k,u,B,E,H,J,L,O]
        exact gc_
       refine Zz 8 ?_;refine c_ (x_ cM_ rfl rfl) rfl (Zz 2 ?_);refine c_ (x_ cM_ rfl rfl) rfl (p_ aH_ bt_ bj_ rfl rfl rfl rfl rfl rfl λe=>?_);refine R_ (List.flatMap Thg.cells [(Thg.mk 2 x.r),(Thg.mk 2 x.s)]) f_ rfl ?_;refine Zz 4 ?_;have d:aM_ x=[(Thg.mk 2 x.r),(Thg.mk 2 x.s)]:=by have k:=yay_ o;have u:=yay_ A;have B:=yay_ C;have E:=yay_ F;have H:=yay_ G;have J:=yay_ I;have L:=ycp_ K;simp[aM_,k,u,B,E,H,J,L]
       exact jb_
      refine Zz 8 ?_;refine c_ (x_ cM_ rfl rfl) rfl (p_ aH_ bt_ bj_ rfl rfl rfl rfl rfl rfl λe=>?_);refine R_ (List.flatMap Thg.cells [(Thg.mk 2 x.r)]) f_ rfl ?_;refine Zz 4 ?_;have d:aM_ x=[(Thg.mk 2 x.r)]:=by have k:=yay_ o;have u:=yay_ A;have B:=yay_ C;have E:=yay_ F;have H:=yay_ G;have J:=ycp_ I;simp[aM_,k,u,B,E,H,J]
      exact gc_
     refine Zz 8 ?_;refine c_ (x_ cM_ rfl rfl) rfl (Zz 2 ?_);refine c_ (x_ cM_ rfl rfl) rfl (p_ aH_ bt_ bj_ rfl rfl rfl rfl rfl rfl λe=>?_);refine R_ (List.flatMap Thg.cells [(Thg.mk 2 x.r),(Thg.mk 1 x.a)]) f_ rfl ?_;refine Zz 4 ?_;have d:aM_ x=[(Thg.mk 2 x.r),(Thg.mk 1 x.a)]:=by have k:=yay_ o;have u:=yay_ A;have B:=yay_ C;have E:=yay_ F;have H:=ycp_ G;simp[aM_,k,u,B,E,H]
     exact jb_
    refine Zz 8 ?_;refine c_ (x_ cM_ rfl rfl) rfl (Zz 2 ?_);refine c_ (x_ cM_ rfl rfl) rfl (p_ aH_ bt_ bj_ rfl rfl rfl rfl rfl rfl λe=>?_);refine R_ (List.flatMap Thg.cells [(Thg.mk 1 x.a),(Thg.mk 1 x.b)]) f_ rfl ?_;refine Zz 4 ?_;have d:aM_ x=[(Thg.mk 1 x.a),(Thg.mk 1 x.b)]:=by have k:=yay_ o;have u:=yay_ A;have B:=yay_ C;have E:=ycp_ F;simp[aM_,k,u,B,E]
    exact jb_
   refine Zz 8 ?_;refine c_ (x_ cM_ rfl rfl) rfl (p_ aH_ bt_ bj_ rfl rfl rfl rfl rfl rfl λe=>?_);refine R_ (List.flatMap Thg.cells [(Thg.mk 1 x.a)]) f_ rfl ?_;refine Zz 4 ?_;have d:aM_ x=[(Thg.mk 1 x.a)]:=by have k:=yay_ o;have u:=yay_ A;have B:=ycp_ C;simp[aM_,k,u,B]
   exact gc_
  refine Zz 11 ?_;refine c_ (x_ cM_ rfl rfl) rfl (p_ aH_ bt_ bj_ rfl rfl rfl rfl rfl rfl λe=>?_);refine R_ (List.flatMap Thg.cells [(Thg.mk 1 x.a)]) f_ rfl ?_;refine Zz 4 ?_;have d:aM_ x=[(Thg.mk 1 x.a)]:=by have k:=yay_ o;have u:=ycp_ A;simp[aM_,k,u]
  exact gc_
 refine Zz 11 ?_;refine c_ (x_ cM_ rfl rfl) rfl (p_ aH_ bt_ bj_ rfl rfl rfl rfl rfl rfl λe=>?_);refine R_ (List.flatMap Thg.cells [(Thg.mk 1 x.a)]) f_ rfl ?_;refine Zz 4 ?_;have d:aM_ x=[(Thg.mk 1 x.a)]:=by have k:=ycp_ o;simp[aM_,k]
 exact gc_
theorem ej_ {G:Prop} (h:G:=by
 exact W_ results245 ⟨((some ⟨e,0,none⟩),1),by rw[d];simp[maxLen]⟩ (cw_ rfl (show _=Value.slice (some ⟨e,0,none⟩) (aP_ x).length 1 from by rw[d];rfl)) e_ (λv _ h=>⟨(show (O_ (some ⟨e,0,none⟩) ((aP_ x).flatMap Thg.cells)).p v from by rw[d];exact h.1),trivial⟩)):G:=h
theorem Ct_ (x:Pc):Tri prog 245 #[Pc.val x] [] [] (λy:{y:Ao×Nat // ((aP_ x)).length<=y.2/\y.2<=maxLen/\(y.1=none->y.2=0)}=>.slice y.1.1 ((aP_ x)).length y.1.2) (λ_=>[]) (λy=>[O_ y.1.1 (((aP_ x)).flatMap Thg.cells)]):=by
 refine l_ func245 rfl rfl ntmps245 rfl λR=>?_;refine Zz 2 ?_;refine Q_ rfl rfl λS=>Zi 14 (λo=>?_) λo=>?_
 .refine Zi 6 (λA=>?_) λA=>?_
  .refine Zi 6 (λC=>?_) λC=>?_
   .refine Zi 5 (λF=>?_) λF=>?_
    .refine Zi 6 (λG=>?_) λG=>?_
     .refine Zi 7 (λI=>?_) λI=>?_
      .refine Zi 5 (λK=>?_) λK=>?_
       .refine Zi 6 (λM=>?_) λM=>?_
        .refine Zi 6 (λO=>?_) λO=>?_
         .refine Zz 12 ?_
          have d:aP_ x=([]:List Thg):=by have k:=yay_ o;have u:=yay_ A;have B:=yay_ C;have E:=yay_ F;have H:=yay_ G;have J:=yay_ I;have L:=yay_ K;have P:=yay_ M;have Q:=yay_ O;simp[aP_,k,u,B,E,H,J,L,P,Q]
          exact W_ results245 ⟨(none,0),by rw[d];simp[maxLen]⟩ (cw_ rfl (show _=Value.slice none (aP_ x).length 0 from by rw[d];rfl)) e_ (λv _ h=>⟨(show (O_ none ((aP_ x).flatMap Thg.cells)).p v from by rw[d];exact .inl rfl),trivial⟩)
         refine Zz 8 ?_;refine c_ (x_ cM_ rfl rfl) rfl (p_ aH_ bt_ bj_ rfl rfl rfl rfl rfl rfl λe=>?_);refine R_ (List.flatMap Thg.cells [(Thg.mk 3 x.r)]) f_ rfl ?_;refine Zz 4 ?_;have d:aP_ x=[(Thg.mk 3 x.r)]:=by have k:=yay_ o;have u:=yay_ A;have B:=yay_ C;have E:=yay_ F;have H:=yay_ G;have J:=yay_ I;have L:=yay_ K;have P:=yay_ M;have Q:=ycp_ O;simp[aP_,k,u,B,E,H,J,L,P,Q]
         exact ej_
        refine Zz 8 ?_;refine c_ (x_ cM_ rfl rfl) rfl (p_ aH_ bt_ bj_ rfl rfl rfl rfl rfl rfl λe=>?_);refine R_ (List.flatMap Thg.cells [(Thg.mk 2 x.r)]) f_ rfl ?_;refine Zz 4 ?_;have d:aP_ x=[(Thg.mk 2 x.r)]:=by have k:=yay_ o;have u:=yay_ A;have B:=yay_ C;have E:=yay_ F;have H:=yay_ G;have J:=yay_ I;have L:=yay_ K;have P:=ycp_ M;simp[aP_,k,u,B,E,H,J,L,P]
        exact ej_
       refine Zz 8 ?_;refine c_ (x_ cM_ rfl rfl) rfl (p_ aH_ bt_ bj_ rfl rfl rfl rfl rfl rfl λe=>?_);refine R_ (List.flatMap Thg.cells [(Thg.mk 2 x.t)]) f_ rfl ?_;refine Zz 4 ?_;have d:aP_ x=[(Thg.mk 2 x.t)]:=by have k:=yay_ o;have u:=yay_ A;have B:=yay_ C;have E:=yay_ F;have H:=yay_ G;have J:=yay_ I;have L:=ycp_ K;simp[aP_,k,u,B,E,H,J,L]
       exact ej_
      refine Zz 11 ?_;refine c_ (x_ cM_ rfl rfl) rfl (p_ aH_ bt_ bj_ rfl rfl rfl rfl rfl rfl λe=>?_);refine R_ (List.flatMap Thg.cells [(Thg.mk 2 x.t)]) f_ rfl ?_;refine Zz 4 ?_;have d:aP_ x=[(Thg.mk 2 x.t)]:=by have k:=yay_ o;have u:=yay_ A;have B:=yay_ C;have E:=yay_ F;have H:=yay_ G;have J:=ycp_ I;simp[aP_,k,u,B,E,H,J]
      exact ej_
     refine Zz 8 ?_;refine c_ (x_ cM_ rfl rfl) rfl (Zz 2 ?_);refine c_ (x_ cM_ rfl rfl) rfl (p_ aH_ bt_ bj_ rfl rfl rfl rfl rfl rfl λe=>?_);refine R_ (List.flatMap Thg.cells [(Thg.mk 2 x.r),(Thg.mk 1 x.c)]) f_ rfl ?_;refine Zz 4 ?_;have d:aP_ x=[(Thg.mk 2 x.r),(Thg.mk 1 x.c)]:=by have k:=yay_ o;have u:=yay_ A;have B:=yay_ C;have E:=yay_ F;have H:=ycp_ G;simp[aP_,k,u,B,E,H]
     exact W_ results245 ⟨((some ⟨e,0,none⟩),2),by rw[d];simp[maxLen]⟩ (cw_ rfl (show _=Value.slice (some ⟨e,0,none⟩) (aP_ x).length 2 from by rw[d];rfl)) e_ (λv _ h=>⟨(show (O_ (some ⟨e,0,none⟩) ((aP_ x).flatMap Thg.cells)).p v from by rw[d];exact h.1),trivial⟩)
    refine Zz 8 ?_;refine c_ (x_ cM_ rfl rfl) rfl (p_ aH_ bt_ bj_ rfl rfl rfl rfl rfl rfl λe=>?_);refine R_ (List.flatMap Thg.cells [(Thg.mk 1 x.c)]) f_ rfl ?_;refine Zz 4 ?_;have d:aP_ x=[(Thg.mk 1 x.c)]:=by have k:=yay_ o;have u:=yay_ A;have B:=yay_ C;have E:=ycp_ F;simp[aP_,k,u,B,E]
    exact ej_
   refine Zz 11 ?_;refine c_ (x_ cM_ rfl rfl) rfl (p_ aH_ bt_ bj_ rfl rfl rfl rfl rfl rfl λe=>?_);refine R_ (List.flatMap Thg.cells [(Thg.mk 1 x.c)]) f_ rfl ?_;refine Zz 4 ?_;have d:aP_ x=[(Thg.mk 1 x.c)]:=by have k:=yay_ o;have u:=yay_ A;have B:=ycp_ C;simp[aP_,k,u,B]
   exact ej_
  refine Zz 11 ?_;refine c_ (x_ cM_ rfl rfl) rfl (p_ aH_ bt_ bj_ rfl rfl rfl rfl rfl rfl λe=>?_);refine R_ (List.flatMap Thg.cells [(Thg.mk 1 x.c)]) f_ rfl ?_;refine Zz 4 ?_;have d:aP_ x=[(Thg.mk 1 x.c)]:=by have k:=yay_ o;have u:=ycp_ A;simp[aP_,k,u]
  exact ej_
 refine Zz 11 ?_;refine c_ (x_ cM_ rfl rfl) rfl (p_ aH_ bt_ bj_ rfl rfl rfl rfl rfl rfl λe=>?_);refine R_ (List.flatMap Thg.cells [(Thg.mk 1 x.c)]) f_ rfl ?_;refine Zz 4 ?_;have d:aP_ x=[(Thg.mk 1 x.c)]:=by have k:=ycp_ o;simp[aP_,k]
 exact ej_
theorem eqTh (p q:Thg) (w:World):(Op.equalIn 10000 281 (Thg.val p) (Thg.val q)).run prog w=.ok (decide (p=q)) w:=by
  have h:=run_equalIn_struct (P:=prog) w 9999 281 (Thg.cells p).toArray (Thg.cells q).toArray (by grind[Program.fieldsOf,underlying281]) Tryz.stoodInHeld281;refine h.trans ?_;rw[<-Thg.eqb_eq];simp only[Program.fieldsOf,underlying281];exact es_ rfl aU_ rfl rfl (eqI F_ w) (es_ rfl aJ_ rfl rfl (eqS cW_ w) (wS_ w))
theorem okTh (p:Thg):kH_ prog 281 (Thg.val p):=λe w=>by
 have hi:∀ (n:Int) (w:World),(Instr.checkKey e (9998+1) 3 (.int .i64 n)).run prog w=.ok () w:=λn w=>MapKept.run_checkKey (d:=.int .i64) F_ (by simp[MapKept.IsKey]) e 9998
 have k:∀ (n:Str) (w:World),(Instr.checkKey e (9998+1) 9 (str n)).run prog w=.ok () w:=λn w=>MapKept.run_checkKey (d:=.string) cW_ (by simp[MapKept.IsKey,str]) e 9998
 refine ckF (n:=9999) underlying281 λf h=>?_;simp only[yar_,yav_,ybg_]at h;rcases h with rfl|rfl
 .exact⟨rfl,aU_,_,rfl,hi _⟩
 exact⟨rfl,aJ_,_,rfl,k _⟩
theorem tW_:KeyT prog 281 Thg.val:=tX_ (K:=Thg) underlying281 okTh (λp q w=>eqTh p q w) λk=>zo_ (l:=Thg.cells k) λv d=>by
  grind[Thg.cells,tl_,zn_]
theorem CA_:Elt prog 279 281 2 24:=gn_ underlying279 (z:=.agg #[i4_ 0,str []]) zam_ rfl zaj_
theorem Thg.cells_one (x:Thg):x.cells.all Value.oneCell'=true:=rfl
theorem hv_:Elt prog 63 3 1 8:=gn_ underlying63 (z:=i4_ 0) zam_ rfl zaj_
theorem vw_:KeyT prog 3 (λn:Int=>i4_ n):=tY_ F_
theorem add_c (t:Thg) (K W:List Thg) (L M kb:Nat) (es:Array MapEntry) (c:Nat) (sv:Value) (J:Hp) (hE:SetE Thg.val es K) (hB:Born es c) (O:av_ 281 2 sv W.length (W.flatMap Thg.cells) J) (hl:W.length<=1000000000):Tri prog 243 #[Thg.val t,zp_ L 0,zp_ M 0] ((L,.cells #[.map (some kb)] 219 (0,0))::(M,.cells #[sv] 279 (0,0))::(kb,.map es c)::J) [] (λ_:{H:Hp // StK 219 279 281 L M kb (K++cn_ K [t]) (W++cn_ K [t]) H}=>.tuple #[]) (λy=>y.1) (λ_=>[]):=by
 refine l_ func243 rfl rfl ntmps243 rfl λQ=>?_;refine Zz 2 ?_;refine Q_ rfl rfl λS=>Zz 6 ?_
 refine A_ (jn_ (k:=t) tW_ runUnderlying219 hY_ rfl rfl hE (λv h _=>(h.own _ (yad_ (i:=3) rfl)).1)) rfl λI d=>c_ (aI_ rfl) rfl (Zz 2 ?_)
 cases I
 .replace d:=zdf d
  refine Zz 5 ?_;refine yd_ (k:=t) 3 tW_ (.inr rfl) runUnderlying219 rfl rfl rfl rfl hE λC F x B=>Zz 5 ?_
  refine p_ aH_ bt_ bj_ rfl rfl rfl rfl rfl rfl λP=>?_;refine am_ (news:=List.flatMap Thg.cells [t]) CA_ O rfl rfl (g_ (g_ (g_ (g_ ah_)))) rfl (aO_ 0 rfl) (λu R=>aF_ Thg.cells_one R) zay_ zaa_ rfl λE G d=>?_;refine s_ yah_ ?_;have o:=zsa d;refine dy_ 3 o sizeOf279 rfl rfl rfl rfl (Zz 2 ?_);have A:¬ t∈K:=by assumption
  have e:cn_ K [t]=[t]:=by simp[cn_,A]
  exact end0 results243 ⟨_,C,F,E,G,rfl,by rw[e];rw[yam_ zar_]at x;exact x,(B hB),by rw[e];exact o⟩ rfl (E_ (g_ (g_ f_)) (E_ (g_ (g_ f_)) (E_ (g_ (g_ f_)) (g_ ah_)))) zt
 replace d:=zdt d;refine Zz 3 ?_;have A:t∈K:=by assumption
 have e:cn_ K [t]=[]:=by simp[cn_,A]
 exact end0 results243 ⟨_,es,c,sv,J,rfl,by rw[e,yas_];exact hE,hB,by rw[e,yas_];exact O⟩ rfl zp zt
theorem sP_ (t:Thg) (K W:List Thg) (d e kb:Nat) (h:Hp) (k:StK 219 279 281 d e kb K W h) (hl:W.length<=1000000000):Tri prog 243 #[t.val,zp_ d 0,zp_ e 0] h [] (λ_:{H:Hp // StK 219 279 281 d e kb (K++cn_ K [t]) (W++cn_ K [t]) H}=>.tuple #[]) (λy=>y.1) (λ_=>[]):=by
  obtain⟨es,c,sv,u,rfl,hE,hB,o⟩:=k
  grind[add_c]
theorem CY_ (i:Nat) (x:Pc) (p:List Pc) (ad:Ao) (cap:Nat) (K W:List Thg) (U:List Bool) (S B O C P kb:Nat) (sv:Value) (X R:Hp) (hx:p[i]? = some x) (hp:p.length<=100000000) (V:zR 4 1 jQ_ sv U X) (a2:U.length=p.length) (hS:StK 219 279 281 B C kb K W R) (hl:W.length<=900000000):Tri prog 244 #[i4_ i,zp_ O 0,zp_ S 0,zp_ P 0] ((O,.cells #[sv] 220 (0,0))::(X++R)) [cv_ S (.cells #[.slice ad p.length cap] 69 (0,0)),cv_ P (.cells #[.func (.func 243) #[] #[zp_ B 0,zp_ C 0]] 282 (0,0)),O_ ad (p.flatMap Pc.cells)] (λ_:{y:Hp×Hp // zR 4 1 jQ_ sv (List.set U i true) y.1/\StK 219 279 281 B C kb (K++cn_ K (aP_ x)) (W++cn_ K (aP_ x)) y.2}=>.tuple #[]) (λy=>(O,.cells #[sv] 220 (0,0))::(y.1.1++y.1.2)) (λ_=>[]):=by
 refine l_ func244 rfl rfl ntmps244 rfl λa1=>?_;have a5:=(yaf_.1 hx).1;obtain⟨A,E⟩:∃ A,U[i]? = some A:=⟨_,yaa_ zaa_⟩;refine Zz 4 ?_;refine c_ (bJ_ V runUnderlying220 bD_ rfl rfl zaa_ zaa_) rfl (eu_ (k:=(i:Int).toNat*1+0) V zp bD_ rfl rfl zaa_ rfl rfl λh o=>?_);have M:=(gZ_ jQ_ 1 rI_ U i 0 A true (.bool true) E zaj_ rfl).trans (yag_ _ (rfl));have G:av_ 4 1 sv (List.set U i true).length (List.flatMap jQ_ (List.set U i true)) h:=by rw[<-M,show List.length (List.set U i true)=U.length from (yaZ_ ..)];exact o
 refine Zz 2 ?_;refine s_ (cg_ (ae_ f_)) (Zz 6 ?_);refine d_ (Ct_ x) rfl e_ zt rfl λ⟨⟨H,J⟩,a3,a0,a6⟩=>?_;dsimp only;refine Zz 5 ?_;refine Y_ (ι:={y:Nat×Hp // y.1<=List.length (aP_ x)/\StK 219 279 281 B C kb (K++cn_ K (List.take y.1 (aP_ x))) (W++cn_ K (List.take y.1 (aP_ x))) y.2}) (λy=>[(3,zp_ P 0),(14,.slice H (aP_ x).length J),(15,i4_ (List.length (aP_ x):Int)),(16,i4_ y.1.1)]) (λy=>((O,.cells #[sv] 220 (0,0))::(h++y.1.2))) (λy=>[O_ H (List.flatMap Thg.cells (aP_ x)),cv_ S (.cells #[.slice ad p.length cap] 69 (0,0)),cv_ P (.cells #[.func (.func 243) #[] #[zp_ B 0,zp_ C 0]] 282 (0,0)),O_ ad (p.flatMap Pc.cells)]) (λy=>List.length (aP_ x) - y.1.1) ⟨((0:Nat),R),by simp,(by rw[ybI_];simpa [cn_] using hS)⟩ zl zp zh ?_;rintro ⟨⟨j,v⟩,L,d⟩;dsimp only at L d ⊢;have Y:=jL_ (List.take j (aP_ x)) K;have Z:=ybi_ j (aP_ x);have a4:=pL_ x;refine Zi 2 (λo=>?_) λo=>?_
 .refine Zz 6 ?_
  rw[yac_ zaa_]at d;exact end0 results244 ⟨(h,v),G,d⟩ rfl zp zt
 have e:j<List.length (aP_ x):=by omega
 obtain⟨T,u⟩:∃ Q,(aP_ x)[j]? = some Q:=⟨_,yaa_ e⟩;refine Zz 12 ?_;refine K_ bj_ rfl λb_1=>o_ 0 bt_ rfl rfl rfl rfl rfl rfl (Zz 5 ?_)
 refine bb_ (sP_ T (K++cn_ K (List.take j (aP_ x))) (W++cn_ K (List.take j (aP_ x))) B C kb v d zbs_) rfl rfl (g_ (g_ bS_)) zt rfl λ⟨I,F⟩=>?_;dsimp only;refine Zz 2 ?_;refine s_ (aL_ (ae_ f_) (cg_ (ae_ f_))) (Zz 5 ?_);exact w_ ⟨(j+1,I),e,(by rw[ul_ u,ul_ u];exact F)⟩ zae_ zl zp zh
end Go.Proofs.YtbffkokbdeppaaaGreatDoor
