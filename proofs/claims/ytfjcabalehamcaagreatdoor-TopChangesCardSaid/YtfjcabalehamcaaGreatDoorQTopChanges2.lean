/-
  Lemmas for the law TopChanges (no condition).
-/
import Derived.Test.YtfjcabalehamcaaGreatDoorQTopChanges1
import Derived.RangeFuncRecord
import Derived.Lib.Bytealg
import Derived.Below
import Derived.MapKept
import Derived.Deep.Draws
import Derived.Sort.Grow
import Derived.Lib.Join
import Derived.Lib.ItoaLen
import Derived.Laws.StructEq
set_option linter.unusedVariables false
set_option linter.unusedSimpArgs false
set_option linter.unusedSectionVars false
set_option maxHeartbeats 1000000
namespace Go.Sx
open Go
section
variable {P:Program} {N:Nat} {v0:Vw} {H0:Hp} {R:Exit->Act->World->Prop} {K:List Kt} {fr:Fr} {H F:Hp} {Γ:List Fct}
theorem fb_ {v:Vw} {l:Nat} {o o':Obj} (h:v.sat ((l,o)::F)):(⟨v.im,v.w.putObj l o',v.sl⟩:Vw).sat ((l,o')::F)/\v.to ((l,o)::F) ⟨v.im,v.w.putObj l o',v.sl⟩ ((l,o')::F):=by
  have hl:=(h.own (l,o) yau_).1;have:=gu_ (i:=0) (o':=o') (w':=v.w.putObj l o') h rfl rfl rfl rfl (yae_ _) zai_ (World.putObj_heap_same (yaD_.1 hl).1) (λk d=>World.putObj_heap_other d);simpa using this
theorem jT_ {ι:Type} {c:Code} (d:ι->Fr) (Hs:ι->Hp) (m:ι->List Fct) (I:iH_ Fence.wide 0 P (Mid N v0 H0 d Hs m) N [] v0 H0 c [] fr H Γ) (B:∀ i,Fin P R N v0 H0 K (d i) (Hs i) (m i)):Run P R N v0 H0 c K fr H Γ:=by
  intro a v y C L x;refine wp_mono (wpIn_wide.1 (ey_.1 I a v y C L x)) ?_;rintro e G w' ⟨rfl,i,A,rfl,k1,k2,E,J⟩;exact B i G A k1 k2 E J
def tx_ {σ τ:Type} (v0:Vw) (H0:Hp) (Hj:σ->Hp) (Hx:τ->Hp) (HL:Hp) (res:σ ⊕ τ):Exit->Act->World->Prop
  | .normal,_,w=>∃ s' v,res=.inl s'/\v.w=w/\v.sat (Hj s'++HL)/\v0.to H0 v (Hj s'++HL)
  | .ret,_,w=>∃ t v,res=.inr t/\v.w=w/\v.sat (Hx t++HL)/\v0.to H0 v (Hx t++HL)
  | _,_,_=>False
def rD_ {σ τ:Type} (Gj:σ->Hp) (Gx:τ->Hp):σ ⊕ τ->Hp
  | .inl s=>Gj s
  | .inr t=>Gx t
def HLp (l D:Nat) (r:Loop):Hp:=[(l,.loop r),(D,.deferred (some []))]
theorem mz_ {σ τ ι:Type} {l D:Nat} {d:Loop} {pm:Nat} {x:Value} {Hj:σ->Hp} {Hx:τ->Hp} {s:σ} {res:σ ⊕ τ} (Q:ι->Fr) (M:ι->Hp)
    (hp:d.params=#[pm]) (Z:d.state=.ready) (hpe:d.pending=none) (ht:Fr.sat N fr ⟨d.tmps,[]⟩) (T:Nat.blt pm N=true)
    (A:∀ n v0 H0 HL,iH_ (Fence.wide.inRound l) n P (Mid N v0 H0 Q (λi=>M i++HL) (λ_=>Γ)) N [] v0 H0 d.assign [] ((pm,x)::fr) (Hj s++HL) Γ)
    (E:∀ n v0 H0 HL i,iH_ (Fence.wide.inRound l) n P (tx_ v0 H0 Hj Hx HL res) N [] v0 H0 d.body [] (Q i) (M i++HL) Γ) :
    kB_ P l x (Hj s++HLp l D d) Γ (λ_:Unit=>.bool res.isLeft) (λ_=>rD_ (λY=>Hj Y++HLp l D d) (λt=>Hx t++HLp l D { d with state:=.done,pending:=some .ret }) res) (λ_=>[]):=by
  intro v hs hΓ
  have m:∀ (X:Hp) r,(X++HLp l D r).Perm ((l,.loop r)::(X++[(D,.deferred (some []))])):=λX r=>by
    unfold HLp;exact ybM_
  have hl:v.w.heap[l]? = some (.loop d):=((hs.perm (m _ _)).own _ yau_).1;refine⟨d.fn,_,d.assign,d.body,run_yield hl (by simp[hp]),λn=>roundIn_of_wpIn trivial ?_⟩;have V:(d.params.zip #[x]).foldl (λtmps (t,a)=>tmps.setIfInBounds t a) d.tmps=d.tmps.setIfInBounds pm x:=by simp[hp]
  rw[V];have O:Fr.sat N ((pm,x)::fr) ⟨d.tmps.setIfInBounds pm x,[]⟩:=ht.put T;refine wpIn_mono (ey_.1 (A n v (Hj s++HLp l D d) (HLp l D d)) ⟨d.tmps.setIfInBounds pm x,[]⟩ v O hs (Vw.to.refl _ _) hΓ) ?_;rintro e a1 w1 ⟨rfl,i,L,rfl,k1,k2,k3,k4⟩;have G:=k2.perm (m _ _);have U:=(G.own _ yau_).1;obtain⟨m1,m2⟩:=fb_ (o':=.loop { d with state:=.busy }) G;refine⟨_,run_beginRound U Z,?_⟩;have m3:=m1.perm (m (M i) { d with state:=.busy }).symm
  have m4:v.to (Hj s++HLp l D d) ⟨L.im,L.w.putObj l (.loop { d with state:=.busy }),L.sl⟩ (M i++HLp l D { d with state:=.busy }) :=
    (k3.trans ((m2.permL (m _ _).symm).subR λb J=>((m (M i) { d with state:=.busy }).map Prod.fst).mem_iff.1 J))
  have k4':=aB_ (m2.le G) k4;refine wpIn_mono (ey_.1 (E n v (Hj s++HLp l D d) (HLp l D { d with state:=.busy }) i) a1 ⟨L.im,_,L.sl⟩ k1 m3 m4 k4') ?_;intro e2 a2 w2 I;cases e2 with
  | normal =>
    obtain⟨Y,C,rfl,rfl,q1,W⟩:=I;have y:=q1.perm (m _ _);have B:=(y.own _ yau_).1;obtain⟨S,z2⟩:=fb_ (o':=.loop d) y;have er:({ d with state:=.ready,pending:=none }:Loop)=d:=by cases d;simp_all
    refine⟨_,_,run_endRound none B,(),⟨C.im,C.w.putObj l (.loop d),C.sl⟩,rfl,?_,S.perm (m _ _).symm,trivial,W.trans ((z2.permL (m _ _).symm).subR λb J=>((m (Hj Y) d).map Prod.fst).mem_iff.1 J)⟩;simp[er]
  | ret =>
    obtain⟨t,C,rfl,rfl,q1,W⟩:=I;have y:=q1.perm (m _ _);have B:=(y.own _ yau_).1;obtain⟨S,z2⟩:=fb_ (o':=.loop { d with state:=.done,pending:=some .ret }) y
    exact⟨_,_,run_endRound (some .ret) B,(),⟨C.im,C.w.putObj l (.loop { d with state:=.done,pending:=some .ret }),C.sl⟩,rfl,rfl,S.perm (m _ _).symm,trivial,
      W.trans ((z2.permL (m _ _).symm).subR λb J=>((m (Hx t) { d with state:=.done,pending:=some .ret }).map Prod.fst).mem_iff.1 J)⟩
  | exit id=>exact I.elim
  | goto t=>exact I.elim
  | panic c=>exact I.elim
  | outgrown=>exact I.elim
theorem bn_ {n:Nat}:∀ (K:List Kt) (e:Exit) (a:Act) (w:World),ea_ Fence.wide n P R K e a w->post P R K e a w
 | [],_,_,_,h=>h
 | .seq c::K,.normal,a,w,h=>wp_mono (wpIn_wide.1 h) (λe a w d=>bn_ K e a w d)
 | .seq _::K,.exit _,a,w,h=>bn_ K _ a w h
 | .seq _::K,.goto _,a,w,h=>bn_ K _ a w h
 | .seq _::K,.ret,a,w,h=>bn_ K _ a w h
 | .seq _::K,.panic _,a,w,h=>bn_ K _ a w h
 | .seq _::K,.outgrown,a,w,h=>bn_ K _ a w h
 | .inv J::_,.normal,_,_,h=>h
 | .inv _::K,.exit _,a,w,h=>bn_ K _ a w h
 | .inv _::K,.goto _,a,w,h=>bn_ K _ a w h
 | .inv _::K,.ret,a,w,h=>bn_ K _ a w h
 | .inv _::K,.panic _,a,w,h=>bn_ K _ a w h
 | .inv _::K,.outgrown,a,w,h=>bn_ K _ a w h
 | .blk id::K,.exit id',a,w,h=>by
   simp only[ea_,post]at h ⊢
   split
   . rename_i e;rw[yaq_ e]at h;exact bn_ K _ a w h
   . rename_i e;rw[yaf_ e]at h;exact bn_ K _ a w h
 | .blk _::K,.normal,a,w,h=>bn_ K _ a w h
 | .blk _::K,.goto _,a,w,h=>bn_ K _ a w h
 | .blk _::K,.ret,a,w,h=>bn_ K _ a w h
 | .blk _::K,.panic _,a,w,h=>bn_ K _ a w h
 | .blk _::K,.outgrown,a,w,h=>bn_ K _ a w h
def nu_ (D:Nat):List Deferred:=[{ target:=.collected D,args:=#[] }]
theorem ot_ {σ τ α:Type} {g:Operand} {pm:Nat} {assign body:Code} {Z:FuncId} {caps:List Value} {Hj:σ->Hp} {Hx:τ->Hp} {Hc:Hp} {Γx:α->List Fct} {Γi:List Fct} {xv:α->Value} {good:α->Prop} {stp:α->σ->σ ⊕ τ}
    (s0:σ) (res:σ ⊕ τ) (hg:Fr.ev fr g=some (.func (.func Z) #[] caps.toArray)) (hH:H.Perm (Hc++Hj s0)) (hΓi:∀ v,v.sat H->Z_ Γ v->Z_ Γi v)
    (B:∀ l D (d:Loop),d.params=#[pm]->d.state=.ready->d.pending=none->Fr.sat N fr ⟨d.tmps,[]⟩->d.assign=assign->d.body=body->∀ s x,good x->
      kB_ P l (xv x) (Hj s++HLp l D d) (Γx x) (λ_:Unit=>.bool (stp x s).isLeft) (λ_=>rD_ (λs'=>Hj s'++HLp l D d) (λt=>Hx t++HLp l D { d with state:=.done,pending:=some .ret }) (stp x s)) (λ_=>[]))
    (hit:∀ l (Gj:σ->Hp) (Gx:τ->Hp),(∀ s x,good x->kB_ P l (xv x) (Gj s) (Γx x) (λ_:Unit=>.bool (stp x s).isLeft) (λ_=>rD_ Gj Gx (stp x s)) (λ_=>[]))->
      Tri P Z (.func (.yield l) #[] #[]::caps).toArray (Hc++Gj s0) Γi (λ_:Unit=>.tuple #[]) (λ_=>Hc++rD_ Gj Gx res) (λ_=>[]))
    (E:∀ s',res=.inl s'->∀ D l r,sc_ Fence.wide 0 P R N (nu_ D) v0 H0 K fr (Hc++Hj s'++HLp l D r) Γ)
    (M:∀ t,res=.inr t->∀ D l r,OkD N (nu_ D) v0 H0 (R .ret) fr (Hc++Hx t++HLp l D r) Γ) :
    Run P R N v0 H0 (.rangeFunc g #[pm] assign body) K fr H Γ:=by
  intro a v G V h3 h4;refine wpIn_wide (n:=0) |>.1 (wpIn_mono (Q:=ea_ Fence.wide 0 P R K) (wpIn_rangeFunc λfn _=>?_) λe a w hq=>bn_ K e a w hq)
  obtain⟨a1,a2⟩:=hs_ (w':=v.w.alloc (.deferred (some []))) (o:=.deferred (some [])) V rfl rfl rfl rfl (yae_ _);obtain⟨d,m⟩:∃ d:Loop,d={ state:=.ready,pending:=none,fn,tmps:=a.tmps,params:=#[pm],assign,body,defers:=v.w.heap.size }:=⟨_,rfl⟩;obtain⟨b1,b2⟩:=hs_ (w':=(v.w.alloc (.deferred (some []))).alloc (.loop d)) (o:=.loop d) a1 rfl rfl rfl rfl (yae_ _);have J:(v.w.alloc (Obj.deferred (some []))).heap.size=v.w.heap.size+1:=by simp
  have b1':(⟨v.im,(v.w.alloc (.deferred (some []))).alloc (.loop d),v.sl⟩:Vw).sat ((v.w.heap.size+1,.loop d)::(v.w.heap.size,.deferred (some []))::H):=J▸b1;have O:v.to H ⟨v.im,(v.w.alloc (.deferred (some []))).alloc (.loop d),v.sl⟩ ((v.w.heap.size+1,.loop d)::(v.w.heap.size,.deferred (some []))::H):=a2.trans (J▸b2)
  have A:((v.w.heap.size+1,Obj.loop d)::(v.w.heap.size,.deferred (some []))::H).Perm (Hc++(Hj s0++HLp (v.w.heap.size+1) v.w.heap.size d)):=by
    rw[<-yap_];exact (yax_ (l₁:=HLp (v.w.heap.size+1) v.w.heap.size d) (l₂:=H)).trans (hH.append_right _)
  have hT:=hit (v.w.heap.size+1) (λs=>Hj s++HLp (v.w.heap.size+1) v.w.heap.size d) (λt=>Hx t++HLp (v.w.heap.size+1) v.w.heap.size { d with state:=.done,pending:=some .ret })
    (B _ _ d (by rw[m]) (by rw[m]) (by rw[m]) (by rw[m];exact⟨G.size,rfl,G.val⟩) (by rw[m]) (by rw[m]))
  have a0:=aB_ (O.le V) (hΓi v V h4);have he:=G.ev hg;refine⟨v.w.heap.size+1,nu_ v.w.heap.size,(v.w.alloc (.deferred (some []))).alloc (.loop d),⟨.fn (.func Z) caps.toArray,#[.func (.yield (v.w.heap.size+1)) #[] #[]]⟩,(v.w.alloc (.deferred (some []))).alloc (.loop d),Z,(.func (.yield (v.w.heap.size+1)) #[] #[]::caps).toArray,_,?_,?_,λ_ _=>trivial,?_,λh=>(by cases h),callsIn_wide.2 ((hT.run ⟨v.im,_,v.sl⟩ (b1'.perm A) a0).mono ?_)⟩
  . rw[m];exact run_enterLoop_outer _ _ _ _ _
  . simp only[resolve,rangeCall,ybp_,yaF_,ybR_,he,Deferred.ofValue]
    rfl
  . have:=hT.callable (.func (.yield (v.w.heap.size+1)) #[] #[]::caps).toArray ((v.w.alloc (.deferred (some []))).alloc (.loop d))
    simpa [invoke] using this
  . rintro e w' ⟨_,W,rfl,rfl,g1,g2,g3⟩
    have C:=O.trans (g3.permL A.symm);have I:=aB_ (C.le V) h4;have T:∀ U,SatD N U fr { a with defers:=U++a.defers }:=λU=>⟨⟨G.size,rfl,G.val⟩,by show U++a.defers=U;rw[G.defers];simp⟩
    have y:∀ (X Y:Hp) r,(Y++(X++HLp (v.w.heap.size+1) v.w.heap.size r)).Perm ((v.w.heap.size+1,.loop r)::(Y++X++[(v.w.heap.size,.deferred (some []))])):=λX Y r=>by
      unfold HLp;rw[<-yap_];exact ybM_
    cases res with
    | inl s' =>
      have q:=g1.perm (y (Hj s') Hc d);have hl:=(q.own _ yau_).1;obtain⟨z1,S⟩:=fb_ (o':=.loop { d with state:=.exhausted }) q
      have L:((v.w.heap.size+1,Obj.loop { d with state:=.exhausted })::(Hc++Hj s'++[(v.w.heap.size,.deferred (some []))])).Perm (Hc++Hj s'++HLp (v.w.heap.size+1) v.w.heap.size { d with state:=.exhausted }):=by
        have:=(y (Hj s') Hc { d with state:=.exhausted }).symm;rw[<-yap_]at this;exact this
      refine⟨d.pending,_,run_endLoop hl (by rw[m];simp),?_⟩;have hpn:d.pending=none:=by rw[m]
      split
      case h_2=>rename_i c hc;rw[hpn]at hc;cases hc
      exact E s' rfl _ _ _ _ ⟨W.im,_,W.sl⟩ (T _) (z1.perm L) (h3.trans (C.trans ((S.permL (y _ _ _).symm).subR λb hb=>(L.map Prod.fst).mem_iff.2 hb))) (aB_ (S.le q) I)
    | inr t =>
      have q:=g1.perm (y (Hx t) Hc _);have hl:=(q.own _ yau_).1;obtain⟨z1,S⟩:=fb_ (o':=.loop { d with state:=.exhausted,pending:=some .ret }) q
      have L:((v.w.heap.size+1,Obj.loop { d with state:=.exhausted,pending:=some .ret })::(Hc++Hx t++[(v.w.heap.size,.deferred (some []))])).Perm (Hc++Hx t++HLp (v.w.heap.size+1) v.w.heap.size { d with state:=.exhausted,pending:=some .ret }):=by
        have:=(y (Hx t) Hc { d with state:=.exhausted,pending:=some .ret }).symm;rw[<-yap_]at this;exact this
      refine⟨some .ret,_,run_endLoop hl zai_,?_⟩;refine wpIn_ret (oz_ K _ _ (M t rfl _ _ _ _ ⟨W.im,_,W.sl⟩ (T _) (z1.perm L) (h3.trans (C.trans ((S.permL (y _ _ _).symm).subR λb hb=>(L.map Prod.fst).mem_iff.2 hb))) (aB_ (S.le q) I)))
theorem fA_ {f:FuncId} {fn:Func} {c:Code} {args:List Value} {ι:Type} {d:ι->Value} {H':ι->Hp} {Γ':ι->List Fct}
    (A : P.funcs[f]? = some fn) (B : fn.body = some c) (I : (fn.name == "runtime.NumGoroutine") = false) (L : fn.ntmps = N) (hl : Nat.ble args.length N = true)
    (h:∀ v0,Run P (bodyPostM Fence.wide 0 P fn (jb_ v0 H d H' Γ')) N v0 H c [] (jz_ 0 args) H Γ):Tri P f args.toArray H Γ d H' Γ':=by
  refine⟨callable A B I,λv J C=>callsIn_wide.1 (callsIn_of_wp_marks (n:=0) A B trivial ?_)⟩;have E:args.length<=N:=ybj_ hl;have:=h v ⟨args.toArray++Array.replicate (fn.ntmps - args.toArray.size) undef,[]⟩ v ⟨by simp[L];omega,rfl,λt x G=>?_⟩ J (Vw.to.refl _ _) C
  . exact wpIn_wide.2 this
  . obtain⟨_,y⟩:=hA_ args 0 t x G
    simp only[ydj_]at y;have m:=(yab_.1 y).1;rw[ybH_ zaY_];simpa using y
theorem retM {fn:Func} {ι:Type} {G:Hp} {ret:ι->Value} {H':ι->Hp} {Γ':ι->List Fct} (x:ι) (I:∀ (a:Act) (v:Vw),Fr.sat N fr a->v.sat H->Z_ Γ v->(results fn a.tmps).run P v.w=.ok (ret x) v.w) (m:H.Perm (H' x++G))
    (B:∀ v,v.sat H->Z_ Γ v->Z_ (Γ' x) v):Ok N v0 H0 (bodyPostM Fence.wide 0 P fn (jb_ v0 H0 ret H' Γ') .ret) fr H Γ:=by
  intro a v A d C y;show LeavesInM Fence.wide 0 P fn a.tmps _ a.defers .returning v.w
  rw[A.defers]
  exact⟨ret x,I a v A d y,x,v,rfl,rfl,(d.perm m).sub,B v d y,C.subR λb E=>by
    have:b∈(H' x++G).map Prod.fst:=by rw[yaw_];exact yal_ _ E
    exact (m.map Prod.fst).mem_iff.2 this⟩
theorem wI_ {fn:Func} {ι:Type} {D:Nat} {G:Hp} {ret:ι->Value} {H':ι->Hp} {Γ':ι->List Fct} (x:ι) (O:∀ (a:Act) (v:Vw),Fr.sat N fr a->v.sat G->(results fn a.tmps).run P v.w=.ok (ret x) v.w) (A:H.Perm ((D,.deferred (some []))::(G)))
    (Q:∃ m,G.Perm (H' x++m)) (I:Γ' x=[]):OkD N (nu_ D) v0 H0 (bodyPostM Fence.wide 0 P fn (jb_ v0 H0 ret H' Γ') .ret) fr H Γ:=by
  intro a v C J L T;show LeavesInM Fence.wide 0 P fn a.tmps _ a.defers .returning v.w
  rw[C.defers];have q:=J.perm A;have hl:=(q.own _ yau_).1;obtain⟨y,S⟩:=fb_ (o':=.deferred none) q;have B:(⟨v.im,v.w.putObj D (.deferred none),v.sl⟩:Vw).sat G:=⟨λp E=>y.own p (yaA_ _ E),by have:=y.nodup;rw[yaF_,ybr_]at this;exact this.2,y.lt⟩;obtain⟨m,d⟩:=Q;refine⟨by simp,.inl ⟨D,_,rfl,run_takeDeferred hl,ret x,?_,x,⟨v.im,_,v.sl⟩,rfl,rfl,(B.perm d).sub,by rw[I];trivial,?_⟩⟩
  . exact O ⟨a.tmps,[]⟩ ⟨v.im,_,v.sl⟩ C.sat B
  . refine (L.trans (S.permL A.symm)).subR λb M=>?_
    have:b∈(H' x++m).map Prod.fst:=by rw[yaw_];exact yal_ _ M
    rw[yaF_];exact yaA_ _ ((d.map Prod.fst).mem_iff.2 this)
end
end Go.Sx
namespace Go.Vs
abbrev Str:=List UInt8
def eA_ (c:UInt8):Bool:=(decide (97<=c.toNat)&&decide (c.toNat<=122))||(decide (65<=c.toNat)&&decide (c.toNat<=90))
def fv_ (c:UInt8):Bool:=eA_ c||decide (c.toNat=95)||(decide (48<=c.toNat)&&decide (c.toNat<=57))
def lJ_ (s:Str):Bool:=s.all fv_
def kws:List Str:=[[97,110,100],[115,111,109,101],[105,110],[116,111],[110,111,116,104,105,110,103],[101,118,101,114,121,116,104,105,110,103],[111,110,101],[111,102],[111,112,101,110],[112,114,105,118,97,116,101],[115,117,98],[115,97,109,101],[100,105,115,106,111,105,110,116],[100,111,109,97,105,110],[114,111,108,101],[99,104,97,105,110],[114,101,102,108,101,120,105,118,101],[116,121,112,101],[108,105,110,107],[115,101,108,101,99,116],[119,104,101,114,101],[111,114]]
def bw_ (s:Str):Bool:=kws.contains s
def if_ (s:Str):Bool:=!(s==[])&&eA_ (s.headD 0)&&lJ_ s&&!bw_ s
def cE_ (s:Str):Bool:=decide (2<=s.length)&&decide (s.length<=24)&&decide ((s.headD 0).toNat=95)&&lJ_ s
def ixS (c:UInt8):Str->Option Nat
  | []=>none
  | b::s=>if b=c then some 0 else (ixS c s).map (·+1)
def br_ (s:Str):Bool:=decide (s.length<=24)&&match ixS 58 s with
  | none=>if_ s
  | some k=>if_ (s.take k)&&if_ (s.drop (k+1))
def aJ_ (s:Str):Bool:=br_ s||cE_ s
theorem ml_ (c:UInt8):∀ s:Str,Lib.indexByte s c=match ixS c s with|none=>-1|some k=>(k:Int)
 | []=>rfl
 | b::s=>by
   have d:=ml_ c s;simp only[Lib.indexByte,ixS]
   by_cases h:b=c
   . simp[h]
   . simp only[ydq_,h,yca_]
     cases hx:ixS c s with
     | none=>rw[hx]at d;simp[d]
     | some k=>rw[hx]at d;simp only[d];rw[yaf_ zaa_];simp
theorem sS_ {c:UInt8}:∀ {s:Str} {k:Nat},ixS c s=some k->k<s.length
 | [],k,h=>by simp[ixS]at h
 | b::s,k,h=>by
   simp only[ixS]at h
   split at h
   . simp at h;subst h;simp
   . cases hx:ixS c s with
     | none=>rw[hx]at h;simp at h
     | some j=>rw[hx]at h;simp at h;subst h;have:=sS_ hx;simp;omega
theorem gD_ (p:UInt8->Bool) (s:Str) (k:Nat) (c:UInt8) (d:s[k]? = some c) (h:(s.take k).all p=true) (m:p c=true):(s.take (k+1)).all p=true:=by
  rw[yao_,d];simp_all
theorem jO_ (p:UInt8->Bool) (s:Str) (k:Nat) (c:UInt8) (m:s[k]? = some c) (d:p c=false):s.all p=false:=by
  rw[ycX_];exact⟨c,yac_ m,by simp[d]⟩
theorem pi_ (p:UInt8->Bool) (s:Str) (k:Nat) (d:s.length<=k) (h:(s.take k).all p=true):s.all p=true:=by
  rwa [yad_ d]at h
theorem xu_ {m:Str} {r:List Value} {k:Nat} {c:UInt8} (h:m[k]? = some c):Sx.lg (Sx.bytesV m++r) k=some (.int .u8 (c.toNat:Int)):=by
  have d:k<m.length:=(yab_.1 h).1;rw[Sx.lg_eq,yaK_ (by simpa [Sx.bytesV] using d)];simp[Sx.bytesV,h]
end Go.Vs
namespace Go.Vs
open Go Go.Sx
inductive Con where
  | mk (kind:Int) (name:Str) (lo hi:Int) (ad:Ao) (cap:Nat) (parts:List Con)
namespace Con
def kind:Con->Int|mk k _ _ _ _ _ _=>k
def name:Con->Str|mk _ n _ _ _ _ _=>n
def lo:Con->Int|mk _ _ l _ _ _ _=>l
def hi:Con->Int|mk _ _ _ h _ _ _=>h
def ad:Con->Ao|mk _ _ _ _ a _ _=>a
def cap:Con->Nat|mk _ _ _ _ _ c _=>c
def parts:Con->List Con|mk _ _ _ _ _ _ p=>p
def cells (c:Con):List Value:=[.int .i64 c.kind,str c.name,.int .i64 c.lo,.int .i64 c.hi,.slice c.ad c.parts.length c.cap]
def val (c:Con):Value:=.agg c.cells.toArray
theorem cells_len (c:Con):c.cells.length=5:=rfl
def sz:Con->Nat
  | mk _ _ _ _ _ _ ps=>1+szs ps
where szs:List Con->Nat
  | []=>0
  | p::ps=>sz p+szs ps
theorem sz_pos (c:Con):0<c.sz:=by cases c;simp[sz];omega
theorem sm_ {p:Con}:∀ {ps:List Con},p∈ps->p.sz<=sz.szs ps
 | q::ps,h=>by
   rcases yan_.1 h with rfl|h
   . simp[sz.szs]
   . have:=sm_ h;simp[sz.szs];omega
theorem sz_part {c p:Con} (h:p∈c.parts):p.sz<c.sz:=by
  cases c with
  | mk k n l hi a cp ps=>have:=sm_ (ps:=ps) h;simp only[sz];omega
def mem:Con->Vw->Prop
  | mk _ _ _ _ a _ ps,v=>bl_ v a (ps.flatMap cells)/\mems ps v
where mems:List Con->Vw->Prop
  | [],_=>True
  | p::ps,v=>mem p v/\mems ps v
theorem mems_iff {v:Vw}:∀ {ps:List Con},mem.mems ps v↔∀ p∈ps,p.mem v
  | []=>by simp[mem.mems]
  | p::ps=>by simp[mem.mems,mems_iff (ps:=ps)]
theorem mem_iff (c:Con) (v:Vw):c.mem v↔bl_ v c.ad (c.parts.flatMap cells)/\∀ p∈c.parts,p.mem v:=by
  cases c with
  | mk k n l hi a cp ps=>simp only[mem,mems_iff,ad,parts]
theorem mem_mono:∀ (n:Nat) (c:Con),c.sz<=n->∀ v m,v.le m->c.mem v->c.mem m
  | 0,c,h=>by have:=c.sz_pos;omega
  | n+1,c,h=>λv m hl hm=>by
    rw[mem_iff]at hm ⊢;exact⟨(L_ c.ad (c.parts.flatMap cells)).mono v m hl hm.1,λp x=>mem_mono n p (by have:=sz_part x;omega) v m hl (hm.2 p x)⟩
def memF (c:Con):Fct:=⟨c.mem,mem_mono c.sz c (yae_ _)⟩
def ok:Con->Prop
  | mk k n l h _ c ps=>-9223372036854775808<=k/\k<=9223372036854775807/\n.length<=140737488351232/\-9223372036854775808<=l/\l<=9223372036854775807/\-9223372036854775808<=h/\h<=9223372036854775807/\ps.length<=c/\ps.length<=2199023255488/\oks ps
where oks:List Con->Prop
  | []=>True
  | p::ps=>ok p/\oks ps
theorem oks_iff:∀ {ps:List Con},ok.oks ps↔∀ p∈ps,p.ok
  | []=>by simp[ok.oks]
  | p::ps=>by simp[ok.oks,oks_iff (ps:=ps)]
theorem ok_part {c p:Con} (h:c.ok) (m:p∈c.parts):p.ok:=by
  cases c with
  | mk k n l hi a cp ps=>exact oks_iff.1 h.2.2.2.2.2.2.2.2.2 p m
theorem ok_name {c:Con} (h:c.ok):c.name.length<=140737488351232:=by cases c;exact h.2.2.1
theorem ok_len {c:Con} (h:c.ok):c.parts.length<=c.cap/\c.parts.length<=2199023255488:=by cases c;exact⟨h.2.2.2.2.2.2.2.1,h.2.2.2.2.2.2.2.2.1⟩
theorem part_cells {c p:Con} {i:Nat} (x:c.parts[i]? = some p):∀ j y,p.cells[j]? = some y->(c.parts.flatMap cells)[i*5+j]? = some y:=by
  intro j y v
  have m:j<5:=by
    have:=(yab_.1 v).1;rwa [cells_len]at this
  rw[kW_ cells 5 cells_len c.parts i j p x m];exact v
theorem row_addr {v:Vw} {c p:Con} {i:Nat} (h:c.mem v) (x:c.parts[i]? = some p):∃ b off,c.ad=some ⟨b,off,none⟩:=by
  have:=((mem_iff c v).1 h).1;refine this.addr λe=>?_;have m:=part_cells x 0 _ (yaa_ (by rw[cells_len];omega));rw[e]at m;simp at m
theorem mem_part {v:Vw} {c p:Con} (h:c.mem v) (m:p∈c.parts):p.mem v:=((mem_iff c v).1 h).2 p m
def fits:Con->Nat->Nat->Bool×Nat
  | mk _ _ _ _ _ _ ps,d,n=>if 8<d||64<n+1 then (false,n+1) else fitss ps (d+1) (n+1)
where fitss:List Con->Nat->Nat->Bool×Nat
  | [],_,n=>(true,n)
  | p::ps,d,n=>match fits p d n with
    | (true,m)=>fitss ps d m
    | (false,m)=>(false,m)
theorem fits_eq (c:Con) (d n:Nat):c.fits d n=if 8<d||64<n+1 then (false,n+1) else fits.fitss c.parts (d+1) (n+1):=by cases c;rfl
end Con
end Go.Vs
namespace Go.Sx
section
variable {P:Program} {N:Nf} {v0:Vw} {H0:Hp} {R:Exit->Act->World->Prop} {K:List Kt} {fr:Fr} {H:Hp} {Γ:List Fct}
variable {ops:Array Oper} {l:List Oper} {d:Nat} {ty:TypeId} {ps:String} {af:Array Edge}
open Go Go.Vs
theorem rv_ (c:List Value):pD_ c 0 c.length=some c:=by
  have v:∀ (n off:Nat) (c:List Value),off+n=c.length->pD_ c off n=some (c.drop off):=by
    intro n
    induction n with
    | zero=>intro off c h;simp only[pD_];rw[yaP_ zaa_]
    | succ n ih =>
      intro off c h;have m:off<c.length:=by omega
      simp only[pD_,lg_eq,yaa_ m,ih (off+1) c zaa_];rw[yaZ_ m]
  have:=v c.length 0 c zaa_;simpa using this
theorem cD_ {t:TypeId} {x:Operand} {b:Nat} (i:Nat) {T:TypeId} {fz:Nat×Nat} {c:Con} (m:∀ w,(isAgg t).run P w=.ok true w) (v:∀ w,(sizeOf t).run P w=.ok 5 w)
    (y:Fr.ev fr x=some (.pointer (some ⟨b,0,none⟩))) (hi:H[i]? = some (b,.cells c.cells.toArray T fz)):Yld P N fr H Γ (.load t x) ty c.val :=
  cZ_ i m v y hi (by have:=rv_ c.cells;rw[c.cells_len]at this;exact this)
theorem pY_ (c:Con):c.cells.all Value.oneCell'=true:=rfl
theorem eS_ {t:TypeId} {x y:Operand} {b:Nat} (i:Nat) {cur:Array Value} {T:TypeId} {c:Con} (B:∀ w,(sizeOf t).run P w=.ok 5 w)
    (C:Fr.ev fr x=some (.pointer (some ⟨b,0,none⟩))) (A:Fr.ev fr y=some c.val) (hi:H[i]? = some (b,.cells cur T (0,0))) (m:cur.size=5)
    (v:Ops P R N v0 H0 ops l K fr (H.set i (b,.cells c.cells.toArray T (0,0))) Γ) :
    Ops P R N v0 H0 ops (⟨none,.store t x y,ty,ps,af,none⟩::l) K fr H Γ:=by
  refine n_ i B C A hi (by simp[Con.val,Value.cells,c.cells_len]) zbn_ (pY_ c) ?_
  have e:(cur.toList.take 0++c.val.cells.toList++cur.toList.drop (0+5)).toArray=c.cells.toArray:=by
    have E:cur.toList.length=5:=by simp[m]
    simp[Con.val,Value.cells,yaP_ (show cur.toList.length<=5 by omega)]
  rw[e];exact v
end
end Go.Sx
namespace Go.Vs.Con
theorem hG_:∀ (xs ys:List Con) (d n m:Nat),fits.fitss xs d n=(true,m)->fits.fitss (xs++ys) d n=fits.fitss ys d m
 | [],ys,d,n,m,h=>by simp only[fits.fitss,ybD_]at h;obtain⟨_,rfl⟩:=h;rfl
 | x::xs,ys,d,n,m,h=>by
   simp only[fits.fitss,yav_]at h ⊢
   split at h
   . rename_i q v;exact hG_ xs ys d q m h
   . cases h
theorem pQ_:∀ (k:Nat) (c:Con),c.sz<=k->∀ d n,(c.fits d n).1=true->(c.fits d n).2<=64
 | 0,c,h=>by have:=c.sz_pos;omega
 | k+1,c,h=>λd n v=>by
   rw[fits_eq]at v ⊢
   split at v
   . cases v
   . rename_i A
     rw[yaf_ A];simp only[ybK_,ybo_,not_or,Nat.not_lt]at A
     have y:∀ (ps:List Con),(∀ p∈ps,p.sz<=k)->∀ n,n<=64->(fits.fitss ps (d+1) n).1=true->(fits.fitss ps (d+1) n).2<=64:=by
       intro ps
       induction ps with
       | nil=>intro _ n B _;simpa [fits.fitss] using B
       | cons p ps ih =>
         intro x n B v;simp only[fits.fitss]at v ⊢
         split at v
         . rename_i m hm
           have:=pQ_ k p (x p zai_) (d+1) n (by rw[hm]);rw[hm]at this;exact ih (λq C=>x q (by simp[C])) m this v
         . cases v
     exact y c.parts (λp x=>by have:=sz_part x;omega) (n+1) zaa_ v
theorem take_snoc {ps:List Con} {p:Con} {i:Nat} (m:ps[i]? = some p):ps.take (i+1)=ps.take i++[p]:=by rw[yao_,m];rfl
theorem fitss_step {ps:List Con} {p:Con} {i d n m:Nat} (x:ps[i]? = some p) (h:fits.fitss (ps.take i) d n=(true,m)) (v:(p.fits d m).1=true) :
    fits.fitss (ps.take (i+1)) d n=(true,(p.fits d m).2)/\(p.fits d m).2<=64:=by
  refine⟨?_,pQ_ _ p (yae_ _) d m v⟩;rw[take_snoc x,hG_ _ _ _ _ _ h];simp only[fits.fitss];rcases hq:p.fits d m with⟨b,q⟩
  rw[hq]at v;simp only at v;subst v;rfl
theorem fits_no {k lo hi:Int} {nm:Str} {ad:Ao} {cap:Nat} {ps:List Con} {p:Con} {i d n m:Nat} (y:¬ (8<d\/64<n+1)) (v:ps[i]? = some p) (h:fits.fitss (ps.take i) (d+1) (n+1)=(true,m)) (x:(p.fits (d+1) m).1=false) :
    (mk k nm lo hi ad cap ps).fits d n=(false,(p.fits (d+1) m).2):=by
  rw[fits_eq,yaf_ (by simpa using y)]
  have e:ps=ps.take i++p::ps.drop (i+1):=by
    have hi:=(yab_.1 v).1;rw[yaa_ hi]at v;simp only[yam_]at v;subst v;rw[List.getElem_cons_drop hi,ybA_]
  show fits.fitss ps (d+1) (n+1)=_
  rw[e,hG_ _ _ _ _ _ h];simp only[fits.fitss];rcases hq:p.fits (d+1) m with⟨b,q⟩
  rw[hq]at x;simp only at x;subst x;rfl
theorem fits_yes {k lo x:Int} {nm:Str} {ad:Ao} {cap:Nat} {ps:List Con} {i d n m:Nat} (v:¬ (8<d\/64<n+1)) (hi:ps.length<=i) (h:fits.fitss (ps.take i) (d+1) (n+1)=(true,m)) :
    (mk k nm lo x ad cap ps).fits d n=(true,m):=by
  rw[fits_eq,yaf_ zaZ_];rw[yad_ hi]at h;exact h
end Go.Vs.Con
namespace Go.Vs
open Go Go.Sx
def en_:List (Int×Int×Int×Bool):=[(0,0,0,false),(0,0,0,false),(0,0,0,false),(1,0,0,false),(2,0,0,false),(0,2,8,false),(1,1,1,false),(1,0,0,true)]
def tZ_ (x:Int×Int×Int×Bool):List Value:=[.int .i64 x.1,.int .i64 x.2.1,.int .i64 x.2.2.1,.bool x.2.2.2]
theorem kQ_ (x:Int×Int×Int×Bool):(tZ_ x).length=4:=rfl
def nd (k:Int):Int×Int×Int×Bool:=(en_[k.toNat]?).getD (0,0,0,false)
namespace Con
def fieldErr (c:Con):Int :=
  if c.kind<1\/7<c.kind then 21
  else if (c.parts.length:Int)<(nd c.kind).2.1\/(nd c.kind).2.2.1<(c.parts.length:Int)\/((nd c.kind).1=0/\c.name≠[]) then 21
  else if (nd c.kind).2.2.2=true/\(c.lo < -1099511627776\/c.hi<c.lo\/1099511627776<c.hi) then 21
  else if (nd c.kind).2.2.2=false/\(c.lo≠0\/c.hi≠0) then 21
  else if (nd c.kind).1=0\/br_ c.name=true\/((nd c.kind).1=2/\cE_ c.name=true) then 0
  else 20
def firstErr:Con->Int
  | c@(mk _ _ _ _ _ _ ps)=>if c.fieldErr=0 then firstErrs ps else c.fieldErr
where firstErrs:List Con->Int
  | []=>0
  | p::ps=>if firstErr p=0 then firstErrs ps else firstErr p
theorem lS_ (c:Con):c.firstErr=if c.fieldErr=0 then firstErr.firstErrs c.parts else c.fieldErr:=by cases c;simp only[firstErr,parts]
def check (c:Con):Int:=if (c.fits 0 0).1 then c.firstErr else 21
end Con
end Go.Vs
namespace Go.Sx
open Go Go.Vs
section
variable {P:Program} {N:Nat} {v0:Vw} {H0:Hp} {R:Exit->Act->World->Prop} {K:List Kt} {fr:Fr} {H:Hp} {Γ:List Fct}
theorem ret0 {fn:Func} {ι:Type} {F:Hp} {ret:ι->Value} {H':ι->Hp} {Γ':ι->List Fct} (B:fn.results=#[]) (x:ι) (I:.tuple #[]=ret x) (A:H.Perm (H' x++F))
    (m:∀ v,v.sat H->Z_ Γ v->Z_ (Γ' x) v):Ok N v0 H0 (bodyPost P fn (jb_ v0 H0 ret H' Γ') .ret) fr H Γ :=
  dO_ A m λa v E y G C=>⟨E.defers,ret x,by rw[results_none B,I],x,v,rfl,rfl,y,C,G⟩
theorem bK_ {fn:Func} {ι:Type} {F:Hp} {m:ι->Value} {H':ι->Hp} {Γ':ι->List Fct} (B:fn.results=#[]) (x:ι) (C:.tuple #[]=m x) (A:H.Perm (H' x++F))
    (y:∀ v,v.sat H->Z_ Γ v->Z_ (Γ' x) v):Ok N v0 H0 (bodyPost P fn (jb_ v0 H0 m H' Γ') .normal) fr H Γ :=
  ret0 B x C A y
theorem mZ_ {fn:Func} {t b:Nat} {ty T:TypeId} {u:Value} (i:Nat) (y:fn.results=#[.cell t ty]) (m:∀ w,(isAgg ty).run P w=.ok false w) (C:Fr.get fr t=some (.pointer (some ⟨b,0,none⟩))) (hi:H[i]? = some (b,.cells #[u] T (0,0))) (a:Act) (v:Vw) (A:Fr.sat N fr a) (x:v.sat H) :
    (results fn a.tmps).run P v.w=.ok u v.w:=by
  have e:=A.val t _ C;have B:v.w.cell? ⟨b,0,none⟩=some u:=by rw[fm_ x hi];rfl
  have hl:=bQ_ (t:=ty) (w:=v.w) m B;simp[results,y,e,asAddr,hl]
variable {F:Fence} {n:Nat} {D:List Deferred} {ops:Array Oper} {l:List Oper} {d:Nat} {ty:TypeId} {ps:String} {af:Array Edge}
theorem ke_ {k:Act->World->Prop} {H' F:Hp} {Γ':List Fct} (x:H.Perm (H'++F)) (y:∀ v,v.sat H->Z_ Γ v->Z_ Γ' v) (h:OkD N D v0 H0 k fr H' Γ'):OkD N D v0 H0 k fr H Γ :=
  λa v B m C A=>h a v B (m.perm x).sub (C.subR λb E=>by
    have:b∈(H'++F).map Prod.fst:=by rw[yaw_];exact yal_ _ E
    exact (x.map Prod.fst).mem_iff.2 this) (y v m A)
theorem ri_ {t:TypeId} {x y:Operand} {b:Nat} (hF:Opn F) (i:Nat) {cur:Array Value} {T:TypeId} {c:Con} (B:∀ w,(sizeOf t).run P w=.ok 5 w)
    (C:Fr.ev fr x=some (.pointer (some ⟨b,0,none⟩))) (A:Fr.ev fr y=some c.val) (hi:H[i]? = some (b,.cells cur T (0,0))) (m:cur.size=5)
    (v:gi_ F n P R N D v0 H0 ops l K fr (H.set i (b,.cells c.cells.toArray T (0,0))) Γ) :
    gi_ F n P R N D v0 H0 ops (⟨none,.store t x y,ty,ps,af,none⟩::l) K fr H Γ:=by
  refine eU_ hF i B C A hi (by simp[Con.val,Value.cells,c.cells_len]) zbn_ (pY_ c) ?_
  have e:(cur.toList.take 0++c.val.cells.toList++cur.toList.drop (0+5)).toArray=c.cells.toArray:=by
    have E:cur.toList.length=5:=by simp[m]
    simp[Con.val,Value.cells,yaP_ (show cur.toList.length<=5 by omega)]
  rw[e];exact v
theorem ow_ {σ τ:Type} {Hj:σ->Hp} {Hx:τ->Hp} {x G:Hp} {res:σ ⊕ τ} (m:σ) (B:res=.inl m) (A:H.Perm (Hj m++x++G)):OkD N [] v0 H0 (tx_ v0 H0 Hj Hx x res .normal) fr H Γ :=
  ke_ (Γ':=[]) A (λ_ _ _=>trivial) λa v E y C _=>⟨m,v,B,rfl,y,C⟩
theorem uR_ {σ τ:Type} {Hj:σ->Hp} {Hx:τ->Hp} {m G:Hp} {res:σ ⊕ τ} (t:τ) (A:res=.inr t) (y:H.Perm (Hx t++m++G)):OkD N [] v0 H0 (tx_ v0 H0 Hj Hx m res .ret) fr H Γ :=
  ke_ (Γ':=[]) y (λ_ _ _=>trivial) λa v C x B _=>⟨t,v,A,rfl,x,B⟩
theorem eo_ {ι:Type} {m:ι->Fr} {Hs:ι->Hp} {y:ι->List Fct} (i:ι) {F:Hp} (x:Fr.le (m i) fr) (B:H.Perm (Hs i++F)) (A:∀ v,v.sat H->Z_ Γ v->Z_ (y i) v) :
    OkD N [] v0 H0 (Mid N v0 H0 m Hs y .normal) fr H Γ:=ey_.2 (bS_ i x B A)
end
end Go.Sx
namespace Go.Vs.Con
def fold {σ τ:Type} (f:Con->σ->σ ⊕ τ):Con->σ->σ ⊕ τ
  | c@(mk _ _ _ _ _ _ ps),s=>match f c s with|.inl s'=>folds f ps s'|.inr t=>.inr t
where folds {σ τ:Type} (f:Con->σ->σ ⊕ τ):List Con->σ->σ ⊕ τ
  | [],s=>.inl s
  | p::ps,s=>match fold f p s with|.inl s'=>folds f ps s'|.inr t=>.inr t
section
variable {σ τ:Type} {f:Con->σ->σ ⊕ τ}
theorem fold_eq (c:Con) (s:σ):fold f c s=match f c s with|.inl s'=>fold.folds f c.parts s'|.inr t=>.inr t:=by cases c;rw[fold];rfl
theorem hE_:∀ (xs ys:List Con) (s m:σ),fold.folds f xs s=.inl m->fold.folds f (xs++ys) s=fold.folds f ys m
 | [],ys,s,m,h=>by simp only[fold.folds,Sum.inl.injEq]at h;subst h;rfl
 | x::xs,ys,s,m,h=>by
   simp only[fold.folds,yav_]at h ⊢
   split at h
   . rename_i q v;exact hE_ xs ys q m h
   . cases h
theorem folds_step {ps:List Con} {p:Con} {i:Nat} {s m v:σ} (x:ps[i]? = some p) (h:fold.folds f (ps.take i) s=.inl m) (y:fold f p m=.inl v):fold.folds f (ps.take (i+1)) s=.inl v:=by
  rw[take_snoc x,hE_ _ _ _ _ h];simp only[fold.folds,y]
theorem folds_no {ps:List Con} {p:Con} {i:Nat} {s m:σ} {t:τ} (v:ps[i]? = some p) (h:fold.folds f (ps.take i) s=.inl m) (x:fold f p m=.inr t):fold.folds f ps s=.inr t:=by
  have e:ps=ps.take i++p::ps.drop (i+1):=by
    have hi:=(yab_.1 v).1;rw[yaa_ hi]at v;simp only[yam_]at v;subst v;rw[List.getElem_cons_drop hi,ybA_]
  rw[e,hE_ _ _ _ _ h];simp only[fold.folds,x]
theorem folds_yes {ps:List Con} {i:Nat} {s m:σ} (hi:ps.length<=i) (h:fold.folds f (ps.take i) s=.inl m):fold.folds f ps s=.inl m:=by
  rwa [yad_ hi]at h
end
def chk (c:Con) (_:Unit):Unit ⊕ Int:=if c.fieldErr=0 then .inl () else .inr c.fieldErr
theorem fold_chk:∀ (m:Nat) (c:Con),c.sz<=m->fold chk c ()=if c.firstErr=0 then .inl () else .inr c.firstErr
 | 0,c,h=>by have:=c.sz_pos;omega
 | m+1,c,h=>by
   rw[fold_eq,lS_,chk]
   have x:∀ (ps:List Con),(∀ p∈ps,p.sz<=m)->fold.folds chk ps ()=if firstErr.firstErrs ps=0 then .inl () else .inr (firstErr.firstErrs ps):=by
     intro ps
     induction ps with
     | nil=>intro _;simp[fold.folds,firstErr.firstErrs]
     | cons p ps ih =>
       intro v;simp only[fold.folds,firstErr.firstErrs];rw[fold_chk m p (v p zai_)]
       by_cases e:p.firstErr=0
       . simp only[e,yck_]
         exact ih λq y=>v q zbo_
       . simp[e]
   by_cases e:c.fieldErr=0
   . simp only[e,yck_]
     exact x c.parts λp v=>by have:=sz_part v;omega
   . simp[e]
def cnt (_:Con) (n:Nat):Nat ⊕ Empty:=.inl (n+1)
end Go.Vs.Con
namespace Go.Sx
open Go
theorem jaf {A B:Bool} (h:A=false):false=(A&&B):=by rw[h];rfl
theorem jat {A B r:Bool} (h:A=true) (d:B=r):r=(A&&B):=by rw[h,<-d];rfl
theorem jot {A B:Bool} (h:A=true):true=(A||B):=by rw[h];rfl
theorem jof {A B r:Bool} (h:A=false) (d:B=r):r=(A||B):=by rw[h,<-d];rfl
theorem jn {A r:Bool} (h:A=r):(!A)=(!r):=by rw[h]
section
variable {P:Program} {N:Nf} {v0:Vw} {H0:Hp} {R:Exit->Act->World->Prop} {K:List Kt} {fr:Fr} {H:Hp} {Γ:List Fct}
variable {ops:Array Oper} {l:List Oper}
theorem oj_ {Q y:Exit->Act->World->Prop} {o:Oper} {a:Act} {w:World} {B C:Act->World->Prop} (h:∀ a w,B a w->C a w) (A:∀ c a w,Q (.panic c) a w->y (.panic c) a w) (E:∀ a w,Q .outgrown a w->y .outgrown a w)
    (d:o.wp P a w B Q):o.wp P a w C y:=by
  unfold Oper.wp at *;generalize (execOp a.eval o).run P w=r at *
  cases r with
  | ok n w' =>
    cases n<;>simp only[Oper.upon]at d ⊢ <;>
      first
        | exact h _ _ d
        | exact Calls.mono d (λe F m=>by
            cases e with
            | returned v=>exact h _ _ m
            | panicked c=>exact A _ _ _ m
            | outgrown=>obtain⟨a,w,q⟩:=m;exact⟨a,w,E _ _ q⟩)
        | exact Rows.mono d (λ_ _ m=>h _ _ m)
  | halt x w'=>cases x<;>simp only[Oper.upon]at d ⊢<;>first|exact A _ _ _ d|exact d
theorem jn_ {v:List Oper}:∀ (d:List Oper) (a:Act) (w:World),wpList P ops (post P R (.inv (wpList P ops (post P R K) v)::K)) d a w->wpList P ops (post P R K) (d++v) a w
 | [],a,w,h=>h
 | o::d,a,w,h=>by
   simp only[wpList,yav_]at h ⊢
   split
   . rename_i m
     rw[yaq_ m]at h;rcases h with h|⟨h,x,w',q⟩
     . exact .inl (oj_ (λa w q=>jn_ d a w q) (λc a w q=>q) (λa w q=>q) h)
     . exact .inr ⟨h,x,w',q⟩
   . rename_i m
     rw[yaf_ m]at h;exact jn_ d _ _ h
def ua_:Nat->List Oper->List Oper
  | 0,_=>[]
  | _,[]=>[]
  | n+1,o::l=>o::ua_ n l
def uc_:Nat->List Oper->List Oper
  | 0,l=>l
  | _,[]=>[]
  | n+1,_::l=>uc_ n l
theorem nv_:∀ (n:Nat) (l:List Oper),ua_ n l++uc_ n l=l
  | 0,_=>rfl
  | n+1,[]=>rfl
  | n+1,o::l=>by show o::(ua_ n l++uc_ n l)=o::l;rw[nv_ n l]
def MetJ (N:Nf) (v0:Vw) (H0:Hp) (fr:Fr) (H:Hp) (Γ:List Fct) (a:Act) (w:World):Prop:=∃ v,v.w=w/\Fr.sat N fr a/\v.sat H/\v0.to H0 v H/\Z_ Γ v
theorem ao_ (n:Nat) (X:Bool) (d:Bool->Fr) (L:Ops P R N v0 H0 ops (ua_ n l) (.inv (MetJ N v0 H0 (d X) H Γ)::K) fr H Γ)
    (E:∀ r,X=r->Ops P R N v0 H0 ops (uc_ n l) K (d r) H Γ):Ops P R N v0 H0 ops l K fr H Γ:=by
  intro a v B G O A;rw[<-nv_ n l];refine jn_ _ _ _ ?_;have F:=L a v B G O A;refine wpL_mono ?_ _ _ _ F;rintro y w' ⟨C,rfl,k1,k2,I,M⟩;exact E X rfl y C k1 k2 I M
where wpL_mono {J J':Act->World->Prop} (hJ:∀ a w,J a w->J' a w):∀ (m:List Oper) (a:Act) (w:World),wpList P ops (post P R (.inv J::K)) m a w->wpList P ops (post P R (.inv J'::K)) m a w
  | [],a,w,h=>hJ _ _ h
  | o::m,a,w,h=>by
    simp only[wpList]at h ⊢
    split
    . rename_i x
      rw[yaq_ x]at h;rcases h with h|⟨h,y,w',q⟩
      . exact .inl (oj_ (λa w q=>wpL_mono hJ m a w q) (λc a w q=>q) (λa w q=>q) h)
      . exact .inr ⟨h,y,w',q⟩
    . rename_i x
      rw[yaf_ x]at h;exact wpL_mono hJ m _ _ h
theorem met {d:Fr} (m:Fr.le d fr):Ok N v0 H0 (MetJ N v0 H0 d H Γ) fr H Γ :=
  bh_ d m λ_ v A x B y=>⟨v,rfl,A,x,B,y⟩
end
end Go.Sx
namespace Go.Sx
open Go
theorem y_ {α:Type} {f:α->List Value} {n:Nat} (m:∀ x,(f x).length=n) {l:List α} {i:Nat} {x:α} (A:l[i]? = some x):∀ j y,(f x)[j]? = some y->(l.flatMap f)[i*n+j]? = some y:=by
  intro j y v
  have d:j<n:=by
    have:=(yab_.1 v).1;rwa [m]at this
  rw[kW_ f n m l i j x A d];exact v
theorem az_ {α:Type} {f:α->List Value} {n:Nat} (d:∀ x,(f x).length=n) (y:0<n) {v:Vw} {ad:Ao} {l:List α} {i:Nat} {x:α} (h:bl_ v ad (l.flatMap f)) (A:l[i]? = some x):∃ b off,ad=some ⟨b,off,none⟩:=by
  refine h.addr λe=>?_;have m:=y_ d A 0 _ (yaa_ (by rw[d];exact y));rw[e]at m;simp at m
def ar_ (s:List UInt8):List Value:=[str s]
theorem aO_ (s:List UInt8):(ar_ s).length=1:=rfl
end Go.Sx
namespace Go.Vs
open Go Go.Sx
structure Ax where
  kind:Int
  opn:Bool
  left:Con
  right:Con
  ad:Ao
  cap:Nat
  roles:List Str
  role:Str
  a:Str
  b:Str
namespace Ax
def cells (x:Ax):List Value:=.int .i64 x.kind::.bool x.opn::(x.left.cells++(x.right.cells++[.slice x.ad x.roles.length x.cap,str x.role,str x.a,str x.b]))
def val (x:Ax):Value:=.agg x.cells.toArray
theorem cells_len (x:Ax):x.cells.length=16:=by simp[cells,Con.cells_len]
def mem (x:Ax) (v:Vw):Prop:=x.left.mem v/\x.right.mem v/\bl_ v x.ad (x.roles.flatMap ar_)
def memF (x:Ax):Fct:=⟨x.mem,λv v' h hp=>⟨x.left.memF.mono v v' h hp.1,x.right.memF.mono v v' h hp.2.1,(L_ x.ad (x.roles.flatMap ar_)).mono v v' h hp.2.2⟩⟩
structure ok (x:Ax):Prop where
  lo:-9223372036854775808<=x.kind
  hi:x.kind<=9223372036854775807
  left:x.left.ok
  right:x.right.ok
  len:x.roles.length<=x.cap
  cap:x.roles.length<=8796093021952
  roles:∀ r∈x.roles,r.length<=140737488351232
  role:x.role.length<=140737488351232
  a:x.a.length<=140737488351232
  b:x.b.length<=140737488351232
end Ax
def Con.empty (c:Con):Bool:=((((c.kind==0)&&(c.name==[]))&&(c.lo==0))&&(c.hi==0))&&((c.parts.length:Int)==0)
def Con.bare:Con->Bool
  | mk k _ _ _ _ _ ps=>(k==4)||((k==5)&&bares ps)
where bares:List Con->Bool
  | []=>false
  | p::ps=>bare p||bares ps
theorem Con.bares_any:∀ (ps:List Con),Con.bare.bares ps=ps.any Con.bare
  | []=>rfl
  | p::ps=>by simp[Con.bare.bares,Con.bares_any ps]
theorem Con.bare_eq (c:Con):c.bare=((c.kind==4)||((c.kind==5)&&c.parts.any Con.bare)):=by cases c;simp only[Con.bare,Con.bares_any,kind,parts]
structure Use where
  left:Bool
  right:Bool
  role:Bool
  a:Bool
  b:Bool
  least:Int
  most:Int
def Use.cells (u:Use):List Value:=[.bool u.left,.bool u.right,.bool u.role,.bool u.a,.bool u.b,.int .i64 u.least,.int .i64 u.most]
theorem Use.cells_len (u:Use):u.cells.length=7:=rfl
def uD_:List Use:=[⟨false,false,false,false,false,0,0⟩,⟨true,true,false,false,false,0,0⟩,⟨true,true,false,false,false,0,0⟩,⟨true,true,false,false,false,0,0⟩,⟨false,true,true,false,false,0,0⟩,
  ⟨false,false,true,false,false,1,1⟩,⟨false,false,true,false,false,2,4⟩,⟨false,false,true,false,false,0,0⟩,⟨false,true,false,true,false,0,0⟩,⟨false,false,true,true,true,0,0⟩]
def us (k:Int):Use:=(uD_[k.toNat]?).getD ⟨false,false,false,false,false,0,0⟩
namespace Ax
def shaped (x:Ax):Bool :=
  if x.kind<1\/9<x.kind then false else
    let u:=us x.kind
    (((((((u.left||x.left.empty)&&(u.right||x.right.empty))&&(u.role||(x.role==[])))&&(u.a||(x.a==[])))&&(u.b||(x.b==[])))&&decide (u.least<=(x.roles.length:Int)))&&decide ((x.roles.length:Int)<=u.most))
def namedU (x:Ax) (u:Use):Bool:=!(u.role&&!br_ x.role||u.a&&!aJ_ x.a||u.b&&!aJ_ x.b)&&x.roles.all br_
def check (x:Ax):Int :=
  if x.shaped=false then 22
  else if x.namedU (us x.kind)=false then 20
  else if (us x.kind).left=true/\x.left.check≠0 then x.left.check
  else if (us x.kind).right=true/\x.right.check≠0 then x.right.check
  else if x.kind=2/\(x.left.bare=true\/x.right.bare=true) then 22
  else if (x.kind=1\/x.kind=4\/x.kind=8)/\x.right.bare=true then 22
  else 0
end Ax
structure NUse where
  a:Bool
  b:Bool
  c:Bool
  r:Bool
  s:Bool
  t:Bool
  numbers:Bool
def NUse.cells (u:NUse):List Value:=[.bool u.a,.bool u.b,.bool u.c,.bool u.r,.bool u.s,.bool u.t,.bool u.numbers]
theorem NUse.cells_len (u:NUse):u.cells.length=7:=rfl
def gv_:List NUse:=[⟨false,false,false,false,false,false,false⟩,⟨true,false,true,false,false,false,false⟩,⟨true,true,true,false,false,false,false⟩,⟨true,false,true,true,false,false,false⟩,⟨true,false,true,true,false,false,false⟩,
  ⟨false,false,false,true,false,true,false⟩,⟨false,false,false,true,true,true,false⟩,⟨false,false,false,true,false,false,false⟩,⟨true,false,false,true,false,false,true⟩,⟨false,false,true,true,false,false,true⟩]
def nus (k:Int):NUse:=(gv_[k.toNat]?).getD ⟨false,false,false,false,false,false,false⟩
end Go.Vs
namespace Go.Sx
open Go
def cf_ (b:Nat) (o:Obj):Fct where
  p:=λv=>v.im b/\v.w.heap[b]? = some o
  mono:=λv v' h hp=>⟨h.imUp b hp.1,by rw[h.block b hp.1];exact hp.2⟩
section
variable {P:Program} {N:Nf} {v0:Vw} {H0:Hp} {R:Exit->Act->World->Prop} {K:List Kt} {fr:Fr} {H:Hp} {Γ:List Fct}
variable {ops:Array Oper} {l:List Oper} {d:Nat} {ty:TypeId} {ps:String} {af:Array Edge}
theorem kc_ {k:Act->World->Prop} {b:Nat} {o:Obj} (i:Nat) (hi:H[i]? = some (b,o)) (h:Ok N v0 H0 k fr (H.eraseIdx i) (cf_ b o::Γ)):Ok N v0 H0 k fr H Γ :=
  hy_ (cf_ b o) (fD_ hi) (λ_ v m _=>⟨v,m⟩) h
theorem aX_ {t:TypeId} (y:Nat.blt d N.n=true) (m:∀ b,Ops P R N v0 H0 ops l K ((d,.map (some b))::fr) ((b,.map #[] 0)::H) Γ) :
    Ops P R N v0 H0 ops (⟨some d,.makeMap t none,ty,ps,af,none⟩::l) K fr H Γ :=
  fd_ (x:=λb=>.map (some b)) y (λa v A _ _=>by simp[execOp,Instr.makeMap,newObj];rfl) m
def hP_ (P:Program) (k:TypeId) (key:Value):Prop:=∀ e w,(Instr.checkKey e 10000 k key).run P w=.ok () w
def dh_ (P:Program) (k:TypeId) (key:Value) (es:List MapEntry) (r:Option (Nat×Value)):Prop:=∀ w,(Instr.findKey k key es).run P w=.ok r w
theorem aU_ {k:TypeId} {i:IntKind} {n:Int} (v:P.underlying k=some (.int i)):hP_ P k (.int i n):=λe w=>by
  exact key (9999) e w
where key (m:Nat) (e:Bool) (w:World):(Instr.checkKey e (m+1) k (.int i n)).run P w=.ok () w:=by simp[Instr.checkKey,run_underlying v]
theorem ax_ {k:TypeId} {dd:TypeDesc} {m:Value} {es:List MapEntry} {r:Option (Nat×Value)} (v:P.underlying k=some dd) (h:Instr.findNow dd m es 0=some r):dh_ P k m es r:=λw=>by
  simp[Instr.findKey,run_underlying v,h]
theorem hk_ {t kt M:TypeId} {x y:Operand} {b c i:Nat} {es:Array MapEntry} {m u:Value} (F:∀ w,(underlying t).run P w=.ok (.map kt M) w) (I:Fr.ev fr x=some (.map (some b))) (C:Fr.ev fr y=some m)
    (hm:∀ v,v.sat H->Z_ Γ v->v.w.heap[b]? = some (.map es c)) (J:hP_ P kt m) (B:dh_ P kt m es.toList (some (i,u))):Yld P N fr H Γ (.lookup t x y false) ty u :=
  λa v A E L _ _ _=>by
    have G:=MapKept.run_getObj_map (P:=P) (hm v E L);simp[execOp,A.ev I,A.ev C,Instr.lookup,F,G,J _ _,B _]
theorem hj_ {t kt B:TypeId} {x y:Operand} {b c:Nat} {es:Array MapEntry} {m z:Value} (G:∀ w,(underlying t).run P w=.ok (.map kt B) w) (O:∀ w,(zeroValue B).run P w=.ok z w) (J:Fr.ev fr x=some (.map (some b))) (E:Fr.ev fr y=some m)
    (hm:∀ v,v.sat H->Z_ Γ v->v.w.heap[b]? = some (.map es c)) (L:hP_ P kt m) (C:dh_ P kt m es.toList none):Yld P N fr H Γ (.lookup t x y false) ty z :=
  λa v A F M _ _ _=>by
    have I:=MapKept.run_getObj_map (P:=P) (hm v F M);simp[execOp,A.ev J,A.ev E,Instr.lookup,G,I,L _ _,C _,O]
theorem aF_ {o:Op} {t kt Y:TypeId} {x y z:Operand} {b c:Nat} (i:Nat) {es:Array MapEntry} {m u:Value} (L:o=.insert t x y z\/o=.mapUpdate t x y z) (Q:∀ w,(underlying t).run P w=.ok (.map kt Y) w)
    (V:Fr.ev fr x=some (.map (some b))) (O:Fr.ev fr y=some m) (Z:Fr.ev fr z=some u) (hi:H[i]? = some (b,.map es c)) (F:hP_ P kt m) (J:dh_ P kt m es.toList none)
    (E:Ops P R N v0 H0 ops l K fr (H.set i (b,.map (es.push ⟨m,u,c⟩) (c+1))) Γ):Ops P R N v0 H0 ops (⟨none,o,ty,ps,af,none⟩::l) K fr H Γ :=
  cN_ rfl λa v A B S X=>by
    have C:=(B.own _ (yac_ hi)).1;have U:=MapKept.run_getObj_map (P:=P) C;have T:=MapKept.run_setObj_map (P:=P) (.map (es.push ⟨m,u,c⟩) (c+1)) C
    have W:(execOp a.eval ⟨none,o,ty,ps,af,none⟩).run P v.w=.ok .skip { v.w with heap:=v.w.heap.setIfInBounds b (.map (es.push ⟨m,u,c⟩) (c+1)) }:=by
      rcases L with rfl|rfl<;>simp[execOp,A.ev V,A.ev O,A.ev Z,Instr.mapUpdate,Q,U,F _ _,J _,T]
    unfold Oper.wp;rw[W];have G:=MapKept.heap_set (o':=.map (es.push ⟨m,u,c⟩) (c+1)) C;obtain⟨M,I⟩:=gu_ (w':={ v.w with heap:=v.w.heap.setIfInBounds b (.map (es.push ⟨m,u,c⟩) (c+1)) }) B hi rfl rfl rfl (yae_ _) zai_ G.1 (λk F=>G.2 k F);exact E a _ A M (S.trans I) (aB_ (I.le B) X)
theorem dl_ {f:FuncId} {args:Array Value} {r:Value} (I:gj_ P f) (h:∀ v:Vw,v.sat H->Z_ Γ v->Calls P f args v.w λe w'=>e=.returned r/\RowKit.Below v.w.heap.size v.w w'/\(v.sl\/v.w.drawn<=w'.drawn)):Tri P f args H Γ (λ_:Unit=>r) (λ_=>H) (λ_=>[]) :=
  ⟨I,λv y F=>(h v y F).mono λe w' ⟨G,x,E⟩=>by
    have B:v.w.heap.size<=w'.heap.size:=x.size;have C:∀ p∈H,p.1<v.w.heap.size:=λp A=>(yaD_.1 (y.own p A).1).1
    refine⟨(),⟨v.im,w',v.sl⟩,G,rfl,⟨λp A=>⟨?_,(y.own p A).2⟩,y.nodup,λb m=>ycs_ (y.lt b m) B⟩,trivial,⟨x.os,x.tape,x.output,B,λb m _=>x.block b m,λ_ h=>h,λ_ h=>.inl h,λ_ h=>.inl h,rfl,E⟩⟩;show w'.heap[p.1]? = _
    rw[x.block p.1 (C p A)];exact (y.own p A).1⟩
theorem tp_ (w:World) (k:Nat) (os:Array Obj):RowKit.Below w.heap.size w (Go.Sort.grow (w.drewN k) os) :=
  ⟨rfl,rfl,rfl,by simp[Go.Sort.grow],λb m=>by simp only[Go.Sort.grow,World.heap_drewN];rw[ybH_ m]⟩
theorem gA_ {t e:TypeId} {sz by':Nat} {z:Value} (v:P.underlying t=some (.slice e)) (hi:(P.info? e).map (λi=>(i.zero,i.size,i.bytes))=some (some z,sz,by')) (x:z.cells.size=sz) (m:0<sz):Elt P t e sz by':=by
  refine⟨v,?_,m⟩;cases h:P.info? e with
  | none=>rw[h]at hi;cases hi
  | some i =>
    rw[h]at hi;simp only[yaX_,yam_,ybD_]at hi;exact⟨i,z,rfl,hi.1,hi.2.1,hi.2.2,x⟩
theorem ba_ {b:Nat} {cs:List Value} {T:TypeId} {fz:Nat×Nat} (i:Nat) (hi:H[i]? = some (b,.cells cs.toArray T fz)):∀ v:Vw,v.sat H->Z_ Γ v->∀ j u,cs[j]? = some u->v.w.cell? ((⟨b,0,none⟩:Addr).add j)=some u:=by
  intro v x _ j u m;rw[de_,yba_,fm_ x hi];simpa using m
theorem dI_ {N:Nat} {fn:Func} {ι:Type} {F:Hp} {ret:ι->Value} {H':ι->Hp} {Γ':ι->List Fct} (x:ι) (G:∀ (a:Act) (v:Vw),Fr.sat N fr a->v.sat H->(results fn a.tmps).run P v.w=.ok (ret x) v.w) (y:H.Perm (H' x++F))
    (B:∀ v,v.sat H->Z_ Γ v->Z_ (Γ' x) v):Ok N v0 H0 (bodyPost P fn (jb_ v0 H0 ret H' Γ') .ret) fr H Γ :=
  λa v A m C I=>⟨A.defers,ret x,G a v A m,x,v,rfl,rfl,(m.perm y).sub,B v m I,C.subR λb E=>by
    have:b∈(H' x++F).map Prod.fst:=by rw[yaw_];exact yal_ _ E
    exact (y.map Prod.fst).mem_iff.2 this⟩
theorem cu_ {fn:Func} {t b n:Nat} {ty T:TypeId} {us:List Value} (i:Nat) (x:fn.results=#[.cell t ty]) (F:∀ w,(isAgg ty).run P w=.ok true w) (A:∀ w,(sizeOf ty).run P w=.ok n w) (C:us.length=n) (B:Fr.get fr t=some (.pointer (some ⟨b,0,none⟩)))
    (hi:H[i]? = some (b,.cells us.toArray T (0,0))) (a:Act) (v:Vw) (G:Fr.sat N fr a) (m:v.sat H):(results fn a.tmps).run P v.w=.ok (.agg us.toArray) v.w:=by
  have e:=G.val t _ B;have hl:=cy_ (t:=ty) (w:=v.w) (b:=b) (off:=0) F A C (λj y E=>by rw[yba_,fm_ m hi];simpa using E);simp[results,x,e,asAddr,hl]
theorem ys_ {Hs:Hp} {E:List Fct} {y:Nat} {m:Array Bool} (C:List Nat) (G:Region.ready .any ops m=C) (B:C≠[])
    (h:∀ i,i∈C->∃ o,ops[i]? = some o/\Ops P R N v0 H0 ops [o] (.inv (Nx P R ops Hs E y (m.setIfInBounds i true) K)::K) fr H Γ):Any P R N v0 H0 ops Hs E (y+1) m K fr H Γ:=by
  intro a v M F I L;refine wpAnyH_all G B λj J=>?_;obtain⟨o,hi,h⟩:=h j J;have:=h a v M F I L;unfold wpOp;simp only[hi];unfold wpList at this
  split
  . rename_i A
    rw[yaq_ A]at this;rcases this with q|q
    . left
      unfold Oper.wp at q ⊢;generalize (execOp a.eval o).run P v.w=r at q ⊢
      cases r with
      | ok n w' =>
        cases n<;>simp only[Oper.upon]at q ⊢<;>exact q
      | halt x w' =>
        cases x<;>simp only[Oper.upon]at q ⊢
        case panic u=>exact q
    . exact .inr q
  . rename_i A
    rw[yaf_ A]at this;exact this
theorem do_ {Hs:Hp} {x:List Fct} {v:Nat} {m:Array Bool} (i j:Nat) {o o':Oper} (hi:ops[i]? = some o) (B:ops[j]? = some o') (C:Region.ready .any ops m=[i,j])
    (h:Ops P R N v0 H0 ops [o] (.inv (Nx P R ops Hs x v (m.setIfInBounds i true) K)::K) fr H Γ) (A:Ops P R N v0 H0 ops [o'] (.inv (Nx P R ops Hs x v (m.setIfInBounds j true) K)::K) fr H Γ):Any P R N v0 H0 ops Hs x (v+1) m K fr H Γ :=
  ys_ [i,j] C zai_ λk y=>by
    simp only[yan_,yaJ_,ybG_]at y;rcases y with rfl|rfl
    . exact⟨o,hi,h⟩
    . exact⟨o',B,A⟩
theorem ad_.some {e:TypeId} {sz n:Nat} {sv:Value} {xs:List Value} {Hr:Hp} (h:ad_ e sz sv n xs Hr) (v:n≠0) :
    ∃ g cap cur,sv=.slice (some ⟨g,0,none⟩) n cap/\Hr=[(g,.cells cur e (0,0))]/\n<=cap/\cap<=maxLen/\cur.size=cap*sz/\cur.toList.take (n*sz)=xs:=by
  rcases h.2 with⟨_,m,_⟩|m
  . exact absurd m v
  . exact m
theorem hx_ {us:List Value} (h:us.all Value.oneCell'=true):∀ u∈us,u.oneCell'=true:=λu m=>yaQ_.1 h u m
theorem V_ {m:Nat} (Hs:Hp) (hm:P.follows .mixedOrders=true) (h:Any P R N v0 H0 ops Hs Γ ops.size (Array.replicate ops.size false) K fr H Γ):Run P R N v0 H0 (.region m ops true) K fr H Γ:=mW_ Hs Γ hm h
theorem retG {N:Nat} {fn:Func} {ι:Type} {F:Hp} {ret:ι->Value} {H':ι->Hp} {Γ':ι->List Fct} (x:ι) (I:∀ (a:Act) (v:Vw),Fr.sat N fr a->v.sat H->Z_ Γ v->(results fn a.tmps).run P v.w=.ok (ret x) v.w) (y:H.Perm (H' x++F))
    (C:∀ v,v.sat H->Z_ Γ v->Z_ (Γ' x) v):Ok N v0 H0 (bodyPost P fn (jb_ v0 H0 ret H' Γ') .ret) fr H Γ :=
  λa v B m E A=>⟨B.defers,ret x,I a v B m A,x,v,rfl,rfl,(m.perm y).sub,C v m A,E.subR λb G=>by
    have:b∈(H' x++F).map Prod.fst:=by rw[yaw_];exact yal_ _ G
    exact (y.map Prod.fst).mem_iff.2 this⟩
theorem zs_ {fn:Func} {s t:Nat} {ad v:Addr} {ty m:TypeId} {u B:Value} {a:Act} {w:World} (C:fn.results=#[.cell s ty,.cell t m]) (G:∀ w,(isAgg ty).run P w=.ok false w) (y:∀ w,(isAgg m).run P w=.ok false w) (A:Fr.sat N fr a) (F:Fr.get fr s=some (.pointer (some ad))) (E:Fr.get fr t=some (.pointer (some v)))
    (I:w.cell? ad=some u) (x:w.cell? v=some B):(results fn a.tmps).run P w=.ok (.tuple #[u,B]) w:=by
  have e:=A.val s _ F;have J:=A.val t _ E;simp[results,C,e,J,asAddr,bQ_ G I,bQ_ y x]
theorem nm_ {b:Nat} {cs:List Value} {T:TypeId} {fz:Nat×Nat} {v:Vw} (j:Nat) {u:Value} (h:(cf_ b (.cells cs.toArray T fz)).p v) (m:cs[j]? = some u):v.w.cell? ⟨b,j,none⟩=some u:=by
  simp[World.cell?,h.2,m]
theorem da_ {t:TypeId} {x:Operand} {b off:Nat} {cs:List Value} {T:TypeId} {fz:Nat×Nat} {u:Value} {ty:TypeId} (y:∀ w,(isAgg t).run P w=.ok false w) (E:Fr.ev fr x=some (.pointer (some ⟨b,off,none⟩))) (m:∀ v,v.sat H->Z_ Γ v->(cf_ b (.cells cs.toArray T fz)).p v) (C:cs[off]? = some u):Yld P N fr H Γ (.load t x) ty u :=
  eN_ E λv A B=>bQ_ y (nm_ off (m v A B) C)
end
end Go.Sx
namespace Go.Vs
open Go Go.Sx
namespace Con
def text:Con->Str
  | mk k nm lo hi _ _ ps =>
    if k=1 then [101,118,101,114,121,116,104,105,110,103]
    else if k=2 then [110,111,116,104,105,110,103]
    else if k=3 then nm
    else if k=4 then [123]++nm++[125]
    else if k=5 then Lib.join (operands ps) [32,97,110,100,32]
    else if k=6 then Lib.join [[115,111,109,101],nm,(operands ps).headD []] [32]
    else Lib.join [nm,[105,110],Lib.itoa lo,[116,111],Lib.itoa hi] [32]
where operands:List Con->List Str
  | []=>[]
  | p::ps=>(if p.kind=5 then [40]++text p++[41] else text p)::operands ps
def operand (c:Con):Str:=if c.kind=5 then [40]++c.text++[41] else c.text
theorem lN_:∀ (ps:List Con),text.operands ps=ps.map operand
  | []=>rfl
  | p::ps=>by simp only[text.operands,yaF_,lN_ ps,operand]
theorem text_eq (c:Con):c.text =
    if c.kind=1 then [101,118,101,114,121,116,104,105,110,103]
    else if c.kind=2 then [110,111,116,104,105,110,103]
    else if c.kind=3 then c.name
    else if c.kind=4 then [123]++c.name++[125]
    else if c.kind=5 then Lib.join (c.parts.map operand) [32,97,110,100,32]
    else if c.kind=6 then Lib.join [[115,111,109,101],c.name,(c.parts.map operand).headD []] [32]
    else Lib.join [c.name,[105,110],Lib.itoa c.lo,[116,111],Lib.itoa c.hi] [32]:=by
  cases c;simp only[text,lN_];rfl
theorem ki_ (d:Str):∀ (xs:List Str),(Lib.join xs d).length<=(xs.map λx=>x.length+d.length).sum
  | []=>by simp[Lib.join_nil]
  | [x]=>by simp[Lib.join_one]
  | x::y::r=>by
    have h:=ki_ d (y::r);have e:Lib.join (x::y::r) d=x++d++Lib.join (y::r) d:=by simp[Lib.join,List.intercalate]
    rw[e];simp only[yaj_,yaF_,yde_]at h ⊢;omega
def fine (c:Con):Prop:=c.firstErr=0
theorem iy_:∀ {ps:List Con},firstErr.firstErrs ps=0↔∀ p∈ps,p.firstErr=0
 | []=>by simp[firstErr.firstErrs]
 | p::ps=>by
   simp only[firstErr.firstErrs,yan_,forall_eq_or_imp]
   by_cases h:p.firstErr=0
   . simp[h,iy_ (ps:=ps)]
   . simp[h]
theorem km_ (c:Con):c.fine↔c.fieldErr=0/\∀ p∈c.parts,p.fine:=by
 unfold fine;rw[lS_]
 by_cases h:c.fieldErr=0
 .simp[h,iy_]
 simp[h]
theorem fine_part {c p:Con} (h:c.fine) (d:p∈c.parts):p.fine:=((km_ c).1 h).2 p d
structure Fields (c:Con):Prop where
  k1:1<=c.kind
  k7:c.kind<=7
  nm:c.name.length<=24
  le:(nd c.kind).2.1<=c.parts.length
  mo:c.parts.length<=(nd c.kind).2.2.1
theorem plain_len {s:Str} (h:br_ s=true):s.length<=24:=by
  unfold br_ at h
  split at h<;>simp_all
theorem reserved_len {s:Str} (h:cE_ s=true):s.length<=24:=by
  unfold cE_ at h;simp at h
  omega
theorem fields_of {c:Con} (h:c.fieldErr=0):Fields c:=by
 unfold fieldErr at h
 split at h
 .cases h
 rename_i v
 split at h
 .cases h
 rename_i m
 split at h
 .cases h
 split at h
 .cases h
 split at h
 .rename_i d
  simp only[not_or,not_and]at v m;refine⟨by omega,by omega,?_,by omega,by omega⟩;rcases d with d|d|d
  .have:=m.2.2 d
   simp only[ne_eq,Decidable.not_not]at this;rw[this];simp
  .exact plain_len d
  exact reserved_len d.2
 cases h
theorem fields {c:Con} (h:c.fine):Fields c:=fields_of ((km_ c).1 h).1
theorem text_len:∀ (m:Nat) (c:Con),c.sz<=m->c.ok->c.fine->c.text.length+10<=100*c.sz
 | 0,c,h=>by have:=c.sz_pos;omega
 | m+1,c,h=>λd E=>by
   have F:=fields E;have N:=c.sz_pos
   have v:∀ p∈c.parts,p.operand.length+8<=100*p.sz:=λp y=>by
     have:=text_len m p (by have:=sz_part y;omega) (ok_part d y) (fine_part E y);unfold operand
     split<;>simp<;>omega
   have A:(c.parts.map λp=>p.operand.length+5).sum<=100*(c.sz - 1):=by
     have B:∀ ps:List Con,(∀ p∈ps,p.operand.length+8<=100*p.sz)->(ps.map λp=>p.operand.length+5).sum<=100*sz.szs ps:=by
       intro ps
       induction ps with
       | nil=>intro _;simp[sz.szs]
       | cons p ps ih =>
         intro y;have G:=y p zai_;have M:=ih λq I=>y q (by simp[I])
         simp only[yaF_,yde_,sz.szs];omega
     have:=B c.parts v;cases c with
     | mk k n l hi a cp ps=>simp only[sz,parts]at this ⊢;omega
   rw[text_eq];have J:(Lib.itoa c.lo).length<=21:=by cases c;exact Lib.itoa_length_le _ d.2.2.2.1 d.2.2.2.2.1
   have L:(Lib.itoa c.hi).length<=21:=by cases c;exact Lib.itoa_length_le _ d.2.2.2.2.2.1 d.2.2.2.2.2.2.1
   have K:=F.nm
   split
   . simp;omega
   . split
     . simp;omega
     . split
       . omega
       . split
         . simp;omega
         . split
           . have:=ki_ [32,97,110,100,32] (c.parts.map operand)
             simp only[ycO_,yai_,yaB_]at this;have e:(c.parts.map ((λx:Str=>x.length+(0+1+1+1+1+1)) ∘ operand)).sum=(c.parts.map λp=>p.operand.length+5).sum:=rfl;rw[e]at this;omega
           . split
             . rename_i H
               have G:1<=c.parts.length:=by have:=F.le;rw[H]at this;simp[nd,en_]at this;omega
               obtain⟨p,ps,C⟩:=yda_ G;have:=ki_ [32] [[115,111,109,101],c.name,(c.parts.map operand).headD []];simp only[C,yaF_,List.headD_cons,ybR_,yde_,ydA_,yai_,yaB_]at this A ⊢;omega
             . have:=ki_ [32] [c.name,[105,110],Lib.itoa c.lo,[116,111],Lib.itoa c.hi]
               simp only[yaF_,ybR_,yde_,ydA_,yai_,yaB_]at this;omega
theorem pP_:∀ (m:Nat) (c:Con),c.sz<=m->∀ d n,(c.fits d n).1=true->(c.fits d n).2=n+c.sz
 | 0,c,h=>by have:=c.sz_pos;omega
 | m+1,c,h=>λd n v=>by
   rw[fits_eq]at v ⊢
   split at v
   . cases v
   . rename_i C
     rw[yaf_ C]
     have A:∀ ps:List Con,(∀ p∈ps,p.sz<=m)->∀ n,(fits.fitss ps (d+1) n).1=true->(fits.fitss ps (d+1) n).2=n+sz.szs ps:=by
       intro ps
       induction ps with
       | nil=>intro _ n _;simp[fits.fitss,sz.szs]
       | cons p ps ih =>
         intro x n v;simp only[fits.fitss]at v ⊢
         split at v
         . rename_i q y
           have B:=pP_ m p (x p zai_) (d+1) n (by rw[y]);rw[y]at B;have E:=ih (λq y=>x q zbo_) q v;simp only[sz.szs];simp only at B;omega
         . cases v
     have:=A c.parts (λp x=>by have:=sz_part x;omega) (n+1) v;rw[this];cases c with
     | mk k nn l hi a cp ps=>simp only[sz,parts];omega
theorem check_zero {c:Con} (h:c.check=0):c.fine/\c.sz<=64:=by
 unfold check at h
 split at h
 .rename_i d
  have m:=pP_ _ c (yae_ _) 0 0 d;have v:=pQ_ _ c (yae_ _) 0 0 d;exact⟨h,by omega⟩
 cases h
def textN (c:Con):Str:=if c.check=0 then c.text else []
theorem textN_len {c:Con} (d:c.ok):c.textN.length<=6400:=by
 unfold textN
 split
 .rename_i h
  obtain⟨m,v⟩:=check_zero h;have:=text_len _ c (yae_ _) d m;omega
 simp
def operandN (c:Con):Str:=if c.kind=5 then [40]++c.textN++[41] else c.textN
def atom (c:Con):Str :=
  if c.kind=1 then [42] else if c.kind=2 then [33] else if c.kind=3 then c.name else if c.kind=4 then [123]++c.name++[125] else [60]++c.textN++[62]
end Con
theorem om_ {cur:Array Value} {n:Nat} {xs:List Str} (h:cur.toList.take (n*1)=xs.flatMap ar_):∀ (j:Nat) (x:Str),xs[j]? = some x->cur[j]? = some (str x):=by
 intro j x m;have d:=y_ aO_ m 0 (str x) rfl;rw[<-h,Nat.mul_one,ycc_]at d;rw[ybg_]at d
 split at d
 .simpa using d
 cases d
theorem tO_ (xs:List Str):∀ (j:Nat) (x:Str),xs[j]? = some x->(xs.map str).toArray[j]? = some (str x):=by
  intro j x d;simp[d]
end Go.Vs
namespace Go.Sx
open Go
section
variable {P:Program}
theorem kr_ {d:Nat} {xs ys:Array Value} (w:World):(Op.eqFields d xs ys []).run P w=.ok true w:=by simp[Op.eqFields]
theorem bD_ {d : Nat} {xs ys : Array Value} {f : Field} {v : List Field} {a b : Value} {r s : Bool} {w : World} (B : (f.name == "_") = false) (A : ∀ w, (isAgg f.type).run P w = .ok false w) (E : xs[f.offset]? = some a) (y : ys[f.offset]? = some b)
    (C:(Op.equalIn d f.type a b).run P w=.ok r w) (x:(Op.eqFields d xs ys v).run P w=.ok s w):(Op.eqFields d xs ys (f::v)).run P w=.ok (r&&s) w:=by
  have m : f.name ≠ "_" := by simpa using B
  simp only[Op.eqFields,m,ne_eq,not_false_eq_true,yck_,part,Sem.run_bind,A,Result.andThen_ok,ybl_,yca_,E,y,Sem.run_pure,C];cases r
  . simp
  . simpa using x
theorem eqI {d:Nat} {t:TypeId} {k:IntKind} {a b:Int} (h:P.underlying t=some (.int k)) (w:World):(Op.equalIn (d+1) t (.int k a) (.int k b)).run P w=.ok (a==b) w:=run_equalIn_int w d t k k a b h
theorem eqS {d:Nat} {t:TypeId} {a b:List UInt8} (h:P.underlying t=some .string) (w:World):(Op.equalIn (d+1) t (str a) (str b)).run P w=.ok (a==b) w:=by
  have:=run_equalIn_string w d t ⟨a.toArray⟩ ⟨b.toArray⟩ h;simp only[ByteArray.toList_eq]at this;exact this
theorem ckF {e : Bool} {n : Nat} {t : TypeId} {m : Array Field} {xs : Array Value} {w : World} (B : P.underlying t = some (.struct m)) (h : ∀ f ∈ m.toList, (f.name == "_") = false/\(∀ w, (isAgg f.type).run P w = .ok false w)/\∃ a, xs[f.offset]? = some a/\(∀ w, (Instr.checkKey e n f.type a).run P w = .ok () w)) :
    (Instr.checkKey e (n+1) t (.agg xs)).run P w=.ok () w:=by
  simp only[Instr.checkKey,Sem.run_bind,run_underlying B,Result.andThen_ok];rw[<-Array.forIn_toList];generalize m.toList=l at h
  induction l with
  | nil=>simp
  | cons f l ih =>
    obtain⟨y,v,a,C,x⟩:=h f (by simp);have d : f.name ≠ "_" := by simpa using y
    simp only[List.forIn_cons,d,ne_eq,not_false_eq_true,yck_,part,Sem.run_bind,v,Result.andThen_ok,ybl_,yca_,C,Sem.run_pure,x];exact ih λg A=>h g zbu_
theorem kn_ {α:Type} [DecidableEq α] {k:TypeId} {C:Array Field} {val:α->Value} (B:P.underlying k=some (.struct C)) (m:∀ p q w,(Op.equal k (val p) (val q)).run P w=.ok (decide (p=q)) w) (p:α) :
    ∀ (l:List α) (es:List MapEntry) (i:Nat),es.map (·.key)=l.map val->(p ∉ l->∀ w,(Instr.findAsking k (val p) es i).run P w=.ok none w)/\(p∈l->(∀ x∈es,x.val=.bool true)->∃ j,∀ w,(Instr.findAsking k (val p) es i).run P w=.ok (some (j,.bool true)) w)
  | [],es,i,h=>by
    have:es=[]:=by simpa using h
    subst this;simp[Instr.findAsking]
  | q::l,[],i,h=>by simp at h
  | q::l,e::es,i,h=>by
    simp only[yaF_,ybt_]at h;have A:=kn_ B m p l es (i+1) h.2
    by_cases d:p=q
    . subst d
      refine⟨λv=>absurd yau_ v,λ_ y=>⟨i,λw=>?_⟩⟩;simp only[Instr.findAsking,Sem.run_bind,h.1,m,Result.andThen_ok,decide_true,yck_,Sem.run_pure,y e zai_]
    . refine⟨λv w=>?_,λhm y=>?_⟩
      . simp only[Instr.findAsking,Sem.run_bind,h.1,m,Result.andThen_ok,d,ydE_,ybl_,yca_]
        exact A.1 (λh=>v (yaA_ _ h)) w
      . obtain⟨j,F⟩:=A.2 (by simpa [d] using hm) λx E=>y x (by simp[E])
        refine⟨j,λw=>?_⟩;simp only[Instr.findAsking,Sem.run_bind,h.1,m,Result.andThen_ok,d,ydE_,ybl_,yca_];exact F w
theorem hH_ {α:Type} [DecidableEq α] {k:TypeId} {y:Array Field} {val:α->Value} (m:P.underlying k=some (.struct y)) (v:∀ p q w,(Op.equal k (val p) (val q)).run P w=.ok (decide (p=q)) w) (p:α) (l:List α) (es:List MapEntry) (h:es.map (·.key)=l.map val) :
    (p ∉ l->dh_ P k (val p) es none)/\(p∈l->(∀ x∈es,x.val=.bool true)->∃ j,dh_ P k (val p) es (some (j,.bool true))):=by
  have A:=kn_ m v p l es 0 h;have d:∀ (e:MapEntry) (r:List MapEntry),Instr.findNow (.struct y) (val p) (e::r) 0=none:=λe r=>by simp[Instr.findNow,Instr.sameNow]
  cases es with
  | nil =>
    have:l=[]:=by simpa using h.symm
    subst this;exact⟨λ_ w=>by simp[Instr.findKey,run_underlying m,Instr.findNow],λh=>by simp at h⟩
  | cons e r =>
    refine⟨λB w=>?_,λhm C=>?_⟩
    . simp only[Instr.findKey,Sem.run_bind,run_underlying m,Result.andThen_ok,d]
      exact A.1 B w
    . obtain⟨j,E⟩:=A.2 hm C
      refine⟨j,λw=>?_⟩;simp only[Instr.findKey,Sem.run_bind,run_underlying m,Result.andThen_ok,d];exact E w
end
end Go.Sx
namespace Go.Vs
open Go Go.Sx
structure Pc where
  kind:Int
  a:Str
  b:Str
  c:Str
  r:Str
  s:Str
  t:Str
  lo:Int
  hi:Int
  frm:Int
  deriving DecidableEq
namespace Pc
def cells (p:Pc):List Value:=[.int .i64 p.kind,str p.a,str p.b,str p.c,str p.r,str p.s,str p.t,.int .i64 p.lo,.int .i64 p.hi,.int .i64 p.frm]
def val (p:Pc):Value:=.agg p.cells.toArray
theorem cells_len (p:Pc):p.cells.length=10:=rfl
theorem cells_one (p:Pc):p.cells.all Value.oneCell'=true:=rfl
def eqb (p q:Pc):Bool:=(p.kind==q.kind)&&((p.a==q.a)&&((p.b==q.b)&&((p.c==q.c)&&((p.r==q.r)&&((p.s==q.s)&&((p.t==q.t)&&((p.lo==q.lo)&&((p.hi==q.hi)&&((p.frm==q.frm)&&true)))))))))
theorem eqb_eq (p q:Pc):p.eqb q=decide (p=q):=by
  rw[ybJ_];cases p;cases q;simp[eqb]
end Pc
def ins (frm:Int) (l:List Pc) (p:Pc):List Pc:=if { p with frm:=frm }∈l then l else l++[{ p with frm:=frm }]
theorem bC_ (frm:Int) (l:List Pc) (p:Pc):(ins frm l p).length<=l.length+1:=by unfold ins;split<;>simp
structure Fc where
  kind:Int
  a:Str
  b:Str
  r:Str
  lo:Int
  hi:Int
  deriving DecidableEq
namespace Fc
def cells (p:Fc):List Value:=[.int .i64 p.kind,str p.a,str p.b,str p.r,.int .i64 p.lo,.int .i64 p.hi]
def val (p:Fc):Value:=.agg p.cells.toArray
theorem cells_len (p:Fc):p.cells.length=6:=rfl
def eqb (p q:Fc):Bool:=(p.kind==q.kind)&&((p.a==q.a)&&((p.b==q.b)&&((p.r==q.r)&&((p.lo==q.lo)&&((p.hi==q.hi)&&true)))))
theorem eqb_eq (p q:Fc):p.eqb q=decide (p=q):=by
  rw[ybJ_];cases p;cases q;simp[eqb]
end Fc
end Go.Vs
namespace Go.Sx
open Go
theorem aj_ {P:Program} {N:Nf} {fr:Fr} {H:Hp} {Γ:List Fct} {d:Op} {ty:TypeId} {x y:Value} (h:Yld P N fr H Γ d ty x) (e:x=y):Yld P N fr H Γ d ty y:=e▸h
theorem uj_ {α:Type} (f:α->List Value) (n:Nat) (d:∀ x,(f x).length=n):∀ (l:List α) (i:Nat),(l.flatMap f).drop (i*n)=(l.drop i).flatMap f
  | l,0=>by simp
  | [],i+1=>by simp
  | x::l,i+1=>by
    simp only[yaV_,ybW_];rw[<-uj_ f n d l i,ydv_,d,yaP_ (by rw[d,ycf_];omega),ybC_]
    congr 1
    rw[ycf_];omega
theorem uh_ {α:Type} (f:α->List Value) (n:Nat) (d:∀ x,(f x).length=n):∀ (l:List α) (i:Nat),(l.flatMap f).take (i*n)=(l.take i).flatMap f
  | l,0=>by simp
  | [],i+1=>by simp
  | x::l,i+1=>by
    simp only[yaV_,ybd_];rw[<-uh_ f n d l i,ydw_,d,yad_ (by rw[d,ycf_];omega)]
    congr 2
    rw[ycf_];omega
theorem bl_.slice {α:Type} {f:α->List Value} {n:Nat} (m:∀ x,(f x).length=n) {v:Vw} {ad:Ao} {l:List α} {cap:Nat} (h:bl_ v ad (l.flatMap f)) (y:l.length<=cap) (i k:Nat):bl_ v (Sx.sad ad cap i n) (((l.drop i).take k).flatMap f):=by
 refine h.sad _ (λj x d=>?_) (by rw[cK_ f n m];exact ycI_ _ y);rw[<-uh_ f n m,<-uj_ f n m,ybg_]at d
 split at d
 .rwa [ybP_]at d
 cases d
end Go.Sx
namespace Go.Vs
open Go Go.Sx
namespace Con
def pre (c:Con) (j:Nat):Con:=.mk 5 [] 0 0 (sad c.ad c.cap 0 5) (c.cap - 0) (c.parts.take j)
theorem pre_mem {c:Con} (d:c.ok) {v:Vw} (h:c.mem v) (j:Nat):(c.pre j).mem v:=by
  rw[mem_iff]at h ⊢;refine⟨?_,λp m=>h.2 p (ybs_ m)⟩;have:=h.1.slice cells_len (ok_len d).1 0 j;exact this
theorem pre_ok {c:Con} (d:c.ok) (j:Nat):(c.pre j).ok:=by
 have h:=ok_len d;refine⟨by decide,by decide,by simp,by decide,by decide,by decide,by decide,?_,?_,oks_iff.2 λp m=>ok_part d (ybs_ m)⟩
 .simp;omega
 rw[yat_];omega
def andP (frm:Int) (c:Con):List Con->Nat->Str->List Pc->List Pc
  | [],_,_,l=>l
  | p::r,j,f,l=>andP frm c r (j+1) (c.pre (j+1)).atom (ins frm l ⟨2,f,p.atom,(c.pre (j+1)).atom,[],[],[],0,0,0⟩)
theorem rZ_ (frm:Int) (c:Con):∀ (r:List Con) (j:Nat) (f:Str) (l:List Pc),(andP frm c r j f l).length<=l.length+r.length
  | [],_,_,l=>by simp[andP]
  | p::r,j,f,l=>by
    have m:=rZ_ frm c r (j+1) (c.pre (j+1)).atom (ins frm l ⟨2,f,p.atom,(c.pre (j+1)).atom,[],[],[],0,0,0⟩);have d:=bC_ frm l ⟨2,f,p.atom,(c.pre (j+1)).atom,[],[],[],0,0,0⟩;simp only[andP,yai_];omega
def leftP (frm:Int):Con->List Pc->List Pc
  | c@(mk k nm lo hi _ _ ps),l =>
    if k=5 then andP frm c (ps.drop 1) 1 ((ps.map atom).headD []) (lefts frm ps l)
    else if k=6 then ins frm (lefts frm ps l) ⟨4,(ps.map atom).headD [],[],c.atom,nm,[],[],0,0,0⟩
    else if k=7 then ins frm l ⟨9,[],[],c.atom,nm,[],[],lo,hi,0⟩
    else l
where lefts (frm:Int):List Con->List Pc->List Pc
  | [],l=>l
  | p::ps,l=>lefts frm ps (leftP frm p l)
theorem leftP_eq (frm:Int) (c:Con) (l:List Pc):c.leftP frm l =
    if c.kind=5 then andP frm c (c.parts.drop 1) 1 ((c.parts.map atom).headD []) (leftP.lefts frm c.parts l)
    else if c.kind=6 then ins frm (leftP.lefts frm c.parts l) ⟨4,(c.parts.map atom).headD [],[],c.atom,c.name,[],[],0,0,0⟩
    else if c.kind=7 then ins frm l ⟨9,[],[],c.atom,c.name,[],[],c.lo,c.hi,0⟩
    else l:=by cases c;simp only[leftP];rfl
theorem kg_ (frm:Int):∀ (xs ys:List Con) (l:List Pc),leftP.lefts frm (xs++ys) l=leftP.lefts frm ys (leftP.lefts frm xs l)
  | [],_,_=>rfl
  | x::xs,ys,l=>by simp only[yav_,leftP.lefts];exact kg_ frm xs ys _
theorem lefts_step (frm:Int) {ps:List Con} {p:Con} {i:Nat} (d:ps[i]? = some p) (l:List Pc):leftP.lefts frm (ps.take (i+1)) l=p.leftP frm (leftP.lefts frm (ps.take i) l):=by
  rw[take_snoc d,kg_];rfl
theorem szs_len:∀ ps:List Con,ps.length<=sz.szs ps
  | []=>by simp[sz.szs]
  | p::ps=>by have:=szs_len ps;have:=p.sz_pos;simp only[sz.szs,yai_];omega
theorem leftP_len (frm:Int):∀ (m:Nat) (c:Con),c.sz<=m->∀ l,(c.leftP frm l).length+2<=l.length+2*c.sz+0+1
 | 0,c,h=>by have:=c.sz_pos;omega
 | m+1,c,h=>λl=>by
   have v:∀ ps:List Con,(∀ p∈ps,p.sz<=m)->∀ l,(leftP.lefts frm ps l).length+ps.length<=l.length+2*sz.szs ps:=by
     intro ps
     induction ps with
     | nil=>intro _ l;simp[leftP.lefts]
     | cons p ps ih =>
       intro d l;have C:=leftP_len frm m p (d p zai_) l;have B:=ih (λq x=>d q zbD_) (p.leftP frm l);simp only[leftP.lefts,sz.szs,yai_];omega
   have A:=v c.parts (λp d=>by have:=sz_part d;omega) l;have y:c.sz=1+sz.szs c.parts:=by cases c;simp only[sz,parts]
   have hl:=szs_len c.parts;rw[leftP_eq]
   split
   . have:=rZ_ frm c (c.parts.drop 1) 1 ((c.parts.map atom).headD []) (leftP.lefts frm c.parts l)
     simp only[ycn_]at this;omega
   . split
     . have:=bC_ frm (leftP.lefts frm c.parts l) ⟨4,(c.parts.map atom).headD [],[],c.atom,c.name,[],[],0,0,0⟩
       omega
     . split
       . have:=bC_ frm l ⟨9,[],[],c.atom,c.name,[],[],c.lo,c.hi,0⟩
         omega
       . omega
def rightP (frm:Int):Con->List Pc->List Pc
  | c@(mk k nm lo hi _ _ ps),l =>
    if k=5 then rights frm c.atom ps l
    else if k=6 then righty frm ps (ins frm l ⟨3,c.atom,[],(ps.map atom).headD [],nm,[],[],0,0,0⟩)
    else if k=7 then ins frm l ⟨8,c.atom,[],[],nm,[],[],lo,hi,0⟩
    else l
where
  rights (frm:Int) (a:Str):List Con->List Pc->List Pc
  | [],l=>l
  | p::ps,l=>rights frm a ps (rightP frm p (ins frm l ⟨1,a,[],p.atom,[],[],[],0,0,0⟩))
  righty (frm:Int):List Con->List Pc->List Pc
  | [],l=>l
  | p::ps,l=>righty frm ps (rightP frm p l)
theorem rightP_eq (frm:Int) (c:Con) (l:List Pc):c.rightP frm l =
    if c.kind=5 then rightP.rights frm c.atom c.parts l
    else if c.kind=6 then rightP.righty frm c.parts (ins frm l ⟨3,c.atom,[],(c.parts.map atom).headD [],c.name,[],[],0,0,0⟩)
    else if c.kind=7 then ins frm l ⟨8,c.atom,[],[],c.name,[],[],c.lo,c.hi,0⟩
    else l:=by cases c;simp only[rightP];rfl
theorem jd_ (frm:Int) (a:Str):∀ (xs ys:List Con) (l:List Pc),rightP.rights frm a (xs++ys) l=rightP.rights frm a ys (rightP.rights frm a xs l)
  | [],_,_=>rfl
  | x::xs,ys,l=>by simp only[yav_,rightP.rights];exact jd_ frm a xs ys _
theorem rights_step (frm:Int) (a:Str) {ps:List Con} {p:Con} {i:Nat} (d:ps[i]? = some p) (l:List Pc):rightP.rights frm a (ps.take (i+1)) l=p.rightP frm (ins frm (rightP.rights frm a (ps.take i) l) ⟨1,a,[],p.atom,[],[],[],0,0,0⟩):=by
  rw[take_snoc d,jd_];rfl
theorem rightP_len (frm:Int):∀ (m:Nat) (c:Con),c.sz<=m->∀ l,(c.rightP frm l).length+1<=l.length+2*c.sz
 | 0,c,h=>by have:=c.sz_pos;omega
 | m+1,c,h=>λl=>by
   have y:∀ ps:List Con,(∀ p∈ps,p.sz<=m)->∀ a l,(rightP.rights frm a ps l).length<=l.length+2*sz.szs ps:=by
     intro ps
     induction ps with
     | nil=>intro _ a l;simp[rightP.rights,sz.szs]
     | cons p ps ih =>
       intro d a l;have C:=bC_ frm l ⟨1,a,[],p.atom,[],[],[],0,0,0⟩;have E:=rightP_len frm m p (d p zai_) (ins frm l ⟨1,a,[],p.atom,[],[],[],0,0,0⟩);have B:=ih (λq A=>d q zbu_) a (p.rightP frm (ins frm l ⟨1,a,[],p.atom,[],[],[],0,0,0⟩));simp only[rightP.rights,sz.szs];omega
   have v:∀ ps:List Con,(∀ p∈ps,p.sz<=m)->∀ l,(rightP.righty frm ps l).length<=l.length+2*sz.szs ps:=by
     intro ps
     induction ps with
     | nil=>intro _ l;simp[rightP.righty,sz.szs]
     | cons p ps ih =>
       intro d l;have E:=rightP_len frm m p (d p zai_) l;have B:=ih (λq A=>d q zbu_) (p.rightP frm l);simp only[rightP.righty,sz.szs];omega
   have x:∀ p∈c.parts,p.sz<=m:=λp d=>by have:=sz_part d;omega
   have F:c.sz=1+sz.szs c.parts:=by cases c;simp only[sz,parts]
   rw[rightP_eq]
   split
   . have:=y c.parts x c.atom l;omega
   . split
     . have C:=bC_ frm l ⟨3,c.atom,[],(c.parts.map atom).headD [],c.name,[],[],0,0,0⟩
       have:=v c.parts x (ins frm l ⟨3,c.atom,[],(c.parts.map atom).headD [],c.name,[],[],0,0,0⟩);omega
     . split
       . have:=bC_ frm l ⟨8,c.atom,[],[],c.name,[],[],c.lo,c.hi,0⟩
         omega
       . omega
end Con
end Go.Vs
namespace Go.Sx
open Go
theorem bl_.rest {α:Type} {f:α->List Value} {n:Nat} (d:∀ x,(f x).length=n) {v:Vw} {ad:Ao} {l:List α} {cap:Nat} (h:bl_ v ad (l.flatMap f)) (m:l.length<=cap) (i:Nat):bl_ v (Sx.sad ad cap i n) ((l.drop i).flatMap f):=by
  have:=h.slice d m i l.length;rwa [yad_ zai_]at this
theorem hI_ {α:Type} {l:List α} {x:α} {i:Nat} (d:l[i]? = some x):l.drop i=x::l.drop (i+1):=by
  have hi:=(yab_.1 d).1;rw[yaa_ hi]at d;simp only[yam_]at d;subst d;exact yaZ_ hi
theorem rE_ {α:Type} {l:List α} {x d:α} (m:l[0]? = some x):l.headD d=x:=by cases l<;>simp_all
end Go.Sx
namespace Go.Vs
open Go Go.Sx
namespace Ax
def chainP (frm:Int) (role:Str):List Str->Str->List Pc->List Pc
  | [],_,l=>l
  | r::t,f,l =>
    let all:=if t=[] then role else f++[46]++r
    chainP frm role t all (ins frm l ⟨6,[],[],[],f,r,all,0,0,0⟩)
def pieces (frm:Int) (x:Ax):List Pc :=
  if x.kind=1 then ins frm (x.right.rightP frm (x.left.leftP frm [])) ⟨1,x.left.atom,[],x.right.atom,[],[],[],0,0,0⟩
  else if x.kind=2 then
    ins frm (x.left.rightP frm (x.right.leftP frm (ins frm (x.right.rightP frm (x.left.leftP frm [])) ⟨1,x.left.atom,[],x.right.atom,[],[],[],0,0,0⟩))) ⟨1,x.right.atom,[],x.left.atom,[],[],[],0,0,0⟩
  else if x.kind=3 then ins frm (x.right.leftP frm (x.left.leftP frm [])) ⟨2,x.left.atom,x.right.atom,[33],[],[],[],0,0,0⟩
  else if x.kind=4 then ins frm (x.right.rightP frm []) ⟨4,[42],[],x.right.atom,x.role,[],[],0,0,0⟩
  else if x.kind=5 then ins frm [] ⟨5,[],[],[],x.roles.headD [],[],x.role,0,0,0⟩
  else if x.kind=6 then chainP frm x.role (x.roles.drop 1) (x.roles.headD []) []
  else if x.kind=7 then ins frm [] ⟨7,[],[],[],x.role,[],[],0,0,0⟩
  else if x.kind=8 then ins frm (x.right.rightP frm []) ⟨1,[123]++x.a++[125],[],x.right.atom,[],[],[],0,0,0⟩
  else ins frm [] ⟨3,[123]++x.a++[125],[],[123]++x.b++[125],x.role,[],[],0,0,0⟩
structure Good (x:Ax):Prop where
  k1:1<=x.kind
  k9:x.kind<=9
  left:x.kind<=3->x.left.check=0
  right:x.kind<=4\/x.kind=8->x.right.check=0
  role:x.kind=4\/x.kind=5\/x.kind=6\/x.kind=7\/x.kind=9->br_ x.role=true
  roles:∀ r∈x.roles,br_ r=true
  one:x.kind=5->x.roles.length=1
  chain:x.kind=6->2<=x.roles.length/\x.roles.length<=4
  a:x.kind=8\/x.kind=9->aJ_ x.a=true
  b:x.kind=9->aJ_ x.b=true
theorem good_of {x:Ax} (h:x.check=0):Good x:=by
 unfold check at h
 split at h
 .cases h
 rename_i m
 split at h
 .cases h
 rename_i d
 split at h
 .rename_i B;exact absurd h B.2
 rename_i B
 split at h
 .rename_i y;exact absurd h y.2
 rename_i y
 clear h;simp only[Bool.not_eq_false]at m d
 have E:1<=x.kind/\x.kind<=9:=by
   unfold shaped at m
   split at m
   . cases m
   . rename_i C;simp only[not_or]at C;omega
 have v:x.kind=1\/x.kind=2\/x.kind=3\/x.kind=4\/x.kind=5\/x.kind=6\/x.kind=7\/x.kind=8\/x.kind=9:=by omega
 unfold shaped at m;rw[yaf_ zaa_]at m
 have A:∀ r∈x.roles,br_ r=true:=by
   unfold namedU at d;simp only[yaS_]at d;exact λr A=>yaQ_.1 d.2 r A
 unfold namedU at d
 rcases v with e|e|e|e|e|e|e|e|e<;>simp[us,uD_,e]at m d B y <;>
   refine⟨by omega,by omega,λ_=>?_,λ_=>?_,λ_=>?_,A,λ_=>?_,λ_=>?_,λ_=>?_,λ_=>?_⟩ <;>
   first|omega|assumption|exact d.1|exact d.2.1|exact d.2.2.1|(simp_all;done)|(exact⟨by omega,by omega⟩)
end Ax
def Clw {α:Type} (E:α->α->Bool->Prop) (n:Nat) (f:Nat->α) (c:Nat->Bool):Prop :=
  0<n/\f n=f 0/\(∀ m,m<n->E (f m) (f (m+1)) (c m))/\∃ m,m<n/\c m=true
def Clo {α:Type} (E:α->α->Bool->Prop) (n:Nat):Prop:=∃ (f:Nat->α) (c:Nat->Bool),Clw E n f c
theorem xv_ {p:Nat->Prop} {n:Nat} (h:p n):∃ m,p m/\m<=n/\∀ k,p k->m<=k:=by
 induction n using Nat.strongRecOn with
 | ind n ih =>
   by_cases g:∃ k,k<n/\p k
   . obtain⟨k,d,v⟩:=g
     obtain⟨m,x,A,y⟩:=ih k d v;exact⟨m,x,by omega,y⟩
   . exact⟨n,h,yae_ _,λk d=>Nat.not_lt.1 λhl=>g ⟨k,hl,d⟩⟩
theorem Clw.inj {α:Type} {E:α->α->Bool->Prop} {n:Nat} {f:Nat->α} {c:Nat->Bool} (h:Clw E n f c) (hm:∀ k,Clo E k->n<=k):∀ a b,a<b->b<n->f a≠f b:=by
 intro a b C G e;obtain⟨_,F,hE,d,H,y⟩:=h
 by_cases g:a<=d/\d<b
 .have:=hm (b - a) ⟨λm=>f (a+m),λm=>c (a+m),by omega,by simp only[ycc_];rw[show a+(b - a)=b by omega,e],λm x=>by
    have:=hE (a+m) zaa_;rwa [ycF_]at this,d - a,by omega,by dsimp only;rw[show a+(d - a)=d by omega];exact y⟩
  omega
 have:=hm (n - (b - a)) ⟨λm=>if m<a then f m else f (m+(b - a)),λm=>if m<a then c m else c (m+(b - a)),by omega,?_,?_,?_⟩
 .omega
 .dsimp only
  rw[yaf_ zaa_,show n - (b - a)+(b - a)=n by omega,F]
  by_cases B:0<a
  .rw[yaq_ B]
  rw[yaf_ B,show 0+(b - a)=b by omega,<-e,show a=0 by omega]
 .intro m x
  dsimp only
  by_cases v:m<a
  .rw[yaq_ v,yaq_ v]
   by_cases A:m+1<a
   .rw[yaq_ A];exact hE m zaa_
   rw[yaf_ A,show m+1+(b - a)=b by omega,<-e,show a=m+1 by omega];exact hE m zaa_
  rw[yaf_ v,yaf_ v,yaf_ zaa_];have:=hE (m+(b - a)) zaa_;rwa [show m+(b - a)+1=m+1+(b - a) by omega]at this
 by_cases v:d<a
 .exact⟨d,by omega,by dsimp only;rw[yaq_ v];exact y⟩
 exact⟨d - (b - a),by omega,by dsimp only;rw[yaf_ zaa_,show d - (b - a)+(b - a)=d by omega];exact y⟩
def sig (c:Nat->Bool):Nat->Bool
  | 0=>false
  | n+1=>sig c n||c n
theorem qG_ {c:Nat->Bool}:∀ {n:Nat},sig c n=true↔∃ m,m<n/\c m=true
 | 0=>by simp[sig]
 | n+1=>by
   simp only[sig,ybK_,qG_ (n:=n)];constructor
   . rintro (⟨m,v,d⟩|h)
     . exact⟨m,by omega,d⟩
     . exact⟨n,by omega,h⟩
   . rintro ⟨m,v,d⟩
     by_cases e:m=n
     . subst e;exact .inr d
     . exact .inl ⟨m,by omega,d⟩
def Wlk {α:Type} (E:α->α->Bool->Prop) (x y:α) (b:Bool) (n:Nat):Prop :=
  ∃ (f:Nat->α) (c:Nat->Bool),f 0=x/\f n=y/\(∀ m,m<n->E (f m) (f (m+1)) (c m))/\sig c n=b
structure Wy where
  role:Nat
  strict:Bool
  before:Nat
  many:Nat
def gE (G:List (List (Nat×Bool))) (i j:Nat) (c:Bool):Prop:=∃ l,G[i]? = some l/\(j,c)∈l
def Dn (start:Nat) (W:List Wy) (w:Wy) (s:Nat×Bool):Prop :=
  ¬(s.1=start/\(w.strict||s.2)=true)/\∃ w'∈W,w'.role=s.1/\w'.strict=(w.strict||s.2)/\w'.many<=w.many+1
theorem Dn.mono {start:Nat} {W V:List Wy} {w:Wy} {s:Nat×Bool} (h:Dn start W w s) (y:∀ x∈W,x∈V):Dn start V w s:=by
  obtain⟨m,w',d,v⟩:=h;exact⟨m,w',y _ d,v⟩
structure BI (G:List (List (Nat×Bool))) (start:Nat) (W:List Wy) (a k:Nat):Prop where
  z:W[0]? = some ⟨start,false,0,0⟩
  role:∀ (i:Nat) (w:Wy),W[i]? = some w->w.role<G.length
  bef:∀ (i:Nat) (w:Wy),W[i]? = some w->0<i->w.before<i
  wlk:∀ (i:Nat) (w:Wy),W[i]? = some w->Wlk (gE G) start w.role w.strict w.many
  mono:∀ (i j:Nat) (w x:Wy),i<=j->W[i]? = some w->W[j]? = some x->w.many<=x.many
  top:∀ (j:Nat) (w x:Wy),W[a]? = some w->W[j]? = some x->x.many<=w.many+1
  done:∀ (i:Nat) (w:Wy) (l:List (Nat×Bool)),i<a->W[i]? = some w->G[w.role]? = some l->∀ s∈l,Dn start W w s
  cur:∀ (w:Wy) (l:List (Nat×Bool)),W[a]? = some w->G[w.role]? = some l->∀ s∈l.take k,Dn start W w s
  nd:∀ (i j:Nat) (w x:Wy),i<j->W[i]? = some w->W[j]? = some x->¬(w.role=x.role/\w.strict=x.strict)
  many:∀ (i:Nat) (w:Wy),W[i]? = some w->w.many<=i
theorem BI.none {G:List (List (Nat×Bool))} {start a most:Nat} {W:List Wy} (h:BI G start W a 0) (v:∀ w:Wy,W[a]? = some w->most<=w.many+1) (X:∀ (i:Nat) (l:List (Nat×Bool)),G[i]? = some l->∀ s∈l,s.1<G.length)
    {n:Nat} {f:Nat->Nat} {c:Nat->Bool} (T:Clw (gE G) n f c) (L:f 0=start):most<=n:=by
  apply Nat.not_lt.1
  intro Y;obtain⟨V,J,hE,Q,C,A⟩:=T
  -- where a way with few steps stands,it is done
  have old:∀ (i:Nat) (w:Wy),W[i]? = some w->w.many+1<most->i<a:=λi w d hm=>by
    apply Nat.not_le.1
    intro I;have N:=(yab_.1 d).1;obtain⟨x,M⟩:∃ x,W[a]? = some x:=⟨_,yaa_ (show a<W.length by omega)⟩;have K:=v x M;have U:=h.mono a i x w I M d;omega
  have m:∀ j,j<n->∃ (i:Nat) (w:Wy),W[i]? = some w/\w.role=f j/\w.strict=sig c j/\w.many<=j:=by
    intro j
    induction j with
    | zero=>intro _;exact⟨0,_,h.z,L.symm,rfl,yae_ _⟩
    | succ j ih =>
      intro Z;obtain⟨i,w,d,H,E,R⟩:=ih zaa_;obtain⟨l,hl,F⟩:=hE j zaa_;obtain⟨_,w',y,P,O,g3⟩:=h.done i w l (old i w d zaa_) d (by rw[H];exact hl) _ F;obtain⟨S,B⟩:=yaU_ y;exact⟨S,w',B,P,by rw[O,E];rfl,by omega⟩
  obtain⟨i,w,d,H,E,R⟩:=m (n - 1) zaa_;obtain⟨l,hl,F⟩:=hE (n - 1) zaa_;obtain⟨K,_⟩:=h.done i w l (old i w d zaa_) d (by rw[H];exact hl) _ F;refine K ⟨?_,?_⟩
  . dsimp only;rw[show n - 1+1=n by omega,J,L]
  . rw[E]
    have:=(qG_ (c:=c) (n:=n)).2 ⟨Q,C,A⟩;obtain⟨k,rfl⟩:∃ k,n=k+1:=⟨n - 1,by omega⟩;exact this
theorem BI.len {G:List (List (Nat×Bool))} {start a k:Nat} {W:List Wy} (h:BI G start W a k):W.length<=2*G.length:=by
  have v:(W.map λw=>2*w.role+w.strict.toNat).Nodup:=by
    unfold List.Nodup;rw[ycE_,yaN_];intro i j hi C A e;refine h.nd i j _ _ A (yaa_ hi) (yaa_ C) ?_;generalize W[i]=x at e
    generalize W[j]=y at e
    obtain⟨r,b,_,_⟩:=x;obtain⟨q,d,_,_⟩:=y;cases b<;>cases d<;>simp only[Bool.toNat_false,Bool.toNat_true]at e ⊢<;>simp<;>omega
  have m:(W.map λw=>2*w.role+w.strict.toNat) ⊆ List.range (2*G.length):=by
    intro z E;obtain⟨w,B,rfl⟩:=yas_.1 E;obtain⟨i,hi⟩:=yaU_ B;have:=h.role i w hi;rw[ybY_];have F:w.strict.toNat<=1:=by cases w.strict<;>simp
    omega
  have:=v.length_le_of_subset m;rwa [yaO_,ydp_]at this
theorem Clw.short {G:List (List (Nat×Bool))} {n:Nat} {f:Nat->Nat} {c:Nat->Bool} (h:Clw (gE G) n f c) (hm:∀ k,Clo (gE G) k->n<=k):n<=G.length:=by
  have x:((List.range n).map f).Nodup:=by
    unfold List.Nodup;rw[ycE_,yaN_];intro i j hi A y;simp only[List.getElem_range];exact h.inj hm i j y zba_
  have d:((List.range n).map f) ⊆ List.range G.length:=by
    intro z B;obtain⟨m,v,rfl⟩:=yas_.1 B;obtain⟨l,hl,_⟩:=h.2.2.1 m (ybY_.1 v);exact ybY_.2 (yab_.1 hl).1
  have:=x.length_le_of_subset d;rwa [yaO_,ydp_,ydp_]at this
theorem yl_ {G:List (List (Nat×Bool))} (x:∀ (n:Nat) (f:Nat->Nat) (c:Nat->Bool),Clw (gE G) n f c->f 0<G.length->G.length+1<=n):∀ n,¬ Clo (gE G) n:=by
  intro n y;obtain⟨m,⟨f,c,v⟩,_,d⟩:=xv_ y;have B:=v.short d;obtain⟨l,hl,_⟩:=v.2.2.1 0 v.1;have A:=x m f c v (yab_.1 hl).1;omega
end Go.Vs
namespace Go.Sx
open Go
section
variable {P:Program} {N:Nf} {v0:Vw} {H0:Hp} {R:Exit->Act->World->Prop} {K:List Kt} {fr:Fr} {H:Hp} {Γ:List Fct}
variable {ops:Array Oper} {l:List Oper} {d:Nat} {ty:TypeId} {ps:String} {af:Array Edge}
theorem oh_ {t:TypeId} {x:Operand} {b n:Nat} (i:Nat) {T:TypeId} {fz:Nat×Nat} {us:List Value} (m:∀ w,(isAgg t).run P w=.ok true w) (v:∀ w,(sizeOf t).run P w=.ok n w) (A:us.length=n)
    (y:Fr.ev fr x=some (.pointer (some ⟨b,0,none⟩))) (hi:H[i]? = some (b,.cells us.toArray T fz)):Yld P N fr H Γ (.load t x) ty (.agg us.toArray) :=
  cZ_ i m v y hi (by have:=rv_ us;rw[A]at this;exact this)
theorem ng_ {t:TypeId} {x y:Operand} {b n:Nat} (i:Nat) {cur:Array Value} {T:TypeId} {us:List Value} (A:∀ w,(sizeOf t).run P w=.ok n w) (C:us.length=n) (F:us.all Value.oneCell'=true)
    (B:Fr.ev fr x=some (.pointer (some ⟨b,0,none⟩))) (v:Fr.ev fr y=some (.agg us.toArray)) (hi:H[i]? = some (b,.cells cur T (0,0))) (m:cur.size=n)
    (E:Ops P R N v0 H0 ops l K fr (H.set i (b,.cells us.toArray T (0,0))) Γ) :
    Ops P R N v0 H0 ops (⟨none,.store t x y,ty,ps,af,none⟩::l) K fr H Γ:=by
  refine n_ i A B v hi (by simp[Value.cells,C]) zbn_ F ?_
  have e:(cur.toList.take 0++(Value.agg us.toArray).cells.toList++cur.toList.drop (0+n)).toArray=us.toArray:=by
    have G:cur.toList.length=n:=by simp[m]
    simp[Value.cells,yaP_ (show cur.toList.length<=n by omega)]
  rw[e];exact E
theorem vg_ {b k:Nat} {cur:Array Value} {T:TypeId} {fz:Nat×Nat} {cs:List Value} (i:Nat) (hi:H[i]? = some (b,.cells cur T fz)) (y:cur.toList.take k=cs):∀ v:Vw,v.sat H->Z_ Γ v->∀ j u,cs[j]? = some u->v.w.cell? ((⟨b,0,none⟩:Addr).add j)=some u:=by
 intro v x _ j u m;rw[de_,yba_,fm_ x hi];rw[<-y,ybg_]at m
 split at m
 .exact m
 cases m
theorem cd_ {k:Act->World->Prop} {e:TypeId} {sz n:Nat} {sv:Value} {xs:List Value} {Hr F:Hp} (E:ad_ e sz sv n xs Hr) (C:H.Perm (Hr++F))
    (h:∀ ad cap,sv=.slice ad n cap->n<=cap->cap<=maxLen->Ok N v0 H0 k fr F (L_ ad xs::Γ)):Ok N v0 H0 k fr H Γ:=by
  rcases E.2 with⟨B,y,A⟩|⟨g,cap,cur,B,y,A,O,Q,M⟩
  . subst B y A
    have J:xs=[]:=yaz_ (by simpa using E.1);refine t_ C (gS_ (Γ':=L_ none xs::Γ) (λv _ I=>⟨.inl J,I⟩) (h none 0 rfl (yae_ _) (ycg_ _)))
  . subst B y
    refine hy_ (L_ (some ⟨g,0,none⟩) xs) C (λv L G _=>.inr ⟨g,0,cur,e,(0,0),rfl,L,G,λj x m=>?_⟩) (h _ cap rfl A O);rw[<-M,ybg_]at m
    split at m
    . rw[yba_];simpa using m
    . cases m
end
end Go.Sx
namespace Go.Vs
open Go Go.Sx
theorem Con.one_cells (c:Con):c.cells.all Value.oneCell'=true:=pY_ c
theorem Ax.one_cells (x:Ax):x.cells.all Value.oneCell'=true:=by
  simp only[Ax.cells,List.all_cons,ycQ_,Con.one_cells];rfl
def cI_ (ad:Ao) (l:List Ax):Fct where
  p:=λv=>bl_ v ad (l.flatMap Ax.cells)/\∀ x∈l,x.mem v
  mono:=λv v' h hp=>⟨(L_ ad _).mono v v' h hp.1,λx hx=>x.memF.mono v v' h (hp.2 x hx)⟩
theorem xJ_ (frm:Int) (l:List Pc) (p:Pc):ins frm l p≠[]:=by
 unfold ins
 split
 .rename_i h;intro e;rw[e]at h;simp at h
 simp
theorem Ax.chainP_ne (frm:Int) (v:Str):∀ (m:List Str) (f:Str) (l:List Pc),m≠[]\/l≠[]->Ax.chainP frm v m f l≠[]
  | [],f,l,h=>by rcases h with h|h;exact absurd rfl h;exact h
  | r::t,f,l,_=>by simp only[Ax.chainP];exact Ax.chainP_ne frm v t _ _ (.inr (xJ_ _ _ _))
theorem Ax.pieces_ne (frm:Int) {x:Ax} (G:x.Good):x.pieces frm≠[]:=by
  unfold Ax.pieces
  repeat' split
  all_goals first|exact xJ_ _ _ _|skip
  rename_i m
  have:=G.chain m;exact Ax.chainP_ne _ _ _ _ _ (.inl (by intro e;rw[ydd_]at e;omega))
def cT_:List Ax->Int
  | []=>0
  | x::l=>if x.check=0 then cT_ l else x.check
def hC_:Nat->List Ax->List Pc->Option (List Pc)
  | _,[],p=>some p
  | i,x::l,p=>if 16384<(p++x.pieces i).length then none else hC_ (i+1) l (p++x.pieces i)
def aI_ (l:List Ax):List Pc×Int :=
  if 1024<l.length then ([],2) else if cT_ l≠0 then ([],cT_ l) else match hC_ 0 l [] with|some p=>(p,0)|none=>([],2)
theorem hO_:∀ (xs ys:List Ax),(∀ x∈xs,x.check=0)->cT_ (xs++ys)=cT_ ys
  | [],_,_=>rfl
  | x::xs,ys,h=>by simp only[yav_,cT_,h x zai_,yck_];exact hO_ xs ys λy m=>h y zbn_
theorem ff_:∀ {l:List Ax},(∀ x∈l,x.check=0)->cT_ l=0
  | [],_=>rfl
  | x::l,h=>by simp only[cT_,h x zai_,yck_];exact ff_ λy m=>h y zbn_
theorem rI_ {l:List Ax} {x:Ax} {i:Nat} (m:l[i]? = some x) (h:∀ y∈l.take i,y.check=0) (v:x.check≠0):cT_ l=x.check:=by
  have e:l=l.take i++x::l.drop (i+1):=by rw[<-hI_ m,ybA_]
  rw[e,hO_ _ _ h];simp only[cT_,v,yca_]
theorem fZ_ (frm:Int) {x:Ax} (G:x.Good):(x.pieces frm).length<=1000:=by
 have hl:x.kind<=3->x.left.sz<=64:=λh=>(Con.check_zero (G.left h)).2
 have v:x.kind<=4\/x.kind=8->x.right.sz<=64:=λh=>(Con.check_zero (G.right h)).2
 have I:∀ (m:Str) (A:List Str) (f:Str) (l:List Pc),(Ax.chainP frm m A f l).length<=l.length+A.length:=by
   intro m A
   induction A with
   | nil=>intro f l;simp[Ax.chainP]
   | cons r t ih =>
     intro f l;simp only[Ax.chainP];have S:=ih (if t=[] then m else f++[46]++r) (ins frm l ⟨6,[],[],[],f,r,if t=[] then m else f++[46]++r,0,0,0⟩);have M:=bC_ frm l ⟨6,[],[],[],f,r,if t=[] then m else f++[46]++r,0,0,0⟩;simp only[yai_];omega
 have L:=λ(c:Con) l=>Con.leftP_len frm _ c (yae_ _) l
 have y:=λ(c:Con) l=>Con.rightP_len frm _ c (yae_ _) l
 have O:([]:List Pc).length=0:=rfl;unfold Ax.pieces
 split
 .have:=hl zaa_;have:=v zaa_
  have B:=L x.left [];have E:=y x.right (x.left.leftP frm []);have C:=bC_ frm (x.right.rightP frm (x.left.leftP frm [])) ⟨1,x.left.atom,[],x.right.atom,[],[],[],0,0,0⟩;omega
 split
 .have:=hl zaa_;have:=v zaa_
  have B:=L x.left [];have E:=y x.right (x.left.leftP frm []);have C:=bC_ frm (x.right.rightP frm (x.left.leftP frm [])) ⟨1,x.left.atom,[],x.right.atom,[],[],[],0,0,0⟩;have J:=L x.right (ins frm (x.right.rightP frm (x.left.leftP frm [])) ⟨1,x.left.atom,[],x.right.atom,[],[],[],0,0,0⟩);have T:=y x.left (x.right.leftP frm (ins frm (x.right.rightP frm (x.left.leftP frm [])) ⟨1,x.left.atom,[],x.right.atom,[],[],[],0,0,0⟩));have Q:=bC_ frm (x.left.rightP frm (x.right.leftP frm (ins frm (x.right.rightP frm (x.left.leftP frm [])) ⟨1,x.left.atom,[],x.right.atom,[],[],[],0,0,0⟩))) ⟨1,x.right.atom,[],x.left.atom,[],[],[],0,0,0⟩;omega
 split
 .have:=hl zaa_;have:=v zaa_
  have B:=L x.left [];have E:=L x.right (x.left.leftP frm []);have C:=bC_ frm (x.right.leftP frm (x.left.leftP frm [])) ⟨2,x.left.atom,x.right.atom,[33],[],[],[],0,0,0⟩;omega
 split
 .have:=v zaa_
  have B:=y x.right [];have C:=bC_ frm (x.right.rightP frm []) ⟨4,[42],[],x.right.atom,x.role,[],[],0,0,0⟩;omega
 split
 .have:=bC_ frm [] ⟨5,[],[],[],x.roles.headD [],[],x.role,0,0,0⟩;omega
 split
 .rename_i F
  have:=G.chain F;have:=I x.role (x.roles.drop 1) (x.roles.headD []) [];simp only[ycn_]at this;omega
 split
 .have:=bC_ frm [] ⟨7,[],[],[],x.role,[],[],0,0,0⟩;omega
 split
 .have:=v zaa_
  have B:=y x.right [];have C:=bC_ frm (x.right.rightP frm []) ⟨1,[123]++x.a++[125],[],x.right.atom,[],[],[],0,0,0⟩;omega
 have:=bC_ frm [] ⟨3,[123]++x.a++[125],[],[123]++x.b++[125],x.role,[],[],0,0,0⟩;omega
def aS_ (c:UInt8):Str->List Str
  | []=>[[]]
  | b::s=>if b=c then []::aS_ c s else match aS_ c s with
    | h::t=>(b::h)::t
    | []=>[[b]]
def dv_ (c:UInt8) (s:Str):Nat:=s.countP (·==c)
theorem kI_ (c:UInt8):∀ s,aS_ c s≠[]
 | []=>by simp[aS_]
 | b::s=>by
   simp only[aS_]
   split
   . simp
   . split<;>simp
theorem dF_ (c:UInt8):∀ s,(aS_ c s).length=dv_ c s+1
 | []=>by simp[aS_,dv_]
 | b::s=>by
   have d:=dF_ c s;simp only[aS_]
   by_cases h:b=c
   . simp only[h,yck_,yai_,d,dv_,ydu_,beq_self_eq_true]
   . simp only[h,yca_]
     cases hs:aS_ c s with
     | nil=>exact absurd hs (kI_ c s)
     | cons x t =>
       rw[hs]at d;simp only[yai_]at d ⊢;simp only[dv_,ydu_,ydq_,h,yca_,ycc_]at d ⊢;exact d
theorem gs_ {c:UInt8}:∀ {s:Str},ixS c s=none->aS_ c s=[s]
 | [],_=>rfl
 | b::s,h=>by
   simp only[ixS]at h
   split at h
   . cases h
   . rename_i m
     have d:ixS c s=none:=by simpa using h
     simp only[aS_,m,yca_,gs_ d]
theorem ik_ {c:UInt8}:∀ {s:Str} {k:Nat},ixS c s=some k->aS_ c s=s.take k::aS_ c (s.drop (k+1))
 | [],k,h=>by simp[ixS]at h
 | b::s,k,h=>by
   simp only[ixS]at h
   split at h
   . rename_i d
     simp only[yam_]at h;subst h;simp[aS_,d]
   . rename_i d
     cases hx:ixS c s with
     | none=>rw[hx]at h;simp at h
     | some j =>
       rw[hx]at h;simp only[yaX_,yam_]at h;subst h;simp only[aS_,d,yca_,ik_ hx,ybd_,ybW_]
theorem vF_ {c:UInt8} {s:Str} (h:ixS c s=none):dv_ c s=0:=by
  have:=dF_ c s;rw[gs_ h]at this;simpa using this.symm
theorem oV_ {c:UInt8} {s:Str} {k:Nat} (h:ixS c s=some k):dv_ c s=dv_ c (s.drop (k+1))+1:=by
  have d:=dF_ c s;rw[ik_ h]at d;simp only[yai_,dF_]at d;omega
theorem pZ_ (c:UInt8) (s:Str):dv_ c s<=s.length:=List.countP_le_length
def aD_ (s:Str):Bool :=
  if s=[42]\/s=[33] then true
  else if 2<=s.length/\s[0]? = some 123/\s[s.length - 1]? = some 125 then aJ_ ((s.drop 1).take (s.length - 1 - 1))
  else if 3<=s.length/\s[0]? = some 60/\s[s.length - 1]? = some 62 then true
  else aJ_ s
def ck_ (s:Str):Bool:=decide ((aS_ 46 s).length<=4)&&!((aS_ 46 s).any λr=>!aJ_ r)
def bT_ (used:Bool) (s:Str) (q:Str->Bool):Bool:=(used&&q s)||(!used&&(s==[]))
def Pc.valid (p:Pc):Bool :=
  if p.kind<1\/9<p.kind\/p.frm < -1\/1024<=p.frm then false
  else if (nus p.kind).numbers=true/\(p.lo < -1099511627776\/p.hi<p.lo\/1099511627776<p.hi) then false
  else if (nus p.kind).numbers=false/\(p.lo≠0\/p.hi≠0) then false
  else ((((bT_ (nus p.kind).a p.a aD_&&bT_ (nus p.kind).b p.b aD_)&&bT_ (nus p.kind).c p.c aD_)&&bT_ (nus p.kind).r p.r (if (nus p.kind).numbers then aJ_ else ck_))&&bT_ (nus p.kind).s p.s ck_)&&bT_ (nus p.kind).t p.t ck_
structure Pc.sm (p:Pc):Prop where
  a:p.a.length<=17592186044414
  b:p.b.length<=17592186044414
  c:p.c.length<=17592186044414
  r:p.r.length<=17592186044414
  s:p.s.length<=17592186044414
  t:p.t.length<=17592186044414
def Pc.smB (p:Pc):Bool:=Nat.ble p.a.length 17592186044414&&(Nat.ble p.b.length 17592186044414&&(Nat.ble p.c.length 17592186044414&&(Nat.ble p.r.length 17592186044414&&(Nat.ble p.s.length 17592186044414&&Nat.ble p.t.length 17592186044414))))
theorem Pc.sm_all {l:List Pc} (h:l.all Pc.smB=true):∀ p∈l,p.sm:=λp d=>by
  have:=yaQ_.1 h p d;simp only[Pc.smB,yaS_,Nat.ble_eq]at this;exact⟨this.1,this.2.1,this.2.2.1,this.2.2.2.1,this.2.2.2.2.1,this.2.2.2.2.2⟩
def bq_ (l:List Pc):Int:=if 16384<l.length then 2 else if l.all Pc.valid then 0 else 1
end Go.Vs
