/-
  Lemmas for the law CanonTells (no condition).
-/
import Derived.Test.YtbffkokbdeppaaaGreatDoorQCanonTells1
import Derived.RangeFuncRecord
import Derived.Lib.Bytealg
import Derived.Below
import Derived.MapKept
import Derived.Deep.Draws
import Derived.Sort.Grow
import Derived.Lib.Join
import Derived.Lib.ItoaLen
import Derived.Laws.StructEq
set_option linter.unusedVariables false
set_option linter.unusedSimpArgs false
set_option linter.unusedSectionVars false
set_option maxHeartbeats 1000000
namespace Go.Sx
open Go
section
variable {P:Program} {N:Nat} {v0:Vw} {H0:Hp} {R:Exit->Act->World->Prop} {K:List Kt} {fr:Fr} {H F:Hp} {Γ:List Fct}
theorem eN_ {v:Vw} {l:Nat} {o o':Obj} (h:v.sat ((l,o)::F)):(⟨v.im,v.w.putObj l o',v.sl⟩:Vw).sat ((l,o')::F)/\v.to ((l,o)::F) ⟨v.im,v.w.putObj l o',v.sl⟩ ((l,o')::F):=by
  have hl:=(h.own (l,o) yav_).1;have:=eM_ (i:=0) (o':=o') (w':=v.w.putObj l o') h rfl rfl rfl rfl (yaj_ _) zaj_ (World.putObj_heap_same (yax_.1 hl).1) (λk hk=>World.putObj_heap_other hk);simpa using this
theorem kH_ {ι:Type} {c:Code} (d:ι->Fr) (Hs:ι->Hp) (h:ι->List Fct) (C:jb_ Fence.wide 0 P (Mid N v0 H0 d Hs h) N [] v0 H0 c [] fr H Γ) (y:∀ i,Fin P R N v0 H0 K (d i) (Hs i) (h i)):Run P R N v0 H0 c K fr H Γ:=by
  intro a v q A G m;refine wp_mono (wpIn_wide.1 (gP_.1 C a v q A G m)) ?_;rintro e a' w' ⟨rfl,i,x,rfl,k1,k2,B,E⟩;exact y i a' x k1 k2 B E
def uR_ {σ τ:Type} (v0:Vw) (H0:Hp) (Hj:σ->Hp) (Hx:τ->Hp) (HL:Hp) (res:σ ⊕ τ):Exit->Act->World->Prop
  | .normal,_,w=>∃ s' v,res=.inl s'/\v.w=w/\v.sat (Hj s'++HL)/\v0.to H0 v (Hj s'++HL)
  | .ret,_,w=>∃ t v,res=.inr t/\v.w=w/\v.sat (Hx t++HL)/\v0.to H0 v (Hx t++HL)
  | _,_,_=>False
def oK_ {σ τ:Type} (Gj:σ->Hp) (Gx:τ->Hp):σ ⊕ τ->Hp
  | .inl s=>Gj s
  | .inr t=>Gx t
def HLp (l D:Nat) (r:Loop):Hp:=[(l,.loop r),(D,.deferred (some []))]
theorem jY_ {σ τ ι:Type} {l D:Nat} {d:Loop} {C:Nat} {x:Value} {Hj:σ->Hp} {Hx:τ->Hp} {s:σ} {res:σ ⊕ τ} (O:ι->Fr) (L:ι->Hp)
    (hp:d.params=#[C]) (Y:d.state=.ready) (hpe:d.pending=none) (ht:Fr.sat N fr ⟨d.tmps,[]⟩) (S:Nat.blt C N=true)
    (q:∀ n v0 H0 HL,jb_ (Fence.wide.inRound l) n P (Mid N v0 H0 O (λi=>L i++HL) (λ_=>Γ)) N [] v0 H0 d.assign [] ((C,x)::fr) (Hj s++HL) Γ)
    (B:∀ n v0 H0 HL i,jb_ (Fence.wide.inRound l) n P (uR_ v0 H0 Hj Hx HL res) N [] v0 H0 d.body [] (O i) (L i++HL) Γ) :
    jJ_ P l x (Hj s++HLp l D d) Γ (λ_:Unit=>.bool res.isLeft) (λ_=>oK_ (λW=>Hj W++HLp l D d) (λt=>Hx t++HLp l D { d with state:=.done,pending:=some .ret }) res) (λ_=>[]):=by
  intro v hs hΓ
  have h:∀ (X:Hp) r,(X++HLp l D r).Perm ((l,.loop r)::(X++[(D,.deferred (some []))])):=λX r=>by
    unfold HLp;exact ybN_
  have hl:v.w.heap[l]? = some (.loop d):=((hs.perm (h _ _)).own _ yav_).1;refine⟨d.fn,_,d.assign,d.body,run_yield hl (by simp[hp]),λn=>roundIn_of_wpIn trivial ?_⟩;have U:(d.params.zip #[x]).foldl (λtmps (t,a)=>tmps.setIfInBounds t a) d.tmps=d.tmps.setIfInBounds C x:=by simp[hp]
  rw[U];have M:Fr.sat N ((C,x)::fr) ⟨d.tmps.setIfInBounds C x,[]⟩:=ht.put S;refine wpIn_mono (gP_.1 (q n v (Hj s++HLp l D d) (HLp l D d)) ⟨d.tmps.setIfInBounds C x,[]⟩ v M hs (Vw.to.refl _ _) hΓ) ?_;rintro e a1 w1 ⟨rfl,i,J,rfl,k1,k2,k3,k4⟩;have E:=k2.perm (h _ _);have T:=(E.own _ yav_).1;obtain⟨m1,m2⟩:=eN_ (o':=.loop { d with state:=.busy }) E;refine⟨_,run_beginRound T Y,?_⟩;have m3:=m1.perm (h (L i) { d with state:=.busy }).symm
  have m4:v.to (Hj s++HLp l D d) ⟨J.im,J.w.putObj l (.loop { d with state:=.busy }),J.sl⟩ (L i++HLp l D { d with state:=.busy }) :=
    (k3.trans ((m2.permL (h _ _).symm).subR λb I=>((h (L i) { d with state:=.busy }).map Prod.fst).mem_iff.1 I))
  have k4':=av_ (m2.le E) k4;refine wpIn_mono (gP_.1 (B n v (Hj s++HLp l D d) (HLp l D { d with state:=.busy }) i) a1 ⟨J.im,_,J.sl⟩ k1 m3 m4 k4') ?_;intro e2 a2 w2 G;cases e2 with
  | normal =>
    obtain⟨W,A,rfl,rfl,q1,V⟩:=G;have m:=q1.perm (h _ _);have y:=(m.own _ yav_).1;obtain⟨Q,Z⟩:=eN_ (o':=.loop d) m;have er:({ d with state:=.ready,pending:=none }:Loop)=d:=by cases d;simp_all
    refine⟨_,_,run_endRound none y,(),⟨A.im,A.w.putObj l (.loop d),A.sl⟩,rfl,?_,Q.perm (h _ _).symm,trivial,V.trans ((Z.permL (h _ _).symm).subR λb I=>((h (Hj W) d).map Prod.fst).mem_iff.1 I)⟩;simp[er]
  | ret =>
    obtain⟨t,A,rfl,rfl,q1,V⟩:=G;have m:=q1.perm (h _ _);have y:=(m.own _ yav_).1;obtain⟨Q,Z⟩:=eN_ (o':=.loop { d with state:=.done,pending:=some .ret }) m
    exact⟨_,_,run_endRound (some .ret) y,(),⟨A.im,A.w.putObj l (.loop { d with state:=.done,pending:=some .ret }),A.sl⟩,rfl,rfl,Q.perm (h _ _).symm,trivial,
      V.trans ((Z.permL (h _ _).symm).subR λb I=>((h (Hx t) { d with state:=.done,pending:=some .ret }).map Prod.fst).mem_iff.1 I)⟩
  | exit id=>exact G.elim
  | goto t=>exact G.elim
  | panic c=>exact G.elim
  | outgrown=>exact G.elim
theorem bt_ {n:Nat}:∀ (K:List Kt) (e:Exit) (a:Act) (w:World),eg_ Fence.wide n P R K e a w->post P R K e a w
 | [],_,_,_,h=>h
 | .seq c::K,.normal,a,w,h=>wp_mono (wpIn_wide.1 h) (λe a w d=>bt_ K e a w d)
 | .seq _::K,.exit _,a,w,h=>bt_ K _ a w h
 | .seq _::K,.goto _,a,w,h=>bt_ K _ a w h
 | .seq _::K,.ret,a,w,h=>bt_ K _ a w h
 | .seq _::K,.panic _,a,w,h=>bt_ K _ a w h
 | .seq _::K,.outgrown,a,w,h=>bt_ K _ a w h
 | .inv J::_,.normal,_,_,h=>h
 | .inv _::K,.exit _,a,w,h=>bt_ K _ a w h
 | .inv _::K,.goto _,a,w,h=>bt_ K _ a w h
 | .inv _::K,.ret,a,w,h=>bt_ K _ a w h
 | .inv _::K,.panic _,a,w,h=>bt_ K _ a w h
 | .inv _::K,.outgrown,a,w,h=>bt_ K _ a w h
 | .blk id::K,.exit id',a,w,h=>by
   simp only[eg_,post]at h ⊢
   split
   . rename_i e;rw[yao_ e]at h;exact bt_ K _ a w h
   . rename_i e;rw[yag_ e]at h;exact bt_ K _ a w h
 | .blk _::K,.normal,a,w,h=>bt_ K _ a w h
 | .blk _::K,.goto _,a,w,h=>bt_ K _ a w h
 | .blk _::K,.ret,a,w,h=>bt_ K _ a w h
 | .blk _::K,.panic _,a,w,h=>bt_ K _ a w h
 | .blk _::K,.outgrown,a,w,h=>bt_ K _ a w h
def pn_ (D:Nat):List Deferred:=[{ target:=.collected D,args:=#[] }]
theorem pI_ {σ τ α:Type} {g:Operand} {pm:Nat} {assign body:Code} {Z:FuncId} {caps:List Value} {Hj:σ->Hp} {Hx:τ->Hp} {Hc:Hp} {Γx:α->List Fct} {Γi:List Fct} {xv:α->Value} {good:α->Prop} {stp:α->σ->σ ⊕ τ}
    (s0:σ) (res:σ ⊕ τ) (hg:Fr.ev fr g=some (.func (.func Z) #[] caps.toArray)) (hH:H.Perm (Hc++Hj s0)) (hΓi:∀ v,v.sat H->af_ Γ v->af_ Γi v)
    (B:∀ l D (d:Loop),d.params=#[pm]->d.state=.ready->d.pending=none->Fr.sat N fr ⟨d.tmps,[]⟩->d.assign=assign->d.body=body->∀ s x,good x->
      jJ_ P l (xv x) (Hj s++HLp l D d) (Γx x) (λ_:Unit=>.bool (stp x s).isLeft) (λ_=>oK_ (λs'=>Hj s'++HLp l D d) (λt=>Hx t++HLp l D { d with state:=.done,pending:=some .ret }) (stp x s)) (λ_=>[]))
    (hit:∀ l (Gj:σ->Hp) (Gx:τ->Hp),(∀ s x,good x->jJ_ P l (xv x) (Gj s) (Γx x) (λ_:Unit=>.bool (stp x s).isLeft) (λ_=>oK_ Gj Gx (stp x s)) (λ_=>[]))->
      Tri P Z (.func (.yield l) #[] #[]::caps).toArray (Hc++Gj s0) Γi (λ_:Unit=>.tuple #[]) (λ_=>Hc++oK_ Gj Gx res) (λ_=>[]))
    (E:∀ s',res=.inl s'->∀ D l r,uS_ Fence.wide 0 P R N (pn_ D) v0 H0 K fr (Hc++Hj s'++HLp l D r) Γ)
    (M:∀ t,res=.inr t->∀ D l r,OkD N (pn_ D) v0 H0 (R .ret) fr (Hc++Hx t++HLp l D r) Γ) :
    Run P R N v0 H0 (.rangeFunc g #[pm] assign body) K fr H Γ:=by
  intro a v G V h3 h4;refine wpIn_wide (n:=0) |>.1 (wpIn_mono (Q:=eg_ Fence.wide 0 P R K) (wpIn_rangeFunc λfn _=>?_) λe a w hq=>bt_ K e a w hq)
  obtain⟨a1,a2⟩:=fO_ (w':=v.w.alloc (.deferred (some []))) (o:=.deferred (some [])) V rfl rfl rfl rfl (yaj_ _);obtain⟨d,m⟩:∃ d:Loop,d={ state:=.ready,pending:=none,fn,tmps:=a.tmps,params:=#[pm],assign,body,defers:=v.w.heap.size }:=⟨_,rfl⟩;obtain⟨b1,b2⟩:=fO_ (w':=(v.w.alloc (.deferred (some []))).alloc (.loop d)) (o:=.loop d) a1 rfl rfl rfl rfl (yaj_ _);have J:(v.w.alloc (Obj.deferred (some []))).heap.size=v.w.heap.size+1:=by simp
  have b1':(⟨v.im,(v.w.alloc (.deferred (some []))).alloc (.loop d),v.sl⟩:Vw).sat ((v.w.heap.size+1,.loop d)::(v.w.heap.size,.deferred (some []))::H):=J▸b1;have O:v.to H ⟨v.im,(v.w.alloc (.deferred (some []))).alloc (.loop d),v.sl⟩ ((v.w.heap.size+1,.loop d)::(v.w.heap.size,.deferred (some []))::H):=a2.trans (J▸b2)
  have A:((v.w.heap.size+1,Obj.loop d)::(v.w.heap.size,.deferred (some []))::H).Perm (Hc++(Hj s0++HLp (v.w.heap.size+1) v.w.heap.size d)):=by
    rw[<-yar_];exact (yaB_ (l₁:=HLp (v.w.heap.size+1) v.w.heap.size d) (l₂:=H)).trans (hH.append_right _)
  have hT:=hit (v.w.heap.size+1) (λs=>Hj s++HLp (v.w.heap.size+1) v.w.heap.size d) (λt=>Hx t++HLp (v.w.heap.size+1) v.w.heap.size { d with state:=.done,pending:=some .ret })
    (B _ _ d zbV_ zbV_ zbV_ (by rw[m];exact⟨G.size,rfl,G.val⟩) zbV_ zbV_)
  have a0:=av_ (O.le V) (hΓi v V h4);have he:=G.ev hg;refine⟨v.w.heap.size+1,pn_ v.w.heap.size,(v.w.alloc (.deferred (some []))).alloc (.loop d),⟨.fn (.func Z) caps.toArray,#[.func (.yield (v.w.heap.size+1)) #[] #[]]⟩,(v.w.alloc (.deferred (some []))).alloc (.loop d),Z,(.func (.yield (v.w.heap.size+1)) #[] #[]::caps).toArray,_,?_,?_,λ_ _=>trivial,?_,λh=>(by cases h),callsIn_wide.2 ((hT.run ⟨v.im,_,v.sl⟩ (b1'.perm A) a0).mono ?_)⟩
  . rw[m];exact run_enterLoop_outer _ _ _ _ _
  . simp only[resolve,rangeCall,ybt_,yay_,ybz_,he,Deferred.ofValue]
    rfl
  . have:=hT.callable (.func (.yield (v.w.heap.size+1)) #[] #[]::caps).toArray ((v.w.alloc (.deferred (some []))).alloc (.loop d))
    simpa [invoke] using this
  . rintro e w' ⟨_,W,rfl,rfl,g1,g2,g3⟩
    have C:=O.trans (g3.permL A.symm);have I:=av_ (C.le V) h4;have T:∀ U,SatD N U fr { a with defers:=U++a.defers }:=λU=>⟨⟨G.size,rfl,G.val⟩,by show U++a.defers=U;rw[G.defers];simp⟩
    have y:∀ (X Y:Hp) r,(Y++(X++HLp (v.w.heap.size+1) v.w.heap.size r)).Perm ((v.w.heap.size+1,.loop r)::(Y++X++[(v.w.heap.size,.deferred (some []))])):=λX Y r=>by
      unfold HLp;rw[<-yar_];exact ybN_
    cases res with
    | inl s' =>
      have q:=g1.perm (y (Hj s') Hc d);have hl:=(q.own _ yav_).1;obtain⟨z1,S⟩:=eN_ (o':=.loop { d with state:=.exhausted }) q
      have L:((v.w.heap.size+1,Obj.loop { d with state:=.exhausted })::(Hc++Hj s'++[(v.w.heap.size,.deferred (some []))])).Perm (Hc++Hj s'++HLp (v.w.heap.size+1) v.w.heap.size { d with state:=.exhausted }):=by
        have:=(y (Hj s') Hc { d with state:=.exhausted }).symm;rw[<-yar_]at this;exact this
      refine⟨d.pending,_,run_endLoop hl (by rw[m];simp),?_⟩;have hpn:d.pending=none:=by rw[m]
      split
      case h_2=>rename_i c hc;rw[hpn]at hc;cases hc
      exact E s' rfl _ _ _ _ ⟨W.im,_,W.sl⟩ (T _) (z1.perm L) (h3.trans (C.trans ((S.permL (y _ _ _).symm).subR λb hb=>(L.map Prod.fst).mem_iff.2 hb))) (av_ (S.le q) I)
    | inr t =>
      have q:=g1.perm (y (Hx t) Hc _);have hl:=(q.own _ yav_).1;obtain⟨z1,S⟩:=eN_ (o':=.loop { d with state:=.exhausted,pending:=some .ret }) q
      have L:((v.w.heap.size+1,Obj.loop { d with state:=.exhausted,pending:=some .ret })::(Hc++Hx t++[(v.w.heap.size,.deferred (some []))])).Perm (Hc++Hx t++HLp (v.w.heap.size+1) v.w.heap.size { d with state:=.exhausted,pending:=some .ret }):=by
        have:=(y (Hx t) Hc { d with state:=.exhausted,pending:=some .ret }).symm;rw[<-yar_]at this;exact this
      refine⟨some .ret,_,run_endLoop hl zaj_,?_⟩;refine wpIn_ret (pO_ K _ _ (M t rfl _ _ _ _ ⟨W.im,_,W.sl⟩ (T _) (z1.perm L) (h3.trans (C.trans ((S.permL (y _ _ _).symm).subR λb hb=>(L.map Prod.fst).mem_iff.2 hb))) (av_ (S.le q) I)))
theorem fN_ {f:FuncId} {fn:Func} {c:Code} {args:List Value} {ι:Type} {d:ι->Value} {H':ι->Hp} {Γ':ι->List Fct}
    (q : P.funcs[f]? = some fn) (y : fn.body = some c) (E : (fn.name == "runtime.NumGoroutine") = false) (I : fn.ntmps = N) (hl : Nat.ble args.length N = true)
    (h:∀ v0,Run P (bodyPostM Fence.wide 0 P fn (ln_ v0 H d H' Γ')) N v0 H c [] (lF_ 0 args) H Γ):Tri P f args.toArray H Γ d H' Γ':=by
  refine⟨callable q y E,λv G A=>callsIn_wide.1 (callsIn_of_wp_marks (n:=0) q y trivial ?_)⟩;have B:args.length<=N:=yca_ hl;have:=h v ⟨args.toArray++Array.replicate (fn.ntmps - args.toArray.size) undef,[]⟩ v ⟨by simp[I];omega,rfl,λt x C=>?_⟩ G (Vw.to.refl _ _) A
  . exact wpIn_wide.2 this
  . obtain⟨_,m⟩:=ko_ args 0 t x C
    simp only[ydM_]at m;have e:=(yac_.1 m).1;rw[ybA_ zbc_];simpa using m
theorem retM {fn:Func} {ι:Type} {G:Hp} {ret:ι->Value} {H':ι->Hp} {Γ':ι->List Fct} (x:ι) (B:∀ (a:Act) (v:Vw),Fr.sat N fr a->v.sat H->af_ Γ v->(results fn a.tmps).run P v.w=.ok (ret x) v.w) (e:H.Perm (H' x++G))
    (q:∀ v,v.sat H->af_ Γ v->af_ (Γ' x) v):Ok N v0 H0 (bodyPostM Fence.wide 0 P fn (ln_ v0 H0 ret H' Γ') .ret) fr H Γ:=by
  intro a v m d y h;show LeavesInM Fence.wide 0 P fn a.tmps _ a.defers .returning v.w
  rw[m.defers]
  exact⟨ret x,B a v m d h,x,v,rfl,rfl,(d.perm e).sub,q v d h,y.subR λb A=>by
    have:b∈(H' x++G).map Prod.fst:=by rw[yat_];exact yam_ _ A
    exact (e.map Prod.fst).mem_iff.2 this⟩
theorem yq_ {fn:Func} {ι:Type} {D:Nat} {G:Hp} {ret:ι->Value} {H':ι->Hp} {Γ':ι->List Fct} (x:ι) (L:∀ (a:Act) (v:Vw),Fr.sat N fr a->v.sat G->(results fn a.tmps).run P v.w=.ok (ret x) v.w) (m:H.Perm ((D,.deferred (some []))::(G)))
    (M:∃ e,G.Perm (H' x++e)) (C:Γ' x=[]):OkD N (pn_ D) v0 H0 (bodyPostM Fence.wide 0 P fn (ln_ v0 H0 ret H' Γ') .ret) fr H Γ:=by
  intro a v A E I Q;show LeavesInM Fence.wide 0 P fn a.tmps _ a.defers .returning v.w
  rw[A.defers];have q:=E.perm m;have hl:=(q.own _ yav_).1;obtain⟨h,O⟩:=eN_ (o':=.deferred none) q;have y:(⟨v.im,v.w.putObj D (.deferred none),v.sl⟩:Vw).sat G:=⟨λp B=>h.own p (yaE_ _ B),by have:=h.nodup;rw[yay_,ybG_]at this;exact this.2,h.lt⟩;obtain⟨e,d⟩:=M;refine⟨by simp,.inl ⟨D,_,rfl,run_takeDeferred hl,ret x,?_,x,⟨v.im,_,v.sl⟩,rfl,rfl,(y.perm d).sub,by rw[C];trivial,?_⟩⟩
  . exact L ⟨a.tmps,[]⟩ ⟨v.im,_,v.sl⟩ A.sat y
  . refine (I.trans (O.permL m.symm)).subR λb J=>?_
    have:b∈(H' x++e).map Prod.fst:=by rw[yat_];exact yam_ _ J
    rw[yay_];exact yaE_ _ ((d.map Prod.fst).mem_iff.2 this)
end
end Go.Sx
namespace Go.Vs
abbrev Str:=List UInt8
def et_ (c:UInt8):Bool:=(decide (97<=c.toNat)&&decide (c.toNat<=122))||(decide (65<=c.toNat)&&decide (c.toNat<=90))
def fH_ (c:UInt8):Bool:=et_ c||decide (c.toNat=95)||(decide (48<=c.toNat)&&decide (c.toNat<=57))
def mE_ (s:Str):Bool:=s.all fH_
def kws:List Str:=[[97,110,100],[115,111,109,101],[105,110],[116,111],[110,111,116,104,105,110,103],[101,118,101,114,121,116,104,105,110,103],[111,110,101],[111,102],[111,112,101,110],[112,114,105,118,97,116,101],[115,117,98],[115,97,109,101],[100,105,115,106,111,105,110,116],[100,111,109,97,105,110],[114,111,108,101],[99,104,97,105,110],[114,101,102,108,101,120,105,118,101],[116,121,112,101],[108,105,110,107],[115,101,108,101,99,116],[119,104,101,114,101],[111,114]]
def bJ_ (s:Str):Bool:=kws.contains s
def gC_ (s:Str):Bool:=!(s==[])&&et_ (s.headD 0)&&mE_ s&&!bJ_ s
def cT_ (s:Str):Bool:=decide (2<=s.length)&&decide (s.length<=24)&&decide ((s.headD 0).toNat=95)&&mE_ s
def ixS (c:UInt8):Str->Option Nat
  | []=>none
  | b::s=>if b=c then some 0 else (ixS c s).map (·+1)
def bj_ (s:Str):Bool:=decide (s.length<=24)&&match ixS 58 s with
  | none=>gC_ s
  | some k=>gC_ (s.take k)&&gC_ (s.drop (k+1))
def aV_ (s:Str):Bool:=bj_ s||cT_ s
theorem no_ (c:UInt8):∀ s:Str,Lib.indexByte s c=match ixS c s with|none=>-1|some k=>(k:Int)
 | []=>rfl
 | b::s=>by
   have d:=no_ c s;simp only[Lib.indexByte,ixS]
   by_cases h:b=c
   . simp[h]
   . simp only[ycB_,h,yce_]
     cases hx:ixS c s with
     | none=>rw[hx]at d;simp[d]
     | some k=>rw[hx]at d;simp only[d];rw[yag_ zaa_];simp
theorem un_ {c:UInt8}:∀ {s:Str} {k:Nat},ixS c s=some k->k<s.length
 | [],k,h=>by simp[ixS]at h
 | b::s,k,h=>by
   simp only[ixS]at h
   split at h
   . simp at h;subst h;simp
   . cases hx:ixS c s with
     | none=>rw[hx]at h;simp at h
     | some j=>rw[hx]at h;simp at h;subst h;have:=un_ hx;simp;omega
theorem gN_ (p:UInt8->Bool) (s:Str) (k:Nat) (c:UInt8) (d:s[k]? = some c) (h:(s.take k).all p=true) (e:p c=true):(s.take (k+1)).all p=true:=by
  rw[yaz_,d];simp_all
theorem kD_ (p:UInt8->Bool) (s:Str) (k:Nat) (c:UInt8) (e:s[k]? = some c) (d:p c=false):s.all p=false:=by
  rw[ydd_];exact⟨c,yad_ e,by simp[d]⟩
theorem qF_ (p:UInt8->Bool) (s:Str) (k:Nat) (hk:s.length<=k) (h:(s.take k).all p=true):s.all p=true:=by
  rwa [yab_ hk]at h
theorem yN_ {m:Str} {r:List Value} {k:Nat} {c:UInt8} (h:m[k]? = some c):Sx.lg (Sx.bytesV m++r) k=some (.int .u8 (c.toNat:Int)):=by
  have hk:k<m.length:=(yac_.1 h).1;rw[Sx.lg_eq,ybb_ (by simpa [Sx.bytesV] using hk)];simp[Sx.bytesV,h]
end Go.Vs
namespace Go.Vs
open Go Go.Sx
inductive Con where
  | mk (kind:Int) (name:Str) (lo hi:Int) (ad:Ao) (cap:Nat) (parts:List Con)
namespace Con
def kind:Con->Int|mk k _ _ _ _ _ _=>k
def name:Con->Str|mk _ n _ _ _ _ _=>n
def lo:Con->Int|mk _ _ l _ _ _ _=>l
def hi:Con->Int|mk _ _ _ h _ _ _=>h
def ad:Con->Ao|mk _ _ _ _ a _ _=>a
def cap:Con->Nat|mk _ _ _ _ _ c _=>c
def parts:Con->List Con|mk _ _ _ _ _ _ p=>p
def cells (c:Con):List Value:=[.int .i64 c.kind,str c.name,.int .i64 c.lo,.int .i64 c.hi,.slice c.ad c.parts.length c.cap]
def val (c:Con):Value:=.agg c.cells.toArray
theorem cells_len (c:Con):c.cells.length=5:=rfl
def sz:Con->Nat
  | mk _ _ _ _ _ _ ps=>1+szs ps
where szs:List Con->Nat
  | []=>0
  | p::ps=>sz p+szs ps
theorem sz_pos (c:Con):0<c.sz:=by cases c;simp[sz];omega
theorem sz_mem {p:Con}:∀ {ps:List Con},p∈ps->p.sz<=sz.szs ps
 | q::ps,h=>by
   rcases yan_.1 h with rfl|h
   . simp[sz.szs]
   . have:=sz_mem h;simp[sz.szs];omega
theorem sz_part {c p:Con} (h:p∈c.parts):p.sz<c.sz:=by
  cases c with
  | mk k n l hi a cp ps=>have:=sz_mem (ps:=ps) h;simp only[sz];omega
def mem:Con->Vw->Prop
  | mk _ _ _ _ a _ ps,v=>bG_ v a (ps.flatMap cells)/\mems ps v
where mems:List Con->Vw->Prop
  | [],_=>True
  | p::ps,v=>mem p v/\mems ps v
theorem mems_iff {v:Vw}:∀ {ps:List Con},mem.mems ps v↔∀ p∈ps,p.mem v
  | []=>by simp[mem.mems]
  | p::ps=>by simp[mem.mems,mems_iff (ps:=ps)]
theorem mem_iff (c:Con) (v:Vw):c.mem v↔bG_ v c.ad (c.parts.flatMap cells)/\∀ p∈c.parts,p.mem v:=by
  cases c with
  | mk k n l hi a cp ps=>simp only[mem,mems_iff,ad,parts]
theorem mem_mono:∀ (n:Nat) (c:Con),c.sz<=n->∀ v e,v.le e->c.mem v->c.mem e
  | 0,c,h=>by have:=c.sz_pos;omega
  | n+1,c,h=>λv e hl hm=>by
    rw[mem_iff]at hm ⊢;exact⟨(ac_ c.ad (c.parts.flatMap cells)).mono v e hl hm.1,λp m=>mem_mono n p (by have:=sz_part m;omega) v e hl (hm.2 p m)⟩
def memF (c:Con):Fct:=⟨c.mem,mem_mono c.sz c (yaj_ _)⟩
def ok:Con->Prop
  | mk k n l h _ c ps=>-9223372036854775808<=k/\k<=9223372036854775807/\n.length<=140737488351232/\-9223372036854775808<=l/\l<=9223372036854775807/\-9223372036854775808<=h/\h<=9223372036854775807/\ps.length<=c/\ps.length<=2199023255488/\oks ps
where oks:List Con->Prop
  | []=>True
  | p::ps=>ok p/\oks ps
theorem oks_iff:∀ {ps:List Con},ok.oks ps↔∀ p∈ps,p.ok
  | []=>by simp[ok.oks]
  | p::ps=>by simp[ok.oks,oks_iff (ps:=ps)]
theorem ok_part {c p:Con} (h:c.ok) (e:p∈c.parts):p.ok:=by
  cases c with
  | mk k n l hi a cp ps=>exact oks_iff.1 h.2.2.2.2.2.2.2.2.2 p e
theorem ok_name {c:Con} (h:c.ok):c.name.length<=140737488351232:=by cases c;exact h.2.2.1
theorem ok_len {c:Con} (h:c.ok):c.parts.length<=c.cap/\c.parts.length<=2199023255488:=by cases c;exact⟨h.2.2.2.2.2.2.2.1,h.2.2.2.2.2.2.2.2.1⟩
theorem part_cells {c p:Con} {i:Nat} (m:c.parts[i]? = some p):∀ j y,p.cells[j]? = some y->(c.parts.flatMap cells)[i*5+j]? = some y:=by
  intro j y h
  have e:j<5:=by
    have:=(yac_.1 h).1;rwa [cells_len]at this
  rw[kq_ cells 5 cells_len c.parts i j p m e];exact h
theorem row_addr {v:Vw} {c p:Con} {i:Nat} (h:c.mem v) (q:c.parts[i]? = some p):∃ b off,c.ad=some ⟨b,off,none⟩:=by
  have:=((mem_iff c v).1 h).1;refine this.addr λe=>?_;have m:=part_cells q 0 _ (yaa_ (by rw[cells_len];omega));rw[e]at m;simp at m
theorem mem_part {v:Vw} {c p:Con} (h:c.mem v) (e:p∈c.parts):p.mem v:=((mem_iff c v).1 h).2 p e
def fits:Con->Nat->Nat->Bool×Nat
  | mk _ _ _ _ _ _ ps,d,n=>if 8<d||64<n+1 then (false,n+1) else fitss ps (d+1) (n+1)
where fitss:List Con->Nat->Nat->Bool×Nat
  | [],_,n=>(true,n)
  | p::ps,d,n=>match fits p d n with
    | (true,m)=>fitss ps d m
    | (false,m)=>(false,m)
theorem fits_eq (c:Con) (d n:Nat):c.fits d n=if 8<d||64<n+1 then (false,n+1) else fits.fitss c.parts (d+1) (n+1):=by cases c;rfl
end Con
end Go.Vs
namespace Go.Sx
section
variable {P:Program} {N:Nf} {v0:Vw} {H0:Hp} {R:Exit->Act->World->Prop} {K:List Kt} {fr:Fr} {H:Hp} {Γ:List Fct}
variable {ops:Array Oper} {l:List Oper} {d:Nat} {ty:TypeId} {ps:String} {af:Array Edge}
open Go Go.Vs
theorem sO_ (c:List Value):qW_ c 0 c.length=some c:=by
  have m:∀ (n off:Nat) (c:List Value),off+n=c.length->qW_ c off n=some (c.drop off):=by
    intro n
    induction n with
    | zero=>intro off c h;simp only[qW_];rw[yaT_ zaa_]
    | succ n ih =>
      intro off c h;have e:off<c.length:=by omega
      simp only[qW_,lg_eq,yaa_ e,ih (off+1) c zaa_];rw[ybi_ e]
  have:=m c.length 0 c zaa_;simpa using this
theorem cR_ {t:TypeId} {x:Operand} {b:Nat} (i:Nat) {T:TypeId} {fz:Nat×Nat} {c:Con} (e:∀ w,(isAgg t).run P w=.ok true w) (h:∀ w,(sizeOf t).run P w=.ok 5 w)
    (m:Fr.ev fr x=some (.pointer (some ⟨b,0,none⟩))) (hi:H[i]? = some (b,.cells c.cells.toArray T fz)):Yld P N fr H Γ (.load t x) ty c.val :=
  cQ_ i e h m hi (by have:=sO_ c.cells;rw[c.cells_len]at this;exact this)
theorem rA_ (c:Con):c.cells.all Value.oneCell'=true:=rfl
theorem fk_ {t:TypeId} {x y:Operand} {b:Nat} (i:Nat) {cur:Array Value} {T:TypeId} {c:Con} (q:∀ w,(sizeOf t).run P w=.ok 5 w)
    (v:Fr.ev fr x=some (.pointer (some ⟨b,0,none⟩))) (m:Fr.ev fr y=some c.val) (hi:H[i]? = some (b,.cells cur T (0,0))) (h:cur.size=5)
    (hk:Ops P R N v0 H0 ops l K fr (H.set i (b,.cells c.cells.toArray T (0,0))) Γ) :
    Ops P R N v0 H0 ops (⟨none,.store t x y,ty,ps,af,none⟩::l) K fr H Γ:=by
  refine n_ i q v m hi (by simp[Con.val,Value.cells,c.cells_len]) (by simp[h]) (rA_ c) ?_
  have e:(cur.toList.take 0++c.val.cells.toList++cur.toList.drop (0+5)).toArray=c.cells.toArray:=by
    have A:cur.toList.length=5:=by simp[h]
    simp[Con.val,Value.cells,yaT_ (show cur.toList.length<=5 by omega)]
  rw[e];exact hk
end
end Go.Sx
namespace Go.Vs.Con
theorem hP_:∀ (xs ys:List Con) (d n m:Nat),fits.fitss xs d n=(true,m)->fits.fitss (xs++ys) d n=fits.fitss ys d m
 | [],ys,d,n,m,h=>by simp only[fits.fitss,ybV_]at h;obtain⟨_,rfl⟩:=h;rfl
 | x::xs,ys,d,n,m,h=>by
   simp only[fits.fitss,yaJ_]at h ⊢
   split at h
   . rename_i q e;exact hP_ xs ys d q m h
   . cases h
theorem rn_:∀ (k:Nat) (c:Con),c.sz<=k->∀ d n,(c.fits d n).1=true->(c.fits d n).2<=64
 | 0,c,h=>by have:=c.sz_pos;omega
 | k+1,c,h=>λd n e=>by
   rw[fits_eq]at e ⊢
   split at e
   . cases e
   . rename_i y
     rw[yag_ y];simp only[yby_,yaI_,ydH_,Nat.not_lt]at y
     have x:∀ (ps:List Con),(∀ p∈ps,p.sz<=k)->∀ n,n<=64->(fits.fitss ps (d+1) n).1=true->(fits.fitss ps (d+1) n).2<=64:=by
       intro ps
       induction ps with
       | nil=>intro _ n A _;simpa [fits.fitss] using A
       | cons p ps ih =>
         intro v n A e;simp only[fits.fitss]at e ⊢
         split at e
         . rename_i m hm
           have:=rn_ k p (v p zaj_) (d+1) n (by rw[hm]);rw[hm]at this;exact ih (λq B=>v q (by simp[B])) m this e
         . cases e
     exact x c.parts (λp v=>by have:=sz_part v;omega) (n+1) zaa_ e
theorem take_snoc {ps:List Con} {p:Con} {i:Nat} (e:ps[i]? = some p):ps.take (i+1)=ps.take i++[p]:=by rw[yaz_,e];rfl
theorem fitss_step {ps:List Con} {p:Con} {i d n m:Nat} (v:ps[i]? = some p) (h:fits.fitss (ps.take i) d n=(true,m)) (e:(p.fits d m).1=true) :
    fits.fitss (ps.take (i+1)) d n=(true,(p.fits d m).2)/\(p.fits d m).2<=64:=by
  refine⟨?_,rn_ _ p (yaj_ _) d m e⟩;rw[take_snoc v,hP_ _ _ _ _ _ h];simp only[fits.fitss];rcases hq:p.fits d m with⟨b,q⟩
  rw[hq]at e;simp only at e;subst e;rfl
theorem fits_no {k lo hi:Int} {nm:Str} {ad:Ao} {cap:Nat} {ps:List Con} {p:Con} {i d n m:Nat} (y:¬ (8<d\/64<n+1)) (v:ps[i]? = some p) (h:fits.fitss (ps.take i) (d+1) (n+1)=(true,m)) (x:(p.fits (d+1) m).1=false) :
    (mk k nm lo hi ad cap ps).fits d n=(false,(p.fits (d+1) m).2):=by
  rw[fits_eq,yag_ (by simpa using y)]
  have e:ps=ps.take i++p::ps.drop (i+1):=by
    have hi:=(yac_.1 v).1;rw[yaa_ hi]at v;simp only[yak_]at v;subst v;rw[List.getElem_cons_drop hi,ybK_]
  show fits.fitss ps (d+1) (n+1)=_
  rw[e,hP_ _ _ _ _ _ h];simp only[fits.fitss];rcases hq:p.fits (d+1) m with⟨b,q⟩
  rw[hq]at x;simp only at x;subst x;rfl
theorem fits_yes {k lo q:Int} {nm:Str} {ad:Ao} {cap:Nat} {ps:List Con} {i d n m:Nat} (e:¬ (8<d\/64<n+1)) (hi:ps.length<=i) (h:fits.fitss (ps.take i) (d+1) (n+1)=(true,m)) :
    (mk k nm lo q ad cap ps).fits d n=(true,m):=by
  rw[fits_eq,yag_ zbc_];rw[yab_ hi]at h;exact h
end Go.Vs.Con
namespace Go.Vs
open Go Go.Sx
def en_:List (Int×Int×Int×Bool):=[(0,0,0,false),(0,0,0,false),(0,0,0,false),(1,0,0,false),(2,0,0,false),(0,2,8,false),(1,1,1,false),(1,0,0,true)]
def vq_ (x:Int×Int×Int×Bool):List Value:=[.int .i64 x.1,.int .i64 x.2.1,.int .i64 x.2.2.1,.bool x.2.2.2]
theorem lA_ (x:Int×Int×Int×Bool):(vq_ x).length=4:=rfl
def nd (k:Int):Int×Int×Int×Bool:=(en_[k.toNat]?).getD (0,0,0,false)
namespace Con
def fieldErr (c:Con):Int :=
  if c.kind<1\/7<c.kind then 21
  else if (c.parts.length:Int)<(nd c.kind).2.1\/(nd c.kind).2.2.1<(c.parts.length:Int)\/((nd c.kind).1=0/\c.name≠[]) then 21
  else if (nd c.kind).2.2.2=true/\(c.lo < -1099511627776\/c.hi<c.lo\/1099511627776<c.hi) then 21
  else if (nd c.kind).2.2.2=false/\(c.lo≠0\/c.hi≠0) then 21
  else if (nd c.kind).1=0\/bj_ c.name=true\/((nd c.kind).1=2/\cT_ c.name=true) then 0
  else 20
def firstErr:Con->Int
  | c@(mk _ _ _ _ _ _ ps)=>if c.fieldErr=0 then firstErrs ps else c.fieldErr
where firstErrs:List Con->Int
  | []=>0
  | p::ps=>if firstErr p=0 then firstErrs ps else firstErr p
theorem mP_ (c:Con):c.firstErr=if c.fieldErr=0 then firstErr.firstErrs c.parts else c.fieldErr:=by cases c;simp only[firstErr,parts]
def check (c:Con):Int:=if (c.fits 0 0).1 then c.firstErr else 21
end Con
end Go.Vs
namespace Go.Sx
open Go Go.Vs
section
variable {P:Program} {N:Nat} {v0:Vw} {H0:Hp} {R:Exit->Act->World->Prop} {K:List Kt} {fr:Fr} {H:Hp} {Γ:List Fct}
theorem ret0 {fn:Func} {ι:Type} {F:Hp} {ret:ι->Value} {H':ι->Hp} {Γ':ι->List Fct} (q:fn.results=#[]) (x:ι) (C:.tuple #[]=ret x) (m:H.Perm (H' x++F))
    (e:∀ v,v.sat H->af_ Γ v->af_ (Γ' x) v):Ok N v0 H0 (bodyPost P fn (ln_ v0 H0 ret H' Γ') .ret) fr H Γ :=
  du_ m e λa v A h B y=>⟨A.defers,ret x,by rw[results_none q,C],x,v,rfl,rfl,h,y,B⟩
theorem co_ {fn:Func} {ι:Type} {F:Hp} {e:ι->Value} {H':ι->Hp} {Γ':ι->List Fct} (q:fn.results=#[]) (x:ι) (y:.tuple #[]=e x) (m:H.Perm (H' x++F))
    (h:∀ v,v.sat H->af_ Γ v->af_ (Γ' x) v):Ok N v0 H0 (bodyPost P fn (ln_ v0 H0 e H' Γ') .normal) fr H Γ :=
  ret0 q x y m h
theorem od_ {fn:Func} {t b:Nat} {ty T:TypeId} {u:Value} (i:Nat) (q:fn.results=#[.cell t ty]) (h:∀ w,(isAgg ty).run P w=.ok false w) (A:Fr.get fr t=some (.pointer (some ⟨b,0,none⟩))) (hi:H[i]? = some (b,.cells #[u] T (0,0))) (a:Act) (v:Vw) (x:Fr.sat N fr a) (m:v.sat H) :
    (results fn a.tmps).run P v.w=.ok u v.w:=by
  have e:=x.val t _ A;have y:v.w.cell? ⟨b,0,none⟩=some u:=by rw[gi_ m hi];rfl
  have hl:=cI_ (t:=ty) (w:=v.w) h y;simp[results,q,e,asAddr,hl]
variable {F:Fence} {n:Nat} {D:List Deferred} {ops:Array Oper} {l:List Oper} {d:Nat} {ty:TypeId} {ps:String} {af:Array Edge}
theorem cL_ {k:Act->World->Prop} {H' F:Hp} {Γ':List Fct} (m:H.Perm (H'++F)) (q:∀ v,v.sat H->af_ Γ v->af_ Γ' v) (h:OkD N D v0 H0 k fr H' Γ'):OkD N D v0 H0 k fr H Γ :=
  λa v y e A x=>h a v y (e.perm m).sub (A.subR λb B=>by
    have:b∈(H'++F).map Prod.fst:=by rw[yat_];exact yam_ _ B
    exact (m.map Prod.fst).mem_iff.2 this) (q v e x)
theorem sE_ {t:TypeId} {x y:Operand} {b:Nat} (A:Opn F) (i:Nat) {cur:Array Value} {T:TypeId} {c:Con} (q:∀ w,(sizeOf t).run P w=.ok 5 w)
    (v:Fr.ev fr x=some (.pointer (some ⟨b,0,none⟩))) (m:Fr.ev fr y=some c.val) (hi:H[i]? = some (b,.cells cur T (0,0))) (h:cur.size=5)
    (hk:fJ_ F n P R N D v0 H0 ops l K fr (H.set i (b,.cells c.cells.toArray T (0,0))) Γ) :
    fJ_ F n P R N D v0 H0 ops (⟨none,.store t x y,ty,ps,af,none⟩::l) K fr H Γ:=by
  refine ew_ A i q v m hi (by simp[Con.val,Value.cells,c.cells_len]) (by simp[h]) (rA_ c) ?_
  have e:(cur.toList.take 0++c.val.cells.toList++cur.toList.drop (0+5)).toArray=c.cells.toArray:=by
    have B:cur.toList.length=5:=by simp[h]
    simp[Con.val,Value.cells,yaT_ (show cur.toList.length<=5 by omega)]
  rw[e];exact hk
theorem fg_ {σ τ:Type} {Hj:σ->Hp} {Hx:τ->Hp} {h G:Hp} {res:σ ⊕ τ} (e:σ) (x:res=.inl e) (q:H.Perm (Hj e++h++G)):OkD N [] v0 H0 (uR_ v0 H0 Hj Hx h res .normal) fr H Γ :=
  cL_ (Γ':=[]) q (λ_ _ _=>trivial) λa v A m y _=>⟨e,v,x,rfl,m,y⟩
theorem wi_ {σ τ:Type} {Hj:σ->Hp} {Hx:τ->Hp} {e G:Hp} {res:σ ⊕ τ} (t:τ) (q:res=.inr t) (m:H.Perm (Hx t++e++G)):OkD N [] v0 H0 (uR_ v0 H0 Hj Hx e res .ret) fr H Γ :=
  cL_ (Γ':=[]) m (λ_ _ _=>trivial) λa v y h x _=>⟨t,v,q,rfl,h,x⟩
theorem eE_ {ι:Type} {e:ι->Fr} {Hs:ι->Hp} {m:ι->List Fct} (i:ι) {F:Hp} (h:Fr.le (e i) fr) (x:H.Perm (Hs i++F)) (q:∀ v,v.sat H->af_ Γ v->af_ (m i) v) :
    OkD N [] v0 H0 (Mid N v0 H0 e Hs m .normal) fr H Γ:=gP_.2 (dm_ i h x q)
end
end Go.Sx
namespace Go.Vs.Con
def fold {σ τ:Type} (f:Con->σ->σ ⊕ τ):Con->σ->σ ⊕ τ
  | c@(mk _ _ _ _ _ _ ps),s=>match f c s with|.inl s'=>folds f ps s'|.inr t=>.inr t
where folds {σ τ:Type} (f:Con->σ->σ ⊕ τ):List Con->σ->σ ⊕ τ
  | [],s=>.inl s
  | p::ps,s=>match fold f p s with|.inl s'=>folds f ps s'|.inr t=>.inr t
section
variable {σ τ:Type} {f:Con->σ->σ ⊕ τ}
theorem fold_eq (c:Con) (s:σ):fold f c s=match f c s with|.inl s'=>fold.folds f c.parts s'|.inr t=>.inr t:=by cases c;rw[fold];rfl
theorem hM_:∀ (xs ys:List Con) (s m:σ),fold.folds f xs s=.inl m->fold.folds f (xs++ys) s=fold.folds f ys m
 | [],ys,s,m,h=>by simp only[fold.folds,Sum.inl.injEq]at h;subst h;rfl
 | x::xs,ys,s,m,h=>by
   simp only[fold.folds,yaJ_]at h ⊢
   split at h
   . rename_i q e;exact hM_ xs ys q m h
   . cases h
theorem folds_step {ps:List Con} {p:Con} {i:Nat} {s m e:σ} (q:ps[i]? = some p) (h:fold.folds f (ps.take i) s=.inl m) (v:fold f p m=.inl e):fold.folds f (ps.take (i+1)) s=.inl e:=by
  rw[take_snoc q,hM_ _ _ _ _ h];simp only[fold.folds,v]
theorem folds_no {ps:List Con} {p:Con} {i:Nat} {s m:σ} {t:τ} (q:ps[i]? = some p) (h:fold.folds f (ps.take i) s=.inl m) (v:fold f p m=.inr t):fold.folds f ps s=.inr t:=by
  have e:ps=ps.take i++p::ps.drop (i+1):=by
    have hi:=(yac_.1 q).1;rw[yaa_ hi]at q;simp only[yak_]at q;subst q;rw[List.getElem_cons_drop hi,ybK_]
  rw[e,hM_ _ _ _ _ h];simp only[fold.folds,v]
theorem folds_yes {ps:List Con} {i:Nat} {s m:σ} (hi:ps.length<=i) (h:fold.folds f (ps.take i) s=.inl m):fold.folds f ps s=.inl m:=by
  rwa [yab_ hi]at h
end
def chk (c:Con) (_:Unit):Unit ⊕ Int:=if c.fieldErr=0 then .inl () else .inr c.fieldErr
theorem fold_chk:∀ (m:Nat) (c:Con),c.sz<=m->fold chk c ()=if c.firstErr=0 then .inl () else .inr c.firstErr
 | 0,c,h=>by have:=c.sz_pos;omega
 | m+1,c,h=>by
   rw[fold_eq,mP_,chk]
   have x:∀ (ps:List Con),(∀ p∈ps,p.sz<=m)->fold.folds chk ps ()=if firstErr.firstErrs ps=0 then .inl () else .inr (firstErr.firstErrs ps):=by
     intro ps
     induction ps with
     | nil=>intro _;simp[fold.folds,firstErr.firstErrs]
     | cons p ps ih =>
       intro v;simp only[fold.folds,firstErr.firstErrs];rw[fold_chk m p (v p zaj_)]
       by_cases e:p.firstErr=0
       . simp only[e,ycn_]
         exact ih λq y=>v q (by simp[y])
       . simp[e]
   by_cases e:c.fieldErr=0
   . simp only[e,ycn_]
     exact x c.parts λp v=>by have:=sz_part v;omega
   . simp[e]
def cnt (_:Con) (n:Nat):Nat ⊕ Empty:=.inl (n+1)
end Go.Vs.Con
namespace Go.Sx
open Go
theorem jaf {A B:Bool} (h:A=false):false=(A&&B):=by rw[h];rfl
theorem jat {A B r:Bool} (h:A=true) (d:B=r):r=(A&&B):=by rw[h,<-d];rfl
theorem jot {A B:Bool} (h:A=true):true=(A||B):=by rw[h];rfl
theorem jof {A B r:Bool} (h:A=false) (d:B=r):r=(A||B):=by rw[h,<-d];rfl
theorem jn {A r:Bool} (h:A=r):(!A)=(!r):=by rw[h]
section
variable {P:Program} {N:Nf} {v0:Vw} {H0:Hp} {R:Exit->Act->World->Prop} {K:List Kt} {fr:Fr} {H:Hp} {Γ:List Fct}
variable {ops:Array Oper} {l:List Oper}
theorem pB_ {Q y:Exit->Act->World->Prop} {o:Oper} {a:Act} {w:World} {B C:Act->World->Prop} (h:∀ a w,B a w->C a w) (A:∀ c a w,Q (.panic c) a w->y (.panic c) a w) (E:∀ a w,Q .outgrown a w->y .outgrown a w)
    (d:o.wp P a w B Q):o.wp P a w C y:=by
  unfold Oper.wp at *;generalize (execOp a.eval o).run P w=r at *
  cases r with
  | ok n w' =>
    cases n<;>simp only[Oper.upon]at d ⊢ <;>
      first
        | exact h _ _ d
        | exact Calls.mono d (λe F m=>by
            cases e with
            | returned v=>exact h _ _ m
            | panicked c=>exact A _ _ _ m
            | outgrown=>obtain⟨a,w,q⟩:=m;exact⟨a,w,E _ _ q⟩)
        | exact Rows.mono d (λ_ _ m=>h _ _ m)
  | halt x w'=>cases x<;>simp only[Oper.upon]at d ⊢<;>first|exact A _ _ _ d|exact d
theorem ka_ {m:List Oper}:∀ (d:List Oper) (a:Act) (w:World),wpList P ops (post P R (.inv (wpList P ops (post P R K) m)::K)) d a w->wpList P ops (post P R K) (d++m) a w
 | [],a,w,h=>h
 | o::d,a,w,h=>by
   simp only[wpList,yaJ_]at h ⊢
   split
   . rename_i e
     rw[yao_ e]at h;rcases h with h|⟨h,a',w',q⟩
     . exact .inl (pB_ (λa w q=>ka_ d a w q) (λc a w q=>q) (λa w q=>q) h)
     . exact .inr ⟨h,a',w',q⟩
   . rename_i e
     rw[yag_ e]at h;exact ka_ d _ _ h
def vt_:Nat->List Oper->List Oper
  | 0,_=>[]
  | _,[]=>[]
  | n+1,o::l=>o::vt_ n l
def vw_:Nat->List Oper->List Oper
  | 0,l=>l
  | _,[]=>[]
  | n+1,_::l=>vw_ n l
theorem oy_:∀ (n:Nat) (l:List Oper),vt_ n l++vw_ n l=l
  | 0,_=>rfl
  | n+1,[]=>rfl
  | n+1,o::l=>by show o::(vt_ n l++vw_ n l)=o::l;rw[oy_ n l]
def MetJ (N:Nf) (v0:Vw) (H0:Hp) (fr:Fr) (H:Hp) (Γ:List Fct) (a:Act) (w:World):Prop:=∃ v,v.w=w/\Fr.sat N fr a/\v.sat H/\v0.to H0 v H/\af_ Γ v
theorem aq_ (n:Nat) (X:Bool) (d:Bool->Fr) (G:Ops P R N v0 H0 ops (vt_ n l) (.inv (MetJ N v0 H0 (d X) H Γ)::K) fr H Γ)
    (B:∀ r,X=r->Ops P R N v0 H0 ops (vw_ n l) K (d r) H Γ):Ops P R N v0 H0 ops l K fr H Γ:=by
  intro a v y E L x;rw[<-oy_ n l];refine ka_ _ _ _ ?_;have C:=G a v y E L x;refine wpL_mono ?_ _ _ _ C;rintro a' w' ⟨A,rfl,k1,k2,F,I⟩;exact B X rfl a' A k1 k2 F I
where wpL_mono {J J':Act->World->Prop} (hJ:∀ a w,J a w->J' a w):∀ (e:List Oper) (a:Act) (w:World),wpList P ops (post P R (.inv J::K)) e a w->wpList P ops (post P R (.inv J'::K)) e a w
  | [],a,w,h=>hJ _ _ h
  | o::e,a,w,h=>by
    simp only[wpList]at h ⊢
    split
    . rename_i m
      rw[yao_ m]at h;rcases h with h|⟨h,a',w',q⟩
      . exact .inl (pB_ (λa w q=>wpL_mono hJ e a w q) (λc a w q=>q) (λa w q=>q) h)
      . exact .inr ⟨h,a',w',q⟩
    . rename_i m
      rw[yag_ m]at h;exact wpL_mono hJ e _ _ h
theorem met {d:Fr} (e:Fr.le d fr):Ok N v0 H0 (MetJ N v0 H0 d H Γ) fr H Γ :=
  bx_ d e λ_ v q h x m=>⟨v,rfl,q,h,x,m⟩
end
end Go.Sx
namespace Go.Sx
open Go
theorem w_ {α:Type} {f:α->List Value} {n:Nat} (e:∀ x,(f x).length=n) {l:List α} {i:Nat} {x:α} (m:l[i]? = some x):∀ j y,(f x)[j]? = some y->(l.flatMap f)[i*n+j]? = some y:=by
  intro j y h
  have d:j<n:=by
    have:=(yac_.1 h).1;rwa [e]at this
  rw[kq_ f n e l i j x m d];exact h
theorem aA_ {α:Type} {f:α->List Value} {n:Nat} (d:∀ x,(f x).length=n) (q:0<n) {v:Vw} {ad:Ao} {l:List α} {i:Nat} {x:α} (h:bG_ v ad (l.flatMap f)) (y:l[i]? = some x):∃ b off,ad=some ⟨b,off,none⟩:=by
  refine h.addr λe=>?_;have m:=w_ d y 0 _ (yaa_ (by rw[d];exact q));rw[e]at m;simp at m
def al_ (s:List UInt8):List Value:=[str s]
theorem au_ (s:List UInt8):(al_ s).length=1:=rfl
end Go.Sx
namespace Go.Vs
open Go Go.Sx
structure Ax where
  kind:Int
  opn:Bool
  left:Con
  right:Con
  ad:Ao
  cap:Nat
  roles:List Str
  role:Str
  a:Str
  b:Str
namespace Ax
def cells (x:Ax):List Value:=.int .i64 x.kind::.bool x.opn::(x.left.cells++(x.right.cells++[.slice x.ad x.roles.length x.cap,str x.role,str x.a,str x.b]))
def val (x:Ax):Value:=.agg x.cells.toArray
theorem cells_len (x:Ax):x.cells.length=16:=by simp[cells,Con.cells_len]
def mem (x:Ax) (v:Vw):Prop:=x.left.mem v/\x.right.mem v/\bG_ v x.ad (x.roles.flatMap al_)
def memF (x:Ax):Fct:=⟨x.mem,λv v' h hp=>⟨x.left.memF.mono v v' h hp.1,x.right.memF.mono v v' h hp.2.1,(ac_ x.ad (x.roles.flatMap al_)).mono v v' h hp.2.2⟩⟩
structure ok (x:Ax):Prop where
  lo:-9223372036854775808<=x.kind
  hi:x.kind<=9223372036854775807
  left:x.left.ok
  right:x.right.ok
  len:x.roles.length<=x.cap
  cap:x.roles.length<=8796093021952
  roles:∀ r∈x.roles,r.length<=140737488351232
  role:x.role.length<=140737488351232
  a:x.a.length<=140737488351232
  b:x.b.length<=140737488351232
end Ax
def Con.empty (c:Con):Bool:=((((c.kind==0)&&(c.name==[]))&&(c.lo==0))&&(c.hi==0))&&((c.parts.length:Int)==0)
def Con.bare:Con->Bool
  | mk k _ _ _ _ _ ps=>(k==4)||((k==5)&&bares ps)
where bares:List Con->Bool
  | []=>false
  | p::ps=>bare p||bares ps
theorem Con.bares_any:∀ (ps:List Con),Con.bare.bares ps=ps.any Con.bare
  | []=>rfl
  | p::ps=>by simp[Con.bare.bares,Con.bares_any ps]
theorem Con.bare_eq (c:Con):c.bare=((c.kind==4)||((c.kind==5)&&c.parts.any Con.bare)):=by cases c;simp only[Con.bare,Con.bares_any,kind,parts]
structure Use where
  left:Bool
  right:Bool
  role:Bool
  a:Bool
  b:Bool
  least:Int
  most:Int
def Use.cells (u:Use):List Value:=[.bool u.left,.bool u.right,.bool u.role,.bool u.a,.bool u.b,.int .i64 u.least,.int .i64 u.most]
theorem Use.cells_len (u:Use):u.cells.length=7:=rfl
def rX_:List Use:=[⟨false,false,false,false,false,0,0⟩,⟨true,true,false,false,false,0,0⟩,⟨true,true,false,false,false,0,0⟩,⟨true,true,false,false,false,0,0⟩,⟨false,true,true,false,false,0,0⟩,
  ⟨false,false,true,false,false,1,1⟩,⟨false,false,true,false,false,2,4⟩,⟨false,false,true,false,false,0,0⟩,⟨false,true,false,true,false,0,0⟩,⟨false,false,true,true,true,0,0⟩]
def us (k:Int):Use:=(rX_[k.toNat]?).getD ⟨false,false,false,false,false,0,0⟩
namespace Ax
def shaped (x:Ax):Bool :=
  if x.kind<1\/9<x.kind then false else
    let u:=us x.kind
    (((((((u.left||x.left.empty)&&(u.right||x.right.empty))&&(u.role||(x.role==[])))&&(u.a||(x.a==[])))&&(u.b||(x.b==[])))&&decide (u.least<=(x.roles.length:Int)))&&decide ((x.roles.length:Int)<=u.most))
def namedU (x:Ax) (u:Use):Bool:=!(u.role&&!bj_ x.role||u.a&&!aV_ x.a||u.b&&!aV_ x.b)&&x.roles.all bj_
def check (x:Ax):Int :=
  if x.shaped=false then 22
  else if x.namedU (us x.kind)=false then 20
  else if (us x.kind).left=true/\x.left.check≠0 then x.left.check
  else if (us x.kind).right=true/\x.right.check≠0 then x.right.check
  else if x.kind=2/\(x.left.bare=true\/x.right.bare=true) then 22
  else if (x.kind=1\/x.kind=4\/x.kind=8)/\x.right.bare=true then 22
  else 0
end Ax
structure NUse where
  a:Bool
  b:Bool
  c:Bool
  r:Bool
  s:Bool
  t:Bool
  numbers:Bool
def NUse.cells (u:NUse):List Value:=[.bool u.a,.bool u.b,.bool u.c,.bool u.r,.bool u.s,.bool u.t,.bool u.numbers]
theorem NUse.cells_len (u:NUse):u.cells.length=7:=rfl
def gm_:List NUse:=[⟨false,false,false,false,false,false,false⟩,⟨true,false,true,false,false,false,false⟩,⟨true,true,true,false,false,false,false⟩,⟨true,false,true,true,false,false,false⟩,⟨true,false,true,true,false,false,false⟩,
  ⟨false,false,false,true,false,true,false⟩,⟨false,false,false,true,true,true,false⟩,⟨false,false,false,true,false,false,false⟩,⟨true,false,false,true,false,false,true⟩,⟨false,false,true,true,false,false,true⟩]
def nus (k:Int):NUse:=(gm_[k.toNat]?).getD ⟨false,false,false,false,false,false,false⟩
end Go.Vs
namespace Go.Sx
open Go
def ch_ (b:Nat) (o:Obj):Fct where
  p:=λv=>v.im b/\v.w.heap[b]? = some o
  mono:=λv v' h hp=>⟨h.imUp b hp.1,by rw[h.block b hp.1];exact hp.2⟩
section
variable {P:Program} {N:Nf} {v0:Vw} {H0:Hp} {R:Exit->Act->World->Prop} {K:List Kt} {fr:Fr} {H:Hp} {Γ:List Fct}
variable {ops:Array Oper} {l:List Oper} {d:Nat} {ty:TypeId} {ps:String} {af:Array Edge}
theorem iM_ {k:Act->World->Prop} {b:Nat} {o:Obj} (i:Nat) (hi:H[i]? = some (b,o)) (h:Ok N v0 H0 k fr (H.eraseIdx i) (ch_ b o::Γ)):Ok N v0 H0 k fr H Γ :=
  eO_ (ch_ b o) (fQ_ hi) (λ_ m e _=>⟨m,e⟩) h
theorem bf_ {t:TypeId} (e:Nat.blt d N.n=true) (hk:∀ b,Ops P R N v0 H0 ops l K ((d,.map (some b))::fr) ((b,.map #[] 0)::H) Γ) :
    Ops P R N v0 H0 ops (⟨some d,.makeMap t none,ty,ps,af,none⟩::l) K fr H Γ :=
  gE_ (x:=λb=>.map (some b)) e (λa v h _ _=>by simp[execOp,Instr.makeMap,newObj];rfl) hk
def hp_ (P:Program) (k:TypeId) (key:Value):Prop:=∀ e w,(Instr.checkKey e 10000 k key).run P w=.ok () w
def do_ (P:Program) (k:TypeId) (key:Value) (es:List MapEntry) (r:Option (Nat×Value)):Prop:=∀ w,(Instr.findKey k key es).run P w=.ok r w
theorem aH_ {k:TypeId} {i:IntKind} {n:Int} (h:P.underlying k=some (.int i)):hp_ P k (.int i n):=λe w=>by
  exact key (9999) e w
where key (m:Nat) (e:Bool) (w:World):(Instr.checkKey e (m+1) k (.int i n)).run P w=.ok () w:=by simp[Instr.checkKey,run_underlying h]
theorem aw_ {k:TypeId} {dd:TypeDesc} {e:Value} {es:List MapEntry} {r:Option (Nat×Value)} (m:P.underlying k=some dd) (h:Instr.findNow dd e es 0=some r):do_ P k e es r:=λw=>by
  simp[Instr.findKey,run_underlying m,h]
theorem eY_ {t h I:TypeId} {x y:Operand} {b c i:Nat} {es:Array MapEntry} {e u:Value} (C:∀ w,(underlying t).run P w=.ok (.map h I) w) (F:Fr.ev fr x=some (.map (some b))) (A:Fr.ev fr y=some e)
    (hm:∀ v,v.sat H->af_ Γ v->v.w.heap[b]? = some (.map es c)) (hk:hp_ P h e) (q:do_ P h e es.toList (some (i,u))):Yld P N fr H Γ (.lookup t x y false) ty u :=
  λa v m B G _ _ _=>by
    have E:=MapKept.run_getObj_map (P:=P) (hm v B G);simp[execOp,m.ev F,m.ev A,Instr.lookup,C,E,hk _ _,q _]
theorem eI_ {t h q:TypeId} {x y:Operand} {b c:Nat} {es:Array MapEntry} {e z:Value} (E:∀ w,(underlying t).run P w=.ok (.map h q) w) (J:∀ w,(zeroValue q).run P w=.ok z w) (G:Fr.ev fr x=some (.map (some b))) (B:Fr.ev fr y=some e)
    (hm:∀ v,v.sat H->af_ Γ v->v.w.heap[b]? = some (.map es c)) (hk:hp_ P h e) (A:do_ P h e es.toList none):Yld P N fr H Γ (.lookup t x y false) ty z :=
  λa v m C I _ _ _=>by
    have F:=MapKept.run_getObj_map (P:=P) (hm v C I);simp[execOp,m.ev G,m.ev B,Instr.lookup,E,F,hk _ _,A _,J]
theorem aE_ {o:Op} {t B V:TypeId} {x y z:Operand} {b c:Nat} (i:Nat) {es:Array MapEntry} {e u:Value} (G:o=.insert t x y z\/o=.mapUpdate t x y z) (L:∀ w,(underlying t).run P w=.ok (.map B V) w)
    (S:Fr.ev fr x=some (.map (some b))) (J:Fr.ev fr y=some e) (W:Fr.ev fr z=some u) (hi:H[i]? = some (b,.map es c)) (hk:hp_ P B e) (F:do_ P B e es.toList none)
    (A:Ops P R N v0 H0 ops l K fr (H.set i (b,.map (es.push ⟨e,u,c⟩) (c+1))) Γ):Ops P R N v0 H0 ops (⟨none,o,ty,ps,af,none⟩::l) K fr H Γ :=
  cy_ rfl λa v h m M U=>by
    have q:=(m.own _ (yad_ hi)).1;have Q:=MapKept.run_getObj_map (P:=P) q;have O:=MapKept.run_setObj_map (P:=P) (.map (es.push ⟨e,u,c⟩) (c+1)) q
    have T:(execOp a.eval ⟨none,o,ty,ps,af,none⟩).run P v.w=.ok .skip { v.w with heap:=v.w.heap.setIfInBounds b (.map (es.push ⟨e,u,c⟩) (c+1)) }:=by
      rcases G with rfl|rfl<;>simp[execOp,h.ev S,h.ev J,h.ev W,Instr.mapUpdate,L,Q,hk _ _,F _,O]
    unfold Oper.wp;rw[T];have C:=MapKept.heap_set (o':=.map (es.push ⟨e,u,c⟩) (c+1)) q;obtain⟨I,E⟩:=eM_ (w':={ v.w with heap:=v.w.heap.setIfInBounds b (.map (es.push ⟨e,u,c⟩) (c+1)) }) m hi rfl rfl rfl (yaj_ _) zaj_ C.1 (λk hk=>C.2 k hk);exact A a _ h I (M.trans E) (av_ (E.le m) U)
theorem bZ_ {f:FuncId} {args:Array Value} {r:Value} (G:ec_ P f) (h:∀ v:Vw,v.sat H->af_ Γ v->Calls P f args v.w λe w'=>e=.returned r/\RowKit.Below v.w.heap.size v.w w'/\(v.sl\/v.w.drawn<=w'.drawn)):Tri P f args H Γ (λ_:Unit=>r) (λ_=>H) (λ_=>[]) :=
  ⟨G,λv x E=>(h v x E).mono λe w' ⟨F,q,C⟩=>by
    have A:v.w.heap.size<=w'.heap.size:=q.size;have B:∀ p∈H,p.1<v.w.heap.size:=λp y=>(yax_.1 (x.own p y).1).1
    refine⟨(),⟨v.im,w',v.sl⟩,F,rfl,⟨λp y=>⟨?_,(x.own p y).2⟩,x.nodup,λb m=>ybQ_ (x.lt b m) A⟩,trivial,⟨q.os,q.tape,q.output,A,λb m _=>q.block b m,λ_ h=>h,λ_ h=>.inl h,λ_ h=>.inl h,rfl,C⟩⟩;show w'.heap[p.1]? = _
    rw[q.block p.1 (B p y)];exact (x.own p y).1⟩
theorem uK_ (w:World) (k:Nat) (os:Array Obj):RowKit.Below w.heap.size w (Go.Sort.grow (w.drewN k) os) :=
  ⟨rfl,rfl,rfl,by simp[Go.Sort.grow],λb e=>by simp only[Go.Sort.grow,World.heap_drewN];rw[ybA_ e]⟩
theorem hj_ {t e:TypeId} {sz by':Nat} {z:Value} (q:P.underlying t=some (.slice e)) (hi:(P.info? e).map (λi=>(i.zero,i.size,i.bytes))=some (some z,sz,by')) (v:z.cells.size=sz) (m:0<sz):Elt P t e sz by':=by
  refine⟨q,?_,m⟩;cases h:P.info? e with
  | none=>rw[h]at hi;cases hi
  | some i =>
    rw[h]at hi;simp only[yaO_,yak_,ybV_]at hi;exact⟨i,z,rfl,hi.1,hi.2.1,hi.2.2,v⟩
theorem aL_ {b:Nat} {cs:List Value} {T:TypeId} {fz:Nat×Nat} (i:Nat) (hi:H[i]? = some (b,.cells cs.toArray T fz)):∀ v:Vw,v.sat H->af_ Γ v->∀ j u,cs[j]? = some u->v.w.cell? ((⟨b,0,none⟩:Addr).add j)=some u:=by
  intro v h _ j u e;rw[cp_,ybw_,gi_ h hi];simpa using e
theorem de_ {N:Nat} {fn:Func} {ι:Type} {F:Hp} {ret:ι->Value} {H':ι->Hp} {Γ':ι->List Fct} (x:ι) (B:∀ (a:Act) (v:Vw),Fr.sat N fr a->v.sat H->(results fn a.tmps).run P v.w=.ok (ret x) v.w) (h:H.Perm (H' x++F))
    (q:∀ v,v.sat H->af_ Γ v->af_ (Γ' x) v):Ok N v0 H0 (bodyPost P fn (ln_ v0 H0 ret H' Γ') .ret) fr H Γ :=
  λa v m e y C=>⟨m.defers,ret x,B a v m e,x,v,rfl,rfl,(e.perm h).sub,q v e C,y.subR λb A=>by
    have:b∈(H' x++F).map Prod.fst:=by rw[yat_];exact yam_ _ A
    exact (h.map Prod.fst).mem_iff.2 this⟩
theorem dy_ {fn:Func} {t b n:Nat} {ty T:TypeId} {us:List Value} (i:Nat) (m:fn.results=#[.cell t ty]) (C:∀ w,(isAgg ty).run P w=.ok true w) (q:∀ w,(sizeOf ty).run P w=.ok n w) (A:us.length=n) (x:Fr.get fr t=some (.pointer (some ⟨b,0,none⟩)))
    (hi:H[i]? = some (b,.cells us.toArray T (0,0))) (a:Act) (v:Vw) (E:Fr.sat N fr a) (h:v.sat H):(results fn a.tmps).run P v.w=.ok (.agg us.toArray) v.w:=by
  have e:=E.val t _ x;have hl:=dI_ (t:=ty) (w:=v.w) (b:=b) (off:=0) C q A (λj y B=>by rw[ybw_,gi_ h hi];simpa using B);simp[results,m,e,asAddr,hl]
theorem zX_ {Hs:Hp} {C:List Fct} {m:Nat} {e:Array Bool} (B:List Nat) (F:Region.ready .any ops e=B) (A:B≠[])
    (h:∀ i,i∈B->∃ o,ops[i]? = some o/\Ops P R N v0 H0 ops [o] (.inv (Nx P R ops Hs C m (e.setIfInBounds i true) K)::K) fr H Γ):Any P R N v0 H0 ops Hs C (m+1) e K fr H Γ:=by
  intro a v L E G J;refine wpAnyH_all F A λj I=>?_;obtain⟨o,hi,h⟩:=h j I;have:=h a v L E G J;unfold wpOp;simp only[hi];unfold wpList at this
  split
  . rename_i y
    rw[yao_ y]at this;rcases this with q|q
    . left
      unfold Oper.wp at q ⊢;generalize (execOp a.eval o).run P v.w=r at q ⊢
      cases r with
      | ok n w' =>
        cases n<;>simp only[Oper.upon]at q ⊢<;>exact q
      | halt x w' =>
        cases x<;>simp only[Oper.upon]at q ⊢
        case panic u=>exact q
    . exact .inr q
  . rename_i y
    rw[yag_ y]at this;exact this
theorem gL_ {Hs:Hp} {q:List Fct} {m:Nat} {e:Array Bool} (i j:Nat) {o o':Oper} (hi:ops[i]? = some o) (x:ops[j]? = some o') (y:Region.ready .any ops e=[i,j])
    (h:Ops P R N v0 H0 ops [o] (.inv (Nx P R ops Hs q m (e.setIfInBounds i true) K)::K) fr H Γ) (v:Ops P R N v0 H0 ops [o'] (.inv (Nx P R ops Hs q m (e.setIfInBounds j true) K)::K) fr H Γ):Any P R N v0 H0 ops Hs q (m+1) e K fr H Γ :=
  zX_ [i,j] y zaj_ λk hk=>by
    simp only[yan_,yaM_,ybW_]at hk;rcases hk with rfl|rfl
    . exact⟨o,hi,h⟩
    . exact⟨o',x,v⟩
theorem at_.some {e:TypeId} {sz n:Nat} {sv:Value} {xs:List Value} {Hr:Hp} (h:at_ e sz sv n xs Hr) (q:n≠0) :
    ∃ g cap cur,sv=.slice (some ⟨g,0,none⟩) n cap/\Hr=[(g,.cells cur e (0,0))]/\n<=cap/\cap<=maxLen/\cur.size=cap*sz/\cur.toList.take (n*sz)=xs:=by
  rcases h.2 with⟨_,m,_⟩|m
  . exact absurd m q
  . exact m
theorem kP_ {us:List Value} (h:us.all Value.oneCell'=true):∀ u∈us,u.oneCell'=true:=λu e=>yaW_.1 h u e
theorem ak_ {e:Nat} (Hs:Hp) (hm:P.follows .mixedOrders=true) (h:Any P R N v0 H0 ops Hs Γ ops.size (Array.replicate ops.size false) K fr H Γ):Run P R N v0 H0 (.region e ops true) K fr H Γ:=sl_ Hs Γ hm h
theorem AP_ {N:Nat} {fn:Func} {ι:Type} {F:Hp} {ret:ι->Value} {H':ι->Hp} {Γ':ι->List Fct} (x:ι) (C:∀ (a:Act) (v:Vw),Fr.sat N fr a->v.sat H->af_ Γ v->(results fn a.tmps).run P v.w=.ok (ret x) v.w) (h:H.Perm (H' x++F))
    (y:∀ v,v.sat H->af_ Γ v->af_ (Γ' x) v):Ok N v0 H0 (bodyPost P fn (ln_ v0 H0 ret H' Γ') .ret) fr H Γ :=
  λa v q e A m=>⟨q.defers,ret x,C a v q e m,x,v,rfl,rfl,(e.perm h).sub,y v e m,A.subR λb B=>by
    have:b∈(H' x++F).map Prod.fst:=by rw[yat_];exact yam_ _ B
    exact (h.map Prod.fst).mem_iff.2 this⟩
theorem AQ_ {fn:Func} {s t:Nat} {ad h:Addr} {ty ty':TypeId} {u u':Value} {a:Act} {w:World} (x:fn.results=#[.cell s ty,.cell t ty']) (B:∀ w,(isAgg ty).run P w=.ok false w) (q:∀ w,(isAgg ty').run P w=.ok false w) (v:Fr.sat N fr a) (A:Fr.get fr s=some (.pointer (some ad))) (y:Fr.get fr t=some (.pointer (some h)))
    (C:w.cell? ad=some u) (m:w.cell? h=some u'):(results fn a.tmps).run P w=.ok (.tuple #[u,u']) w:=by
  have e:=v.val s _ A;have E:=v.val t _ y;simp[results,x,e,E,asAddr,cI_ B C,cI_ q m]
theorem ou_ {b:Nat} {cs:List Value} {T:TypeId} {fz:Nat×Nat} {v:Vw} (j:Nat) {u:Value} (h:(ch_ b (.cells cs.toArray T fz)).p v) (e:cs[j]? = some u):v.w.cell? ⟨b,j,none⟩=some u:=by
  simp[World.cell?,h.2,e]
theorem dw_ {t:TypeId} {x:Operand} {b off:Nat} {cs:List Value} {T:TypeId} {fz:Nat×Nat} {u:Value} {ty:TypeId} (h:∀ w,(isAgg t).run P w=.ok false w) (A:Fr.ev fr x=some (.pointer (some ⟨b,off,none⟩))) (e:∀ v,v.sat H->af_ Γ v->(ch_ b (.cells cs.toArray T fz)).p v) (y:cs[off]? = some u):Yld P N fr H Γ (.load t x) ty u :=
  gT_ A λv m q=>cI_ h (ou_ off (e v m q) y)
end
end Go.Sx
namespace Go.Vs
open Go Go.Sx
namespace Con
def text:Con->Str
  | mk k nm lo hi _ _ ps =>
    if k=1 then [101,118,101,114,121,116,104,105,110,103]
    else if k=2 then [110,111,116,104,105,110,103]
    else if k=3 then nm
    else if k=4 then [123]++nm++[125]
    else if k=5 then Lib.join (operands ps) [32,97,110,100,32]
    else if k=6 then Lib.join [[115,111,109,101],nm,(operands ps).headD []] [32]
    else Lib.join [nm,[105,110],Lib.itoa lo,[116,111],Lib.itoa hi] [32]
where operands:List Con->List Str
  | []=>[]
  | p::ps=>(if p.kind=5 then [40]++text p++[41] else text p)::operands ps
def operand (c:Con):Str:=if c.kind=5 then [40]++c.text++[41] else c.text
theorem mK_:∀ (ps:List Con),text.operands ps=ps.map operand
  | []=>rfl
  | p::ps=>by simp only[text.operands,yay_,mK_ ps,operand]
theorem text_eq (c:Con):c.text =
    if c.kind=1 then [101,118,101,114,121,116,104,105,110,103]
    else if c.kind=2 then [110,111,116,104,105,110,103]
    else if c.kind=3 then c.name
    else if c.kind=4 then [123]++c.name++[125]
    else if c.kind=5 then Lib.join (c.parts.map operand) [32,97,110,100,32]
    else if c.kind=6 then Lib.join [[115,111,109,101],c.name,(c.parts.map operand).headD []] [32]
    else Lib.join [c.name,[105,110],Lib.itoa c.lo,[116,111],Lib.itoa c.hi] [32]:=by
  cases c;simp only[text,mK_];rfl
theorem kU_ (d:Str):∀ (xs:List Str),(Lib.join xs d).length<=(xs.map λx=>x.length+d.length).sum
  | []=>by simp[Lib.join_nil]
  | [x]=>by simp[Lib.join_one]
  | x::y::r=>by
    have h:=kU_ d (y::r);have e:Lib.join (x::y::r) d=x++d++Lib.join (y::r) d:=by simp[Lib.join,List.intercalate]
    rw[e];simp only[yaf_,yay_,ydq_]at h ⊢;omega
def fine (c:Con):Prop:=c.firstErr=0
theorem iS_:∀ {ps:List Con},firstErr.firstErrs ps=0↔∀ p∈ps,p.firstErr=0
 | []=>by simp[firstErr.firstErrs]
 | p::ps=>by
   simp only[firstErr.firstErrs,yan_,forall_eq_or_imp]
   by_cases h:p.firstErr=0
   . simp[h,iS_ (ps:=ps)]
   . simp[h]
theorem kZ_ (c:Con):c.fine↔c.fieldErr=0/\∀ p∈c.parts,p.fine:=by
 unfold fine;rw[mP_]
 by_cases h:c.fieldErr=0
 .simp[h,iS_]
 simp[h]
theorem fine_part {c p:Con} (h:c.fine) (d:p∈c.parts):p.fine:=((kZ_ c).1 h).2 p d
structure Fields (c:Con):Prop where
  k1:1<=c.kind
  k7:c.kind<=7
  nm:c.name.length<=24
  le:(nd c.kind).2.1<=c.parts.length
  mo:c.parts.length<=(nd c.kind).2.2.1
theorem plain_len {s:Str} (h:bj_ s=true):s.length<=24:=by
  unfold bj_ at h
  split at h<;>simp_all
theorem reserved_len {s:Str} (h:cT_ s=true):s.length<=24:=by
  unfold cT_ at h;simp at h
  omega
theorem fields_of {c:Con} (h:c.fieldErr=0):Fields c:=by
 unfold fieldErr at h
 split at h
 .cases h
 rename_i m
 split at h
 .cases h
 rename_i e
 split at h
 .cases h
 split at h
 .cases h
 split at h
 .rename_i d
  simp only[ydH_,not_and]at m e;refine⟨by omega,by omega,?_,by omega,by omega⟩;rcases d with d|d|d
  .have:=e.2.2 d
   simp only[ne_eq,Decidable.not_not]at this;rw[this];simp
  .exact plain_len d
  exact reserved_len d.2
 cases h
theorem fields {c:Con} (h:c.fine):Fields c:=fields_of ((kZ_ c).1 h).1
theorem text_len:∀ (m:Nat) (c:Con),c.sz<=m->c.ok->c.fine->c.text.length+10<=100*c.sz
 | 0,c,h=>by have:=c.sz_pos;omega
 | m+1,c,h=>λd E=>by
   have F:=fields E;have N:=c.sz_pos
   have v:∀ p∈c.parts,p.operand.length+8<=100*p.sz:=λp y=>by
     have:=text_len m p (by have:=sz_part y;omega) (ok_part d y) (fine_part E y);unfold operand
     split<;>simp<;>omega
   have A:(c.parts.map λp=>p.operand.length+5).sum<=100*(c.sz - 1):=by
     have B:∀ ps:List Con,(∀ p∈ps,p.operand.length+8<=100*p.sz)->(ps.map λp=>p.operand.length+5).sum<=100*sz.szs ps:=by
       intro ps
       induction ps with
       | nil=>intro _;simp[sz.szs]
       | cons p ps ih =>
         intro y;have G:=y p zaj_;have M:=ih λq I=>y q (by simp[I])
         simp only[yay_,ydq_,sz.szs];omega
     have:=B c.parts v;cases c with
     | mk k n l hi a cp ps=>simp only[sz,parts]at this ⊢;omega
   rw[text_eq];have J:(Lib.itoa c.lo).length<=21:=by cases c;exact Lib.itoa_length_le _ d.2.2.2.1 d.2.2.2.2.1
   have L:(Lib.itoa c.hi).length<=21:=by cases c;exact Lib.itoa_length_le _ d.2.2.2.2.2.1 d.2.2.2.2.2.2.1
   have K:=F.nm
   split
   . simp;omega
   . split
     . simp;omega
     . split
       . omega
       . split
         . simp;omega
         . split
           . have:=kU_ [32,97,110,100,32] (c.parts.map operand)
             simp only[ycJ_,yal_,yaL_]at this;have e:(c.parts.map ((λx:Str=>x.length+(0+1+1+1+1+1)) ∘ operand)).sum=(c.parts.map λp=>p.operand.length+5).sum:=rfl;rw[e]at this;omega
           . split
             . rename_i H
               have G:1<=c.parts.length:=by have:=F.le;rw[H]at this;simp[nd,en_]at this;omega
               obtain⟨p,ps,C⟩:=ycj_ G;have:=kU_ [32] [[115,111,109,101],c.name,(c.parts.map operand).headD []];simp only[C,yay_,List.headD_cons,ybz_,ydq_,ydJ_,yal_,yaL_]at this A ⊢;omega
             . have:=kU_ [32] [c.name,[105,110],Lib.itoa c.lo,[116,111],Lib.itoa c.hi]
               simp only[yay_,ybz_,ydq_,ydJ_,yal_,yaL_]at this;omega
theorem rm_:∀ (m:Nat) (c:Con),c.sz<=m->∀ d n,(c.fits d n).1=true->(c.fits d n).2=n+c.sz
 | 0,c,h=>by have:=c.sz_pos;omega
 | m+1,c,h=>λd n e=>by
   rw[fits_eq]at e ⊢
   split at e
   . cases e
   . rename_i B
     rw[yag_ B]
     have y:∀ ps:List Con,(∀ p∈ps,p.sz<=m)->∀ n,(fits.fitss ps (d+1) n).1=true->(fits.fitss ps (d+1) n).2=n+sz.szs ps:=by
       intro ps
       induction ps with
       | nil=>intro _ n _;simp[fits.fitss,sz.szs]
       | cons p ps ih =>
         intro v n e;simp only[fits.fitss]at e ⊢
         split at e
         . rename_i q x
           have A:=rm_ m p (v p zaj_) (d+1) n (by rw[x]);rw[x]at A;have C:=ih (λq x=>v q (by simp[x])) q e;simp only[sz.szs];simp only at A;omega
         . cases e
     have:=y c.parts (λp v=>by have:=sz_part v;omega) (n+1) e;rw[this];cases c with
     | mk k nn l hi a cp ps=>simp only[sz,parts];omega
theorem check_zero {c:Con} (h:c.check=0):c.fine/\c.sz<=64:=by
 unfold check at h
 split at h
 .rename_i d
  have e:=rm_ _ c (yaj_ _) 0 0 d;have m:=rn_ _ c (yaj_ _) 0 0 d;exact⟨h,by omega⟩
 cases h
def textN (c:Con):Str:=if c.check=0 then c.text else []
theorem textN_len {c:Con} (d:c.ok):c.textN.length<=6400:=by
 unfold textN
 split
 .rename_i h
  obtain⟨e,m⟩:=check_zero h;have:=text_len _ c (yaj_ _) d e;omega
 simp
def operandN (c:Con):Str:=if c.kind=5 then [40]++c.textN++[41] else c.textN
def atom (c:Con):Str :=
  if c.kind=1 then [42] else if c.kind=2 then [33] else if c.kind=3 then c.name else if c.kind=4 then [123]++c.name++[125] else [60]++c.textN++[62]
end Con
theorem pE_ {cur:Array Value} {n:Nat} {xs:List Str} (h:cur.toList.take (n*1)=xs.flatMap al_):∀ (j:Nat) (x:Str),xs[j]? = some x->cur[j]? = some (str x):=by
 intro j x e;have d:=w_ au_ e 0 (str x) rfl;rw[<-h,ydv_,ycl_]at d;rw[yaK_]at d
 split at d
 .simpa using d
 cases d
theorem ve_ (xs:List Str):∀ (j:Nat) (x:Str),xs[j]? = some x->(xs.map str).toArray[j]? = some (str x):=by
  intro j x d;simp[d]
end Go.Vs
namespace Go.Sx
open Go
section
variable {P:Program}
theorem lb_ {d:Nat} {xs ys:Array Value} (w:World):(Op.eqFields d xs ys []).run P w=.ok true w:=by simp[Op.eqFields]
theorem bX_ {d : Nat} {xs ys : Array Value} {f : Field} {fs : List Field} {a b : Value} {r s : Bool} {w : World} (v : (f.name == "_") = false) (q : ∀ w, (isAgg f.type).run P w = .ok false w) (y : xs[f.offset]? = some a) (m : ys[f.offset]? = some b)
    (x:(Op.equalIn d f.type a b).run P w=.ok r w) (h:(Op.eqFields d xs ys fs).run P w=.ok s w):(Op.eqFields d xs ys (f::fs)).run P w=.ok (r&&s) w:=by
  have e : f.name ≠ "_" := by simpa using v
  simp only[Op.eqFields,e,ne_eq,not_false_eq_true,ycn_,part,Sem.run_bind,q,Result.andThen_ok,ybn_,yce_,y,m,Sem.run_pure,x];cases r
  . simp
  . simpa using h
theorem eqI {d:Nat} {t:TypeId} {k:IntKind} {a b:Int} (h:P.underlying t=some (.int k)) (w:World):(Op.equalIn (d+1) t (.int k a) (.int k b)).run P w=.ok (a==b) w:=run_equalIn_int w d t k k a b h
theorem eqS {d:Nat} {t:TypeId} {a b:List UInt8} (h:P.underlying t=some .string) (w:World):(Op.equalIn (d+1) t (str a) (str b)).run P w=.ok (a==b) w:=by
  have:=run_equalIn_string w d t ⟨a.toArray⟩ ⟨b.toArray⟩ h;simp only[ByteArray.toList_eq]at this;exact this
theorem ckF {e : Bool} {n : Nat} {t : TypeId} {fs : Array Field} {xs : Array Value} {w : World} (y : P.underlying t = some (.struct fs)) (h : ∀ f ∈ fs.toList, (f.name == "_") = false/\(∀ w, (isAgg f.type).run P w = .ok false w)/\∃ a, xs[f.offset]? = some a/\(∀ w, (Instr.checkKey e n f.type a).run P w = .ok () w)) :
    (Instr.checkKey e (n+1) t (.agg xs)).run P w=.ok () w:=by
  simp only[Instr.checkKey,Sem.run_bind,run_underlying y,Result.andThen_ok];rw[<-Array.forIn_toList];generalize fs.toList=l at h
  induction l with
  | nil=>simp
  | cons f l ih =>
    obtain⟨v,m,a,A,q⟩:=h f (by simp);have d : f.name ≠ "_" := by simpa using v
    simp only[List.forIn_cons,d,ne_eq,not_false_eq_true,ycn_,part,Sem.run_bind,m,Result.andThen_ok,ybn_,yce_,A,Sem.run_pure,q];exact ih λg x=>h g (by simp[x])
theorem la_ {α:Type} [DecidableEq α] {k:TypeId} {fs:Array Field} {val:α->Value} (B:P.underlying k=some (.struct fs)) (m:∀ p q w,(Op.equal k (val p) (val q)).run P w=.ok (decide (p=q)) w) (p:α) :
    ∀ (l:List α) (es:List MapEntry) (i:Nat),es.map (·.key)=l.map val->(p ∉ l->∀ w,(Instr.findAsking k (val p) es i).run P w=.ok none w)/\(p∈l->(∀ x∈es,x.val=.bool true)->∃ j,∀ w,(Instr.findAsking k (val p) es i).run P w=.ok (some (j,.bool true)) w)
  | [],es,i,h=>by
    have:es=[]:=by simpa using h
    subst this;simp[Instr.findAsking]
  | q::l,[],i,h=>by simp at h
  | q::l,e::es,i,h=>by
    simp only[yay_,ybE_]at h;have A:=la_ B m p l es (i+1) h.2
    by_cases d:p=q
    . subst d
      refine⟨λv=>absurd yav_ v,λ_ y=>⟨i,λw=>?_⟩⟩;simp only[Instr.findAsking,Sem.run_bind,h.1,m,Result.andThen_ok,decide_true,ycn_,Sem.run_pure,y e zaj_]
    . refine⟨λv w=>?_,λhm y=>?_⟩
      . simp only[Instr.findAsking,Sem.run_bind,h.1,m,Result.andThen_ok,d,ydO_,ybn_,yce_]
        exact A.1 (λh=>v (yaE_ _ h)) w
      . obtain⟨j,E⟩:=A.2 (by simpa [d] using hm) λx C=>y x (by simp[C])
        refine⟨j,λw=>?_⟩;simp only[Instr.findAsking,Sem.run_bind,h.1,m,Result.andThen_ok,d,ydO_,ybn_,yce_];exact E w
theorem hQ_ {α:Type} [DecidableEq α] {k:TypeId} {fs:Array Field} {val:α->Value} (m:P.underlying k=some (.struct fs)) (v:∀ p q w,(Op.equal k (val p) (val q)).run P w=.ok (decide (p=q)) w) (p:α) (l:List α) (es:List MapEntry) (h:es.map (·.key)=l.map val) :
    (p ∉ l->do_ P k (val p) es none)/\(p∈l->(∀ x∈es,x.val=.bool true)->∃ j,do_ P k (val p) es (some (j,.bool true))):=by
  have y:=la_ m v p l es 0 h;have d:∀ (e:MapEntry) (r:List MapEntry),Instr.findNow (.struct fs) (val p) (e::r) 0=none:=λe r=>by simp[Instr.findNow,Instr.sameNow]
  cases es with
  | nil =>
    have:l=[]:=by simpa using h.symm
    subst this;exact⟨λ_ w=>by simp[Instr.findKey,run_underlying m,Instr.findNow],λh=>by simp at h⟩
  | cons e r =>
    refine⟨λA w=>?_,λhm B=>?_⟩
    . simp only[Instr.findKey,Sem.run_bind,run_underlying m,Result.andThen_ok,d]
      exact y.1 A w
    . obtain⟨j,C⟩:=y.2 hm B
      refine⟨j,λw=>?_⟩;simp only[Instr.findKey,Sem.run_bind,run_underlying m,Result.andThen_ok,d];exact C w
end
end Go.Sx
namespace Go.Vs
open Go Go.Sx
structure Pc where
  kind:Int
  a:Str
  b:Str
  c:Str
  r:Str
  s:Str
  t:Str
  lo:Int
  hi:Int
  frm:Int
  deriving DecidableEq
namespace Pc
def cells (p:Pc):List Value:=[.int .i64 p.kind,str p.a,str p.b,str p.c,str p.r,str p.s,str p.t,.int .i64 p.lo,.int .i64 p.hi,.int .i64 p.frm]
def val (p:Pc):Value:=.agg p.cells.toArray
theorem cells_len (p:Pc):p.cells.length=10:=rfl
theorem cells_one (p:Pc):p.cells.all Value.oneCell'=true:=rfl
def eqb (p q:Pc):Bool:=(p.kind==q.kind)&&((p.a==q.a)&&((p.b==q.b)&&((p.c==q.c)&&((p.r==q.r)&&((p.s==q.s)&&((p.t==q.t)&&((p.lo==q.lo)&&((p.hi==q.hi)&&((p.frm==q.frm)&&true)))))))))
theorem eqb_eq (p q:Pc):p.eqb q=decide (p=q):=by
  rw[ybx_];cases p;cases q;simp[eqb]
end Pc
def ins (frm:Int) (l:List Pc) (p:Pc):List Pc:=if { p with frm:=frm }∈l then l else l++[{ p with frm:=frm }]
theorem cj_ (frm:Int) (l:List Pc) (p:Pc):(ins frm l p).length<=l.length+1:=by unfold ins;split<;>simp
structure Fc where
  kind:Int
  a:Str
  b:Str
  r:Str
  lo:Int
  hi:Int
  deriving DecidableEq
namespace Fc
def cells (p:Fc):List Value:=[.int .i64 p.kind,str p.a,str p.b,str p.r,.int .i64 p.lo,.int .i64 p.hi]
def val (p:Fc):Value:=.agg p.cells.toArray
theorem cells_len (p:Fc):p.cells.length=6:=rfl
def eqb (p q:Fc):Bool:=(p.kind==q.kind)&&((p.a==q.a)&&((p.b==q.b)&&((p.r==q.r)&&((p.lo==q.lo)&&((p.hi==q.hi)&&true)))))
theorem eqb_eq (p q:Fc):p.eqb q=decide (p=q):=by
  rw[ybx_];cases p;cases q;simp[eqb]
end Fc
end Go.Vs
namespace Go.Sx
open Go
theorem ao_ {P:Program} {N:Nf} {fr:Fr} {H:Hp} {Γ:List Fct} {d:Op} {ty:TypeId} {x y:Value} (h:Yld P N fr H Γ d ty x) (e:x=y):Yld P N fr H Γ d ty y:=e▸h
theorem vz_ {α:Type} (f:α->List Value) (n:Nat) (d:∀ x,(f x).length=n):∀ (l:List α) (i:Nat),(l.flatMap f).drop (i*n)=(l.drop i).flatMap f
  | l,0=>by simp
  | [],i+1=>by simp
  | x::l,i+1=>by
    simp only[yaG_,ycg_];rw[<-vz_ f n d l i,ydC_,d,yaT_ (by rw[d,ybB_];omega),ycX_]
    congr 1
    rw[ybB_];omega
theorem np_ {α:Type} (f:α->List Value) (n:Nat) (d:∀ x,(f x).length=n):∀ (l:List α) (i:Nat),(l.flatMap f).take (i*n)=(l.take i).flatMap f
  | l,0=>by simp
  | [],i+1=>by simp
  | x::l,i+1=>by
    simp only[yaG_,ybo_];rw[<-np_ f n d l i,ydG_,d,yab_ (by rw[d,ybB_];omega)]
    congr 2
    rw[ybB_];omega
theorem bG_.slice {α:Type} {f:α->List Value} {n:Nat} (e:∀ x,(f x).length=n) {v:Vw} {ad:Ao} {l:List α} {cap:Nat} (h:bG_ v ad (l.flatMap f)) (m:l.length<=cap) (i k:Nat):bG_ v (Sx.sad ad cap i n) (((l.drop i).take k).flatMap f):=by
 refine h.sad _ (λj x d=>?_) (by rw[cr_ f n e];exact ybr_ _ m);rw[<-np_ f n e,<-vz_ f n e,yaK_]at d
 split at d
 .rwa [ycW_]at d
 cases d
end Go.Sx
namespace Go.Vs
open Go Go.Sx
namespace Con
def pre (c:Con) (j:Nat):Con:=.mk 5 [] 0 0 (sad c.ad c.cap 0 5) (c.cap - 0) (c.parts.take j)
theorem pre_mem {c:Con} (d:c.ok) {v:Vw} (h:c.mem v) (j:Nat):(c.pre j).mem v:=by
  rw[mem_iff]at h ⊢;refine⟨?_,λp e=>h.2 p (ybO_ e)⟩;have:=h.1.slice cells_len (ok_len d).1 0 j;exact this
theorem pre_ok {c:Con} (d:c.ok) (j:Nat):(c.pre j).ok:=by
 have h:=ok_len d;refine⟨by decide,by decide,by simp,by decide,by decide,by decide,by decide,?_,?_,oks_iff.2 λp e=>ok_part d (ybO_ e)⟩
 .simp;omega
 rw[yaD_];omega
def andP (frm:Int) (c:Con):List Con->Nat->Str->List Pc->List Pc
  | [],_,_,l=>l
  | p::r,j,f,l=>andP frm c r (j+1) (c.pre (j+1)).atom (ins frm l ⟨2,f,p.atom,(c.pre (j+1)).atom,[],[],[],0,0,0⟩)
theorem ty_ (frm:Int) (c:Con):∀ (r:List Con) (j:Nat) (f:Str) (l:List Pc),(andP frm c r j f l).length<=l.length+r.length
  | [],_,_,l=>by simp[andP]
  | p::r,j,f,l=>by
    have e:=ty_ frm c r (j+1) (c.pre (j+1)).atom (ins frm l ⟨2,f,p.atom,(c.pre (j+1)).atom,[],[],[],0,0,0⟩);have d:=cj_ frm l ⟨2,f,p.atom,(c.pre (j+1)).atom,[],[],[],0,0,0⟩;simp only[andP,yal_];omega
def leftP (frm:Int):Con->List Pc->List Pc
  | c@(mk k nm lo hi _ _ ps),l =>
    if k=5 then andP frm c (ps.drop 1) 1 ((ps.map atom).headD []) (lefts frm ps l)
    else if k=6 then ins frm (lefts frm ps l) ⟨4,(ps.map atom).headD [],[],c.atom,nm,[],[],0,0,0⟩
    else if k=7 then ins frm l ⟨9,[],[],c.atom,nm,[],[],lo,hi,0⟩
    else l
where lefts (frm:Int):List Con->List Pc->List Pc
  | [],l=>l
  | p::ps,l=>lefts frm ps (leftP frm p l)
theorem leftP_eq (frm:Int) (c:Con) (l:List Pc):c.leftP frm l =
    if c.kind=5 then andP frm c (c.parts.drop 1) 1 ((c.parts.map atom).headD []) (leftP.lefts frm c.parts l)
    else if c.kind=6 then ins frm (leftP.lefts frm c.parts l) ⟨4,(c.parts.map atom).headD [],[],c.atom,c.name,[],[],0,0,0⟩
    else if c.kind=7 then ins frm l ⟨9,[],[],c.atom,c.name,[],[],c.lo,c.hi,0⟩
    else l:=by cases c;simp only[leftP];rfl
theorem kS_ (frm:Int):∀ (xs ys:List Con) (l:List Pc),leftP.lefts frm (xs++ys) l=leftP.lefts frm ys (leftP.lefts frm xs l)
  | [],_,_=>rfl
  | x::xs,ys,l=>by simp only[yaJ_,leftP.lefts];exact kS_ frm xs ys _
theorem lefts_step (frm:Int) {ps:List Con} {p:Con} {i:Nat} (d:ps[i]? = some p) (l:List Pc):leftP.lefts frm (ps.take (i+1)) l=p.leftP frm (leftP.lefts frm (ps.take i) l):=by
  rw[take_snoc d,kS_];rfl
theorem szs_len:∀ ps:List Con,ps.length<=sz.szs ps
  | []=>by simp[sz.szs]
  | p::ps=>by have:=szs_len ps;have:=p.sz_pos;simp only[sz.szs,yal_];omega
theorem leftP_len (frm:Int):∀ (m:Nat) (c:Con),c.sz<=m->∀ l,(c.leftP frm l).length+2<=l.length+2*c.sz+0+1
 | 0,c,h=>by have:=c.sz_pos;omega
 | m+1,c,h=>λl=>by
   have e:∀ ps:List Con,(∀ p∈ps,p.sz<=m)->∀ l,(leftP.lefts frm ps l).length+ps.length<=l.length+2*sz.szs ps:=by
     intro ps
     induction ps with
     | nil=>intro _ l;simp[leftP.lefts]
     | cons p ps ih =>
       intro d l;have A:=leftP_len frm m p (d p zaj_) l;have y:=ih (λq v=>d q (by simp[v])) (p.leftP frm l);simp only[leftP.lefts,sz.szs,yal_];omega
   have hk:=e c.parts (λp d=>by have:=sz_part d;omega) l;have x:c.sz=1+sz.szs c.parts:=by cases c;simp only[sz,parts]
   have hl:=szs_len c.parts;rw[leftP_eq]
   split
   . have:=ty_ frm c (c.parts.drop 1) 1 ((c.parts.map atom).headD []) (leftP.lefts frm c.parts l)
     simp only[ycp_]at this;omega
   . split
     . have:=cj_ frm (leftP.lefts frm c.parts l) ⟨4,(c.parts.map atom).headD [],[],c.atom,c.name,[],[],0,0,0⟩
       omega
     . split
       . have:=cj_ frm l ⟨9,[],[],c.atom,c.name,[],[],c.lo,c.hi,0⟩
         omega
       . omega
def rightP (frm:Int):Con->List Pc->List Pc
  | c@(mk k nm lo hi _ _ ps),l =>
    if k=5 then rights frm c.atom ps l
    else if k=6 then righty frm ps (ins frm l ⟨3,c.atom,[],(ps.map atom).headD [],nm,[],[],0,0,0⟩)
    else if k=7 then ins frm l ⟨8,c.atom,[],[],nm,[],[],lo,hi,0⟩
    else l
where
  rights (frm:Int) (a:Str):List Con->List Pc->List Pc
  | [],l=>l
  | p::ps,l=>rights frm a ps (rightP frm p (ins frm l ⟨1,a,[],p.atom,[],[],[],0,0,0⟩))
  righty (frm:Int):List Con->List Pc->List Pc
  | [],l=>l
  | p::ps,l=>righty frm ps (rightP frm p l)
theorem rightP_eq (frm:Int) (c:Con) (l:List Pc):c.rightP frm l =
    if c.kind=5 then rightP.rights frm c.atom c.parts l
    else if c.kind=6 then rightP.righty frm c.parts (ins frm l ⟨3,c.atom,[],(c.parts.map atom).headD [],c.name,[],[],0,0,0⟩)
    else if c.kind=7 then ins frm l ⟨8,c.atom,[],[],c.name,[],[],c.lo,c.hi,0⟩
    else l:=by cases c;simp only[rightP];rfl
theorem jO_ (frm:Int) (a:Str):∀ (xs ys:List Con) (l:List Pc),rightP.rights frm a (xs++ys) l=rightP.rights frm a ys (rightP.rights frm a xs l)
  | [],_,_=>rfl
  | x::xs,ys,l=>by simp only[yaJ_,rightP.rights];exact jO_ frm a xs ys _
theorem rights_step (frm:Int) (a:Str) {ps:List Con} {p:Con} {i:Nat} (d:ps[i]? = some p) (l:List Pc):rightP.rights frm a (ps.take (i+1)) l=p.rightP frm (ins frm (rightP.rights frm a (ps.take i) l) ⟨1,a,[],p.atom,[],[],[],0,0,0⟩):=by
  rw[take_snoc d,jO_];rfl
theorem rightP_len (frm:Int):∀ (m:Nat) (c:Con),c.sz<=m->∀ l,(c.rightP frm l).length+1<=l.length+2*c.sz
 | 0,c,h=>by have:=c.sz_pos;omega
 | m+1,c,h=>λl=>by
   have x:∀ ps:List Con,(∀ p∈ps,p.sz<=m)->∀ a l,(rightP.rights frm a ps l).length<=l.length+2*sz.szs ps:=by
     intro ps
     induction ps with
     | nil=>intro _ a l;simp[rightP.rights,sz.szs]
     | cons p ps ih =>
       intro d a l;have B:=cj_ frm l ⟨1,a,[],p.atom,[],[],[],0,0,0⟩;have C:=rightP_len frm m p (d p zaj_) (ins frm l ⟨1,a,[],p.atom,[],[],[],0,0,0⟩);have A:=ih (λq y=>d q (by simp[y])) a (p.rightP frm (ins frm l ⟨1,a,[],p.atom,[],[],[],0,0,0⟩));simp only[rightP.rights,sz.szs];omega
   have e:∀ ps:List Con,(∀ p∈ps,p.sz<=m)->∀ l,(rightP.righty frm ps l).length<=l.length+2*sz.szs ps:=by
     intro ps
     induction ps with
     | nil=>intro _ l;simp[rightP.righty,sz.szs]
     | cons p ps ih =>
       intro d l;have C:=rightP_len frm m p (d p zaj_) l;have A:=ih (λq y=>d q (by simp[y])) (p.rightP frm l);simp only[rightP.righty,sz.szs];omega
   have v:∀ p∈c.parts,p.sz<=m:=λp d=>by have:=sz_part d;omega
   have E:c.sz=1+sz.szs c.parts:=by cases c;simp only[sz,parts]
   rw[rightP_eq]
   split
   . have:=x c.parts v c.atom l;omega
   . split
     . have B:=cj_ frm l ⟨3,c.atom,[],(c.parts.map atom).headD [],c.name,[],[],0,0,0⟩
       have:=e c.parts v (ins frm l ⟨3,c.atom,[],(c.parts.map atom).headD [],c.name,[],[],0,0,0⟩);omega
     . split
       . have:=cj_ frm l ⟨8,c.atom,[],[],c.name,[],[],c.lo,c.hi,0⟩
         omega
       . omega
end Con
end Go.Vs
namespace Go.Sx
open Go
theorem bG_.rest {α:Type} {f:α->List Value} {n:Nat} (d:∀ x,(f x).length=n) {v:Vw} {ad:Ao} {l:List α} {cap:Nat} (h:bG_ v ad (l.flatMap f)) (e:l.length<=cap) (i:Nat):bG_ v (Sx.sad ad cap i n) ((l.drop i).flatMap f):=by
  have:=h.slice d e i l.length;rwa [yab_ zaj_]at this
theorem ld_ {α:Type} {l:List α} {x:α} {i:Nat} (d:l[i]? = some x):l.drop i=x::l.drop (i+1):=by
  have hi:=(yac_.1 d).1;rw[yaa_ hi]at d;simp only[yak_]at d;subst d;exact ybi_ hi
theorem sZ_ {α:Type} {l:List α} {x d:α} (e:l[0]? = some x):l.headD d=x:=by cases l<;>simp_all
end Go.Sx
namespace Go.Vs
open Go Go.Sx
namespace Ax
def chainP (frm:Int) (role:Str):List Str->Str->List Pc->List Pc
  | [],_,l=>l
  | r::t,f,l =>
    let all:=if t=[] then role else f++[46]++r
    chainP frm role t all (ins frm l ⟨6,[],[],[],f,r,all,0,0,0⟩)
def pieces (frm:Int) (x:Ax):List Pc :=
  if x.kind=1 then ins frm (x.right.rightP frm (x.left.leftP frm [])) ⟨1,x.left.atom,[],x.right.atom,[],[],[],0,0,0⟩
  else if x.kind=2 then
    ins frm (x.left.rightP frm (x.right.leftP frm (ins frm (x.right.rightP frm (x.left.leftP frm [])) ⟨1,x.left.atom,[],x.right.atom,[],[],[],0,0,0⟩))) ⟨1,x.right.atom,[],x.left.atom,[],[],[],0,0,0⟩
  else if x.kind=3 then ins frm (x.right.leftP frm (x.left.leftP frm [])) ⟨2,x.left.atom,x.right.atom,[33],[],[],[],0,0,0⟩
  else if x.kind=4 then ins frm (x.right.rightP frm []) ⟨4,[42],[],x.right.atom,x.role,[],[],0,0,0⟩
  else if x.kind=5 then ins frm [] ⟨5,[],[],[],x.roles.headD [],[],x.role,0,0,0⟩
  else if x.kind=6 then chainP frm x.role (x.roles.drop 1) (x.roles.headD []) []
  else if x.kind=7 then ins frm [] ⟨7,[],[],[],x.role,[],[],0,0,0⟩
  else if x.kind=8 then ins frm (x.right.rightP frm []) ⟨1,[123]++x.a++[125],[],x.right.atom,[],[],[],0,0,0⟩
  else ins frm [] ⟨3,[123]++x.a++[125],[],[123]++x.b++[125],x.role,[],[],0,0,0⟩
structure Good (x:Ax):Prop where
  k1:1<=x.kind
  k9:x.kind<=9
  left:x.kind<=3->x.left.check=0
  right:x.kind<=4\/x.kind=8->x.right.check=0
  role:x.kind=4\/x.kind=5\/x.kind=6\/x.kind=7\/x.kind=9->bj_ x.role=true
  roles:∀ r∈x.roles,bj_ r=true
  one:x.kind=5->x.roles.length=1
  chain:x.kind=6->2<=x.roles.length/\x.roles.length<=4
  a:x.kind=8\/x.kind=9->aV_ x.a=true
  b:x.kind=9->aV_ x.b=true
theorem good_of {x:Ax} (h:x.check=0):Good x:=by
 unfold check at h
 split at h
 .cases h
 rename_i m
 split at h
 .cases h
 rename_i d
 split at h
 .rename_i A;exact absurd h A.2
 rename_i A
 split at h
 .rename_i v;exact absurd h v.2
 rename_i v
 clear h;simp only[Bool.not_eq_false]at m d
 have hk:1<=x.kind/\x.kind<=9:=by
   unfold shaped at m
   split at m
   . cases m
   . rename_i B;simp only[ydH_]at B;omega
 have q:x.kind=1\/x.kind=2\/x.kind=3\/x.kind=4\/x.kind=5\/x.kind=6\/x.kind=7\/x.kind=8\/x.kind=9:=by omega
 unfold shaped at m;rw[yag_ zaa_]at m
 have y:∀ r∈x.roles,bj_ r=true:=by
   unfold namedU at d;simp only[yaq_]at d;exact λr y=>yaW_.1 d.2 r y
 unfold namedU at d
 rcases q with e|e|e|e|e|e|e|e|e<;>simp[us,rX_,e]at m d A v <;>
   refine⟨by omega,by omega,λ_=>?_,λ_=>?_,λ_=>?_,y,λ_=>?_,λ_=>?_,λ_=>?_,λ_=>?_⟩ <;>
   first|omega|assumption|exact d.1|exact d.2.1|exact d.2.2.1|(simp_all;done)|(exact⟨by omega,by omega⟩)
end Ax
def Clw {α:Type} (E:α->α->Bool->Prop) (n:Nat) (f:Nat->α) (c:Nat->Bool):Prop :=
  0<n/\f n=f 0/\(∀ m,m<n->E (f m) (f (m+1)) (c m))/\∃ m,m<n/\c m=true
def Clo {α:Type} (E:α->α->Bool->Prop) (n:Nat):Prop:=∃ (f:Nat->α) (c:Nat->Bool),Clw E n f c
theorem yO_ {p:Nat->Prop} {n:Nat} (h:p n):∃ m,p m/\m<=n/\∀ k,p k->m<=k:=by
 induction n using Nat.strongRecOn with
 | ind n ih =>
   by_cases g:∃ k,k<n/\p k
   . obtain⟨k,hk,d⟩:=g
     obtain⟨m,e,v,q⟩:=ih k hk d;exact⟨m,e,by omega,q⟩
   . exact⟨n,h,yaj_ _,λk hk=>Nat.not_lt.1 λhl=>g ⟨k,hl,hk⟩⟩
theorem Clw.inj {α:Type} {E:α->α->Bool->Prop} {n:Nat} {f:Nat->α} {c:Nat->Bool} (h:Clw E n f c) (hm:∀ k,Clo E k->n<=k):∀ a b,a<b->b<n->f a≠f b:=by
 intro a b B F e;obtain⟨_,C,hE,d,G,x⟩:=h
 by_cases g:a<=d/\d<b
 .have:=hm (b - a) ⟨λm=>f (a+m),λm=>c (a+m),by omega,by simp only[ycl_];rw[show a+(b - a)=b by omega,e],λm v=>by
    have:=hE (a+m) zaa_;rwa [ycG_]at this,d - a,by omega,by dsimp only;rw[show a+(d - a)=d by omega];exact x⟩
  omega
 have:=hm (n - (b - a)) ⟨λm=>if m<a then f m else f (m+(b - a)),λm=>if m<a then c m else c (m+(b - a)),by omega,?_,?_,?_⟩
 .omega
 .dsimp only
  rw[yag_ zaa_,show n - (b - a)+(b - a)=n by omega,C]
  by_cases A:0<a
  .rw[yao_ A]
  rw[yag_ A,show 0+(b - a)=b by omega,<-e,show a=0 by omega]
 .intro m v
  dsimp only
  by_cases q:m<a
  .rw[yao_ q,yao_ q]
   by_cases y:m+1<a
   .rw[yao_ y];exact hE m zaa_
   rw[yag_ y,show m+1+(b - a)=b by omega,<-e,show a=m+1 by omega];exact hE m zaa_
  rw[yag_ q,yag_ q,yag_ zaa_];have:=hE (m+(b - a)) zaa_;rwa [show m+(b - a)+1=m+1+(b - a) by omega]at this
 by_cases q:d<a
 .exact⟨d,by omega,by dsimp only;rw[yao_ q];exact x⟩
 exact⟨d - (b - a),by omega,by dsimp only;rw[yag_ zaa_,show d - (b - a)+(b - a)=d by omega];exact x⟩
def sig (c:Nat->Bool):Nat->Bool
  | 0=>false
  | n+1=>sig c n||c n
theorem nV_ {c:Nat->Bool}:∀ {n:Nat},sig c n=true↔∃ m,m<n/\c m=true
 | 0=>by simp[sig]
 | n+1=>by
   simp only[sig,yby_,nV_ (n:=n)];constructor
   . rintro (⟨m,q,d⟩|h)
     . exact⟨m,by omega,d⟩
     . exact⟨n,by omega,h⟩
   . rintro ⟨m,q,d⟩
     by_cases e:m=n
     . subst e;exact .inr d
     . exact .inl ⟨m,by omega,d⟩
theorem pH_ {c d:Nat->Bool}:∀ {n:Nat},(∀ m,m<n->c m=d m)->sig c n=sig d n
  | 0,_=>rfl
  | n+1,h=>by simp only[sig];rw[pH_ (n:=n) λm hm=>h m zaa_,h n zaa_]
def Wlk {α:Type} (E:α->α->Bool->Prop) (x y:α) (b:Bool) (n:Nat):Prop :=
  ∃ (f:Nat->α) (c:Nat->Bool),f 0=x/\f n=y/\(∀ m,m<n->E (f m) (f (m+1)) (c m))/\sig c n=b
theorem Wlk.nil {α:Type} {E:α->α->Bool->Prop} (x:α):Wlk E x x false 0:=⟨λ_=>x,λ_=>false,rfl,rfl,λm h=>absurd h zaa_,rfl⟩
theorem Wlk.snoc {α:Type} {E:α->α->Bool->Prop} {x y z:α} {b d:Bool} {n:Nat} (h:Wlk E x y b n) (e:E y z d):Wlk E x z (b||d) (n+1):=by
 obtain⟨f,c,B,q,v,A⟩:=h;refine⟨λm=>if m<=n then f m else z,λm=>if m<n then c m else d,?_,?_,?_,?_⟩
 .simp[B]
 .dsimp only;rw[yag_ zaa_]
 .intro m hm
  by_cases g:m<n
  .dsimp only;rw[yao_ zaa_,yao_ zaa_,yao_ g];exact v m g
  obtain rfl:m=n:=by omega
  dsimp only;rw[yao_ zaa_,yag_ zaa_,yag_ g,q];exact e
 simp only[sig,Nat.lt_irrefl,yce_];rw[pH_ (d:=c) λm hm=>by rw[yao_ hm],A]
theorem Wlk.clo {α:Type} {E:α->α->Bool->Prop} {x:α} {n:Nat} (h:Wlk E x x true n):Clo E n:=by
  obtain⟨f,c,q,d,v,e⟩:=h;obtain⟨m,hm,y⟩:=nV_.1 e;exact⟨f,c,by omega,by rw[q,d],v,m,hm,y⟩
structure Wy where
  role:Nat
  strict:Bool
  before:Nat
  many:Nat
def gE (G:List (List (Nat×Bool))) (i j:Nat) (c:Bool):Prop:=∃ l,G[i]? = some l/\(j,c)∈l
def nb_ (W:List Wy) (r:Nat) (b:Bool):Bool:=W.any λw=>w.role==r&&w.strict==b
theorem qf_ {W:List Wy} {r:Nat} {b:Bool}:nb_ W r b=true↔∃ w∈W,w.role=r/\w.strict=b:=by
  unfold nb_;rw[ybT_];simp only[yaq_,ycB_]
def Dn (start:Nat) (W:List Wy) (w:Wy) (s:Nat×Bool):Prop :=
  ¬(s.1=start/\(w.strict||s.2)=true)/\∃ w'∈W,w'.role=s.1/\w'.strict=(w.strict||s.2)/\w'.many<=w.many+1
theorem Dn.mono {d:Nat} {W V:List Wy} {w:Wy} {s:Nat×Bool} (h:Dn d W w s) (v:∀ x∈W,x∈V):Dn d V w s:=by
  obtain⟨m,w',e,q⟩:=h;exact⟨m,w',v _ e,q⟩
structure BI (G:List (List (Nat×Bool))) (start:Nat) (W:List Wy) (a k:Nat):Prop where
  z:W[0]? = some ⟨start,false,0,0⟩
  role:∀ (i:Nat) (w:Wy),W[i]? = some w->w.role<G.length
  bef:∀ (i:Nat) (w:Wy),W[i]? = some w->0<i->w.before<i
  wlk:∀ (i:Nat) (w:Wy),W[i]? = some w->Wlk (gE G) start w.role w.strict w.many
  mono:∀ (i j:Nat) (w x:Wy),i<=j->W[i]? = some w->W[j]? = some x->w.many<=x.many
  top:∀ (j:Nat) (w x:Wy),W[a]? = some w->W[j]? = some x->x.many<=w.many+1
  done:∀ (i:Nat) (w:Wy) (l:List (Nat×Bool)),i<a->W[i]? = some w->G[w.role]? = some l->∀ s∈l,Dn start W w s
  cur:∀ (w:Wy) (l:List (Nat×Bool)),W[a]? = some w->G[w.role]? = some l->∀ s∈l.take k,Dn start W w s
  nd:∀ (i j:Nat) (w x:Wy),i<j->W[i]? = some w->W[j]? = some x->¬(w.role=x.role/\w.strict=x.strict)
  many:∀ (i:Nat) (w:Wy),W[i]? = some w->w.many<=i
theorem BI.init {G:List (List (Nat×Bool))} {d:Nat} (h:d<G.length):BI G d [⟨d,false,0,0⟩] 0 0:=by
 have e:∀ (i:Nat) (w:Wy),[(⟨d,false,0,0⟩:Wy)][i]? = some w->i=0/\w=⟨d,false,0,0⟩:=λi w m=>by
   have hl:=(yac_.1 m).1;simp only[ybF_]at hl;obtain rfl:i=0:=by omega
   simp only[ybe_,yak_]at m;exact⟨rfl,m.symm⟩
 refine⟨rfl,λi w m=>?_,λi w m hi=>?_,λi w m=>?_,λi j w x _ m q=>?_,λj w x m q=>?_,λi w l hi=>by omega,λw l _ _ s v=>by simp at v,λi j w x y m q=>?_,λi w m=>?_⟩
 .obtain⟨_,rfl⟩:=e i w m;exact h
 .obtain⟨rfl,_⟩:=e i w m;omega
 .obtain⟨_,rfl⟩:=e i w m;exact Wlk.nil _
 .obtain⟨_,rfl⟩:=e i w m;exact ybC_ _
 .obtain⟨_,rfl⟩:=e j x q;exact ybC_ _
 .obtain⟨rfl,_⟩:=e i w m;obtain⟨rfl,_⟩:=e j x q;omega
 obtain⟨_,rfl⟩:=e i w m;exact ybC_ _
theorem BI.found {G:List (List (Nat×Bool))} {e a k:Nat} {W:List Wy} (h:BI G e W a k) {w:Wy} {l:List (Nat×Bool)} {s:Nat×Bool} (m:W[a]? = some w) (hl:G[w.role]? = some l) (x:l[k]? = some s) (v:s.1=e) (q:(w.strict||s.2)=true):Clo (gE G) (w.many+1):=by
  have:=(h.wlk a w m).snoc (z:=s.1) (d:=s.2) ⟨l,hl,yad_ x⟩;rw[v,q]at this;exact this.clo
theorem nK_ {α:Type} {l:List α} {k:Nat} {x:α} (h:l[k]? = some x):l.take (k+1)=l.take k++[x]:=by rw[yaz_,h];rfl
theorem BI.skip {G:List (List (Nat×Bool))} {d a k:Nat} {W:List Wy} (h:BI G d W a k) {w:Wy} {l:List (Nat×Bool)} {s:Nat×Bool} (v:W[a]? = some w) (hl:G[w.role]? = some l) (B:l[k]? = some s) (F:¬(s.1=d/\(w.strict||s.2)=true)) (y:nb_ W s.1 (w.strict||s.2)=true):BI G d W a (k+1):=by
 refine { h with cur:=λw' H e q x m=>?_ };rw[v]at e;simp only[yak_]at e;subst e;rw[hl]at q;simp only[yak_]at q;subst q;rw[nK_ B,yah_,yai_]at m;rcases m with m|rfl
 .exact h.cur w l v hl x m
 obtain⟨w',e,C,A⟩:=qf_.1 y;obtain⟨j,E⟩:=ybq_ e;exact⟨F,w',e,C,A,h.top j w w' v E⟩
theorem BI.push {G:List (List (Nat×Bool))} {q a k:Nat} {W:List Wy} (h:BI G q W a k) {w:Wy} {l:List (Nat×Bool)} {s:Nat×Bool} (C:W[a]? = some w) (hl:G[w.role]? = some l) (I:l[k]? = some s) (O:s.1<G.length) (M:¬(s.1=q/\(w.strict||s.2)=true)) (L:nb_ W s.1 (w.strict||s.2)=false):BI G q (W++[⟨s.1,w.strict||s.2,a,w.many+1⟩]) a (k+1):=by
 have J:a<W.length:=(yac_.1 C).1
 have e:∀ (i:Nat) (x:Wy),(W++[(⟨s.1,w.strict||s.2,a,w.many+1⟩:Wy)])[i]? = some x->W[i]? = some x\/(i=W.length/\x=⟨s.1,w.strict||s.2,a,w.many+1⟩):=λi x d=>by
   rcases ydL_ i W.length with g|g
   . rw[ybb_ g]at d;exact .inl d
   . have H:=(yac_.1 d).1
     simp only[yaf_,ybF_]at H;obtain rfl:i=W.length:=by omega
     rw[ybh_ (yaj_ _),ycS_]at d;simp only[ybe_,yak_]at d;exact .inr ⟨rfl,d.symm⟩
 have F:∀ x:Wy,(W++[(⟨s.1,w.strict||s.2,a,w.many+1⟩:Wy)])[a]? = some x->x=w:=λx d=>by
   rw[ybb_ J,C]at d;simp only[yak_]at d;exact d.symm
 have sub:∀ x∈W,x∈W++[(⟨s.1,w.strict||s.2,a,w.many+1⟩:Wy)]:=λx d=>yam_ _ d
 refine⟨by rw[ybb_ zaa_];exact h.z,λi x d=>?_,λi x d hi=>?_,λi x d=>?_,λi j x y B d m=>?_,λj x y d m=>?_,λi x K hi d A E v=>?_,λx K d A E v=>?_,λi j x y B d m=>?_,λi x d=>?_⟩
 .rcases e i x d with d|⟨_,rfl⟩
  .exact h.role i x d
  exact O
 .rcases e i x d with d|⟨rfl,rfl⟩
  .exact h.bef i x d hi
  exact J
 .rcases e i x d with d|⟨_,rfl⟩
  .exact h.wlk i x d
  exact (h.wlk a w C).snoc ⟨l,hl,yad_ I⟩
 .rcases e j y m with m|⟨rfl,rfl⟩
  .rcases e i x d with d|⟨rfl,rfl⟩
   .exact h.mono i j x y B d m
   have:=(yac_.1 m).1;omega
  rcases e i x d with d|⟨rfl,rfl⟩
  .exact h.top i w x C d
  exact yaj_ _
 .obtain rfl:=F x d
  rcases e j y m with m|⟨rfl,rfl⟩
  .exact h.top j x y C m
  exact yaj_ _
 .rw[ybb_ zaa_]at d
  exact (h.done i x K hi d A E v).mono sub
 .obtain rfl:=F x d
  rw[hl]at A;simp only[yak_]at A;subst A;rw[nK_ I,yah_,yai_]at v;rcases v with v|rfl
  .exact (h.cur x l C hl E v).mono sub
  exact⟨M,⟨E.1,x.strict||E.2,a,x.many+1⟩,by simp,rfl,rfl,yaj_ _⟩
 .rcases e i x d with d|⟨rfl,rfl⟩
  .rcases e j y m with m|⟨rfl,rfl⟩
   .exact h.nd i j x y B d m
   rintro ⟨P,N⟩;have:nb_ W s.1 (w.strict||s.2)=true:=qf_.2 ⟨x,yad_ d,P,N⟩;rw[L]at this;cases this
  rcases e j y m with m|⟨rfl,rfl⟩
  .have:=(yac_.1 m).1;omega
  omega
 rcases e i x d with d|⟨rfl,rfl⟩
 .exact h.many i x d
 have:=h.many a w C;dsimp only;omega
theorem BI.next {G:List (List (Nat×Bool))} {d a k:Nat} {W:List Wy} (h:BI G d W a k) {w:Wy} {l:List (Nat×Bool)} (v:W[a]? = some w) (hl:G[w.role]? = some l) (hk:l.length<=k):BI G d W (a+1) 0:=by
 refine { h with top:=λj x y q C=>?_,done:=λi x B hi q m s A=>?_,cur:=λx B _ _ s A=>by simp at A }
 .have F:=h.top j w y v C
  have E:=h.mono a (a+1) w x zaa_ v q;omega
 by_cases e:i=a
 .subst e
  rw[v]at q;simp only[yak_]at q;subst q;rw[hl]at m;simp only[yak_]at m;subst m;exact h.cur w l v hl s (by rw[yab_ hk];exact A)
 exact h.done i x B zaa_ q m s A
theorem BI.none {G:List (List (Nat×Bool))} {d a most:Nat} {W:List Wy} (h:BI G d W a 0) (q:∀ w:Wy,W[a]? = some w->most<=w.many+1) (X:∀ (i:Nat) (l:List (Nat×Bool)),G[i]? = some l->∀ s∈l,s.1<G.length)
    {n:Nat} {f:Nat->Nat} {c:Nat->Bool} (T:Clw (gE G) n f c) (L:f 0=d):most<=n:=by
  apply Nat.not_lt.1
  intro Y;obtain⟨V,J,hE,Q,C,A⟩:=T
  -- where a way with few steps stands,it is done
  have v:∀ (i:Nat) (w:Wy),W[i]? = some w->w.many+1<most->i<a:=λi w e hm=>by
    apply Nat.not_le.1
    intro I;have N:=(yac_.1 e).1;obtain⟨x,M⟩:∃ x,W[a]? = some x:=⟨_,yaa_ (show a<W.length by omega)⟩;have K:=q x M;have U:=h.mono a i x w I M e;omega
  have m:∀ j,j<n->∃ (i:Nat) (w:Wy),W[i]? = some w/\w.role=f j/\w.strict=sig c j/\w.many<=j:=by
    intro j
    induction j with
    | zero=>intro _;exact⟨0,_,h.z,L.symm,rfl,yaj_ _⟩
    | succ j ih =>
      intro Z;obtain⟨i,w,e,H,E,R⟩:=ih zaa_;obtain⟨l,hl,F⟩:=hE j zaa_;obtain⟨_,w',y,P,O,g3⟩:=h.done i w l (v i w e zaa_) e (by rw[H];exact hl) _ F;obtain⟨S,B⟩:=ybq_ y;exact⟨S,w',B,P,by rw[O,E];rfl,by omega⟩
  obtain⟨i,w,e,H,E,R⟩:=m (n - 1) zaa_;obtain⟨l,hl,F⟩:=hE (n - 1) zaa_;obtain⟨K,_⟩:=h.done i w l (v i w e zaa_) e (by rw[H];exact hl) _ F;refine K ⟨?_,?_⟩
  . dsimp only;rw[show n - 1+1=n by omega,J,L]
  . rw[E]
    have:=(nV_ (c:=c) (n:=n)).2 ⟨Q,C,A⟩;obtain⟨k,rfl⟩:∃ k,n=k+1:=⟨n - 1,by omega⟩;exact this
theorem BI.len {G:List (List (Nat×Bool))} {m a k:Nat} {W:List Wy} (h:BI G m W a k):W.length<=2*G.length:=by
  have A:(W.map λw=>2*w.role+w.strict.toNat).Nodup:=by
    unfold List.Nodup;rw[ycu_,yaP_];intro i j hi E B e;refine h.nd i j _ _ B (yaa_ hi) (yaa_ E) ?_;generalize W[i]=x at e
    generalize W[j]=y at e
    obtain⟨r,b,_,_⟩:=x;obtain⟨q,d,_,_⟩:=y;cases b<;>cases d<;>simp only[Bool.toNat_false,Bool.toNat_true]at e ⊢<;>simp<;>omega
  have v:(W.map λw=>2*w.role+w.strict.toNat) ⊆ List.range (2*G.length):=by
    intro z F;obtain⟨w,C,rfl⟩:=yap_.1 F;obtain⟨i,hi⟩:=ybq_ C;have:=h.role i w hi;rw[ycz_];have H:w.strict.toNat<=1:=by cases w.strict<;>simp
    omega
  have:=A.length_le_of_subset v;rwa [yaF_,ydz_]at this
theorem Clw.short {G:List (List (Nat×Bool))} {n:Nat} {f:Nat->Nat} {c:Nat->Bool} (h:Clw (gE G) n f c) (hm:∀ k,Clo (gE G) k->n<=k):n<=G.length:=by
  have q:((List.range n).map f).Nodup:=by
    unfold List.Nodup;rw[ycu_,yaP_];intro i j hi x v;simp only[List.getElem_range];exact h.inj hm i j v (by simpa using x)
  have d:((List.range n).map f) ⊆ List.range G.length:=by
    intro z y;obtain⟨m,e,rfl⟩:=yap_.1 y;obtain⟨l,hl,_⟩:=h.2.2.1 m (ycz_.1 e);exact ycz_.2 (yac_.1 hl).1
  have:=q.length_le_of_subset d;rwa [yaF_,ydz_,ydz_]at this
theorem zN_ {G:List (List (Nat×Bool))} (h:∀ (n:Nat) (f:Nat->Nat) (c:Nat->Bool),Clw (gE G) n f c->f 0<G.length->G.length+1<=n):∀ n,¬ Clo (gE G) n:=by
  intro n q;obtain⟨m,⟨f,c,e⟩,_,d⟩:=yO_ q;have x:=e.short d;obtain⟨l,hl,_⟩:=e.2.2.1 0 e.1;have v:=h m f c e (yac_.1 hl).1;omega
end Go.Vs
namespace Go.Sx
open Go
section
variable {P:Program} {N:Nf} {v0:Vw} {H0:Hp} {R:Exit->Act->World->Prop} {K:List Kt} {fr:Fr} {H:Hp} {Γ:List Fct}
variable {ops:Array Oper} {l:List Oper} {d:Nat} {ty:TypeId} {ps:String} {af:Array Edge}
theorem px_ {t:TypeId} {x:Operand} {b n:Nat} (i:Nat) {T:TypeId} {fz:Nat×Nat} {us:List Value} (e:∀ w,(isAgg t).run P w=.ok true w) (h:∀ w,(sizeOf t).run P w=.ok n w) (q:us.length=n)
    (m:Fr.ev fr x=some (.pointer (some ⟨b,0,none⟩))) (hi:H[i]? = some (b,.cells us.toArray T fz)):Yld P N fr H Γ (.load t x) ty (.agg us.toArray) :=
  cQ_ i e h m hi (by have:=sO_ us;rw[q]at this;exact this)
theorem ok_ {t:TypeId} {x y:Operand} {b n:Nat} (i:Nat) {cur:Array Value} {T:TypeId} {us:List Value} (q:∀ w,(sizeOf t).run P w=.ok n w) (A:us.length=n) (B:us.all Value.oneCell'=true)
    (v:Fr.ev fr x=some (.pointer (some ⟨b,0,none⟩))) (m:Fr.ev fr y=some (.agg us.toArray)) (hi:H[i]? = some (b,.cells cur T (0,0))) (h:cur.size=n)
    (hk:Ops P R N v0 H0 ops l K fr (H.set i (b,.cells us.toArray T (0,0))) Γ) :
    Ops P R N v0 H0 ops (⟨none,.store t x y,ty,ps,af,none⟩::l) K fr H Γ:=by
  refine n_ i q v m hi (by simp[Value.cells,A]) (by simp[h]) B ?_
  have e:(cur.toList.take 0++(Value.agg us.toArray).cells.toList++cur.toList.drop (0+n)).toArray=us.toArray:=by
    have C:cur.toList.length=n:=by simp[h]
    simp[Value.cells,yaT_ (show cur.toList.length<=n by omega)]
  rw[e];exact hk
theorem wv_ {b k:Nat} {cur:Array Value} {T:TypeId} {fz:Nat×Nat} {cs:List Value} (i:Nat) (hi:H[i]? = some (b,.cells cur T fz)) (m:cur.toList.take k=cs):∀ v:Vw,v.sat H->af_ Γ v->∀ j u,cs[j]? = some u->v.w.cell? ((⟨b,0,none⟩:Addr).add j)=some u:=by
 intro v h _ j u e;rw[cp_,ybw_,gi_ h hi];rw[<-m,yaK_]at e
 split at e
 .exact e
 cases e
theorem gj_ {k:Act->World->Prop} {e:TypeId} {sz n:Nat} {sv:Value} {xs:List Value} {Hr F:Hp} (C:at_ e sz sv n xs Hr) (B:H.Perm (Hr++F))
    (h:∀ ad cap,sv=.slice ad n cap->n<=cap->cap<=maxLen->Ok N v0 H0 k fr F (ac_ ad xs::Γ)):Ok N v0 H0 k fr H Γ:=by
  rcases C.2 with⟨A,q,y⟩|⟨g,cap,cur,A,q,y,M,O,L⟩
  . subst A q y
    have I:xs=[]:=yau_ (by simpa using C.1);refine A_ B (iN_ (Γ':=ac_ none xs::Γ) (λv _ G=>⟨.inl I,G⟩) (h none 0 rfl (yaj_ _) (ybC_ _)))
  . subst A q
    refine eO_ (ac_ (some ⟨g,0,none⟩) xs) B (λv J E _=>.inr ⟨g,0,cur,e,(0,0),rfl,J,E,λj x m=>?_⟩) (h _ cap rfl y M);rw[<-L,yaK_]at m
    split at m
    . rw[ybw_];simpa using m
    . cases m
end
end Go.Sx
namespace Go.Vs
open Go Go.Sx
theorem Con.one_cells (c:Con):c.cells.all Value.oneCell'=true:=rA_ c
theorem Ax.one_cells (x:Ax):x.cells.all Value.oneCell'=true:=by
  simp only[Ax.cells,List.all_cons,ycV_,Con.one_cells];rfl
def cG_ (ad:Ao) (l:List Ax):Fct where
  p:=λv=>bG_ v ad (l.flatMap Ax.cells)/\∀ x∈l,x.mem v
  mono:=λv v' h hp=>⟨(ac_ ad _).mono v v' h hp.1,λx hx=>x.memF.mono v v' h (hp.2 x hx)⟩
theorem ze_ (frm:Int) (l:List Pc) (p:Pc):ins frm l p≠[]:=by
 unfold ins
 split
 .rename_i h;intro e;rw[e]at h;simp at h
 simp
theorem Ax.chainP_ne (frm:Int) (ro:Str):∀ (rs:List Str) (f:Str) (l:List Pc),rs≠[]\/l≠[]->Ax.chainP frm ro rs f l≠[]
  | [],f,l,h=>by rcases h with h|h;exact absurd rfl h;exact h
  | r::t,f,l,_=>by simp only[Ax.chainP];exact Ax.chainP_ne frm ro t _ _ (.inr (ze_ _ _ _))
theorem Ax.pieces_ne (frm:Int) {x:Ax} (G:x.Good):x.pieces frm≠[]:=by
  unfold Ax.pieces
  repeat' split
  all_goals first|exact ze_ _ _ _|skip
  rename_i h
  have:=G.chain h;exact Ax.chainP_ne _ _ _ _ _ (.inl (by intro e;rw[ydo_]at e;omega))
def ep_:List Ax->Int
  | []=>0
  | x::l=>if x.check=0 then ep_ l else x.check
def hL_:Nat->List Ax->List Pc->Option (List Pc)
  | _,[],p=>some p
  | i,x::l,p=>if 16384<(p++x.pieces i).length then none else hL_ (i+1) l (p++x.pieces i)
def bg_ (l:List Ax):List Pc×Int :=
  if 1024<l.length then ([],2) else if ep_ l≠0 then ([],ep_ l) else match hL_ 0 l [] with|some p=>(p,0)|none=>([],2)
theorem if_:∀ (xs ys:List Ax),(∀ x∈xs,x.check=0)->ep_ (xs++ys)=ep_ ys
  | [],_,_=>rfl
  | x::xs,ys,h=>by simp only[yaJ_,ep_,h x zaj_,ycn_];exact if_ xs ys λy e=>h y zbJ_
theorem fu_:∀ {l:List Ax},(∀ x∈l,x.check=0)->ep_ l=0
  | [],_=>rfl
  | x::l,h=>by simp only[ep_,h x zaj_,ycn_];exact fu_ λy e=>h y zbJ_
theorem td_ {l:List Ax} {x:Ax} {i:Nat} (m:l[i]? = some x) (h:∀ y∈l.take i,y.check=0) (q:x.check≠0):ep_ l=x.check:=by
  have e:l=l.take i++x::l.drop (i+1):=by rw[<-ld_ m,ybK_]
  rw[e,if_ _ _ h];simp only[ep_,q,yce_]
theorem ki_ (frm:Int) {x:Ax} (G:x.Good):(x.pieces frm).length<=1000:=by
 have hl:x.kind<=3->x.left.sz<=64:=λh=>(Con.check_zero (G.left h)).2
 have e:x.kind<=4\/x.kind=8->x.right.sz<=64:=λh=>(Con.check_zero (G.right h)).2
 have B:∀ (ro:Str) (rs:List Str) (f:Str) (l:List Pc),(Ax.chainP frm ro rs f l).length<=l.length+rs.length:=by
   intro ro rs
   induction rs with
   | nil=>intro f l;simp[Ax.chainP]
   | cons r t ih =>
     intro f l;simp only[Ax.chainP];have J:=ih (if t=[] then ro else f++[46]++r) (ins frm l ⟨6,[],[],[],f,r,if t=[] then ro else f++[46]++r,0,0,0⟩);have E:=cj_ frm l ⟨6,[],[],[],f,r,if t=[] then ro else f++[46]++r,0,0,0⟩;simp only[yal_];omega
 have L:=λ(c:Con) l=>Con.leftP_len frm _ c (yaj_ _) l
 have m:=λ(c:Con) l=>Con.rightP_len frm _ c (yaj_ _) l
 have F:([]:List Pc).length=0:=rfl;unfold Ax.pieces
 split
 .have:=hl zaa_;have:=e zaa_
  have q:=L x.left [];have y:=m x.right (x.left.leftP frm []);have v:=cj_ frm (x.right.rightP frm (x.left.leftP frm [])) ⟨1,x.left.atom,[],x.right.atom,[],[],[],0,0,0⟩;omega
 split
 .have:=hl zaa_;have:=e zaa_
  have q:=L x.left [];have y:=m x.right (x.left.leftP frm []);have v:=cj_ frm (x.right.rightP frm (x.left.leftP frm [])) ⟨1,x.left.atom,[],x.right.atom,[],[],[],0,0,0⟩;have C:=L x.right (ins frm (x.right.rightP frm (x.left.leftP frm [])) ⟨1,x.left.atom,[],x.right.atom,[],[],[],0,0,0⟩);have M:=m x.left (x.right.leftP frm (ins frm (x.right.rightP frm (x.left.leftP frm [])) ⟨1,x.left.atom,[],x.right.atom,[],[],[],0,0,0⟩));have I:=cj_ frm (x.left.rightP frm (x.right.leftP frm (ins frm (x.right.rightP frm (x.left.leftP frm [])) ⟨1,x.left.atom,[],x.right.atom,[],[],[],0,0,0⟩))) ⟨1,x.right.atom,[],x.left.atom,[],[],[],0,0,0⟩;omega
 split
 .have:=hl zaa_;have:=e zaa_
  have q:=L x.left [];have y:=L x.right (x.left.leftP frm []);have v:=cj_ frm (x.right.leftP frm (x.left.leftP frm [])) ⟨2,x.left.atom,x.right.atom,[33],[],[],[],0,0,0⟩;omega
 split
 .have:=e zaa_
  have q:=m x.right [];have v:=cj_ frm (x.right.rightP frm []) ⟨4,[42],[],x.right.atom,x.role,[],[],0,0,0⟩;omega
 split
 .have:=cj_ frm [] ⟨5,[],[],[],x.roles.headD [],[],x.role,0,0,0⟩;omega
 split
 .rename_i A
  have:=G.chain A;have:=B x.role (x.roles.drop 1) (x.roles.headD []) [];simp only[ycp_]at this;omega
 split
 .have:=cj_ frm [] ⟨7,[],[],[],x.role,[],[],0,0,0⟩;omega
 split
 .have:=e zaa_
  have q:=m x.right [];have v:=cj_ frm (x.right.rightP frm []) ⟨1,[123]++x.a++[125],[],x.right.atom,[],[],[],0,0,0⟩;omega
 have:=cj_ frm [] ⟨3,[123]++x.a++[125],[],[123]++x.b++[125],x.role,[],[],0,0,0⟩;omega
end Go.Vs
