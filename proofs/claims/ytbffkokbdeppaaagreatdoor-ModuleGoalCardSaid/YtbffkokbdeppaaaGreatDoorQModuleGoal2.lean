/-
  Lemmas for the law ModuleGoal (no condition).
-/
import Derived.Test.YtbffkokbdeppaaaGreatDoorQModuleGoal1
import Derived.RangeFuncRecord
import Derived.Lib.Bytealg
import Derived.Below
import Derived.MapKept
import Derived.Deep.Draws
import Derived.Sort.Grow
import Derived.Lib.Join
import Derived.Lib.ItoaLen
import Derived.Laws.StructEq
import Derived.Laws.MakeOwn
set_option linter.unusedVariables false
set_option linter.unusedSimpArgs false
set_option linter.unusedSectionVars false
set_option maxHeartbeats 1000000
namespace Go.Sx
open Go
section
variable {P:Program} {N:Nat} {v0:Vw} {H0:Hp} {R:Exit->Act->World->Prop} {K:List Kt} {fr:Fr} {H F:Hp} {Γ:List Fct}
theorem gk_ {v:Vw} {l:Nat} {o o':Obj} (h:v.sat ((l,o)::F)):(⟨v.im,v.w.putObj l o',v.sl⟩:Vw).sat ((l,o')::F)/\v.to ((l,o)::F) ⟨v.im,v.w.putObj l o',v.sl⟩ ((l,o')::F):=by
  have hl:=(h.own (l,o) yao_).1;have:=gj_ (i:=0) (o':=o') (w':=v.w.putObj l o') h rfl rfl rfl rfl (yad_ _) zai_ (World.putObj_heap_same (yaA_.1 hl).1) (λk hk=>World.putObj_heap_other hk)
  grind
theorem hF_ {ι:Type} {c:Code} (d:ι->Fr) (Hs:ι->Hp) (h:ι->List Fct) (E:iB_ Fence.wide 0 P (Mid N v0 H0 d Hs h) N [] v0 H0 c [] fr H Γ) (y:∀ i,Fin P R N v0 H0 K (d i) (Hs i) (h i)):Run P R N v0 H0 c K fr H Γ:=by
  intro a v m A I k;refine wp_mono (wpIn_wide.1 (dH_.1 E a v m A I k)) ?_;rintro e C w' ⟨rfl,i,x,rfl,k1,k2,B,G⟩;exact y i C x k1 k2 B G
def vS_ {σ τ:Type} (v0:Vw) (H0:Hp) (Hj:σ->Hp) (Hx:τ->Hp) (HL:Hp) (res:σ ⊕ τ):Exit->Act->World->Prop
  | .normal,_,w=>∃ s' v,res=.inl s'/\v.w=w/\v.sat (Hj s'++HL)/\v0.to H0 v (Hj s'++HL)
  | .ret,_,w=>∃ t v,res=.inr t/\v.w=w/\v.sat (Hx t++HL)/\v0.to H0 v (Hx t++HL)
  | _,_,_=>False
def tU_ {σ τ:Type} (Gj:σ->Hp) (Gx:τ->Hp):σ ⊕ τ->Hp
  | .inl s=>Gj s
  | .inr t=>Gx t
def HLp (l D:Nat) (r:Loop):Hp:=[(l,.loop r),(D,.deferred (some []))]
theorem oh_ {σ τ ι:Type} {l D:Nat} {d:Loop} {C:Nat} {x:Value} {Hj:σ->Hp} {Hx:τ->Hp} {s:σ} {res:σ ⊕ τ} (M:ι->Fr) (HA:ι->Hp)
    (hp:d.params=#[C]) (W:d.state=.ready) (hpe:d.pending=none) (ht:Fr.sat N fr ⟨d.tmps,[]⟩) (Q:Nat.blt C N=true)
    (m:∀ n v0 H0 HL,iB_ (Fence.wide.inRound l) n P (Mid N v0 H0 M (λi=>HA i++HL) (λ_=>Γ)) N [] v0 H0 d.assign [] ((C,x)::fr) (Hj s++HL) Γ)
    (B:∀ n v0 H0 HL i,iB_ (Fence.wide.inRound l) n P (vS_ v0 H0 Hj Hx HL res) N [] v0 H0 d.body [] (M i) (HA i++HL) Γ) :
    kG_ P l x (Hj s++HLp l D d) Γ (λ_:Unit=>.bool res.isLeft) (λ_=>tU_ (λV=>Hj V++HLp l D d) (λt=>Hx t++HLp l D { d with state:=.done,pending:=some .ret }) res) (λ_=>[]):=by
  intro v hs hΓ
  have h:∀ (X:Hp) r,(X++HLp l D r).Perm ((l,.loop r)::(X++[(D,.deferred (some []))])):=λX r=>by
    grind[HLp,List.perm_middle]
  have hl:v.w.heap[l]? = some (.loop d):=((hs.perm (h _ _)).own _ yao_).1;refine⟨d.fn,_,d.assign,d.body,run_yield hl (by simp[hp]),λn=>roundIn_of_wpIn trivial ?_⟩;have T:(d.params.zip #[x]).foldl (λtmps (t,a)=>tmps.setIfInBounds t a) d.tmps=d.tmps.setIfInBounds C x:=by simp[hp]
  rw[T];have L:Fr.sat N ((C,x)::fr) ⟨d.tmps.setIfInBounds C x,[]⟩:=ht.put Q;refine wpIn_mono (dH_.1 (m n v (Hj s++HLp l D d) (HLp l D d)) ⟨d.tmps.setIfInBounds C x,[]⟩ v L hs (Vw.to.refl _ _) hΓ) ?_;rintro e a1 w1 ⟨rfl,i,J,rfl,k1,k2,k3,k4⟩;have E:=k2.perm (h _ _);have S:=(E.own _ yao_).1;obtain⟨m1,m2⟩:=gk_ (o':=.loop { d with state:=.busy }) E;refine⟨_,run_beginRound S W,?_⟩;have m3:=m1.perm (h (HA i) { d with state:=.busy }).symm
  have m4:v.to (Hj s++HLp l D d) ⟨J.im,J.w.putObj l (.loop { d with state:=.busy }),J.sl⟩ (HA i++HLp l D { d with state:=.busy }) :=
    (k3.trans ((m2.permL (h _ _).symm).subR λb I=>((h (HA i) { d with state:=.busy }).map Prod.fst).mem_iff.1 I))
  have a0:=aT_ (m2.le E) k4;refine wpIn_mono (dH_.1 (B n v (Hj s++HLp l D d) (HLp l D { d with state:=.busy }) i) a1 ⟨J.im,_,J.sl⟩ k1 m3 m4 a0) ?_;intro e2 a2 w2 G;cases e2 with
  | normal =>
    obtain⟨V,A,rfl,rfl,Z,U⟩:=G;have k:=Z.perm (h _ _);have y:=(k.own _ yao_).1;obtain⟨O,Y⟩:=gk_ (o':=.loop d) k;have er:({ d with state:=.ready,pending:=none }:Loop)=d:=by cases d;simp_all
    refine⟨_,_,run_endRound none y,(),⟨A.im,A.w.putObj l (.loop d),A.sl⟩,rfl,?_,O.perm (h _ _).symm,trivial,U.trans ((Y.permL (h _ _).symm).subR λb I=>((h (Hj V) d).map Prod.fst).mem_iff.1 I)⟩;simp[er]
  | ret =>
    obtain⟨t,A,rfl,rfl,Z,U⟩:=G;have k:=Z.perm (h _ _);have y:=(k.own _ yao_).1;obtain⟨O,Y⟩:=gk_ (o':=.loop { d with state:=.done,pending:=some .ret }) k
    exact⟨_,_,run_endRound (some .ret) y,(),⟨A.im,A.w.putObj l (.loop { d with state:=.done,pending:=some .ret }),A.sl⟩,rfl,rfl,O.perm (h _ _).symm,trivial,
      U.trans ((Y.permL (h _ _).symm).subR λb I=>((h (Hx t) { d with state:=.done,pending:=some .ret }).map Prod.fst).mem_iff.1 I)⟩
  | exit id=>exact G.elim
  | goto t=>exact G.elim
  | panic c=>exact G.elim
  | outgrown=>exact G.elim
theorem bM_ {n:Nat}:∀ (K:List Kt) (e:Exit) (a:Act) (w:World),fb_ Fence.wide n P R K e a w->post P R K e a w
 | [],_,_,_,h=>h
 | .seq c::K,.normal,a,w,h=>wp_mono (wpIn_wide.1 h) (λe a w d=>bM_ K e a w d)
 | .seq _::K,.exit _,a,w,h=>bM_ K _ a w h
 | .seq _::K,.goto _,a,w,h=>bM_ K _ a w h
 | .seq _::K,.ret,a,w,h=>bM_ K _ a w h
 | .seq _::K,.panic _,a,w,h=>bM_ K _ a w h
 | .seq _::K,.outgrown,a,w,h=>bM_ K _ a w h
 | .inv J::_,.normal,_,_,h=>h
 | .inv _::K,.exit _,a,w,h=>bM_ K _ a w h
 | .inv _::K,.goto _,a,w,h=>bM_ K _ a w h
 | .inv _::K,.ret,a,w,h=>bM_ K _ a w h
 | .inv _::K,.panic _,a,w,h=>bM_ K _ a w h
 | .inv _::K,.outgrown,a,w,h=>bM_ K _ a w h
 | .blk id::K,.exit id',a,w,h=>by
   simp only[fb_,post]at h ⊢
   split
   . rename_i e;rw[yaq_ e]at h;exact bM_ K _ a w h
   . rename_i e;rw[yag_ e]at h;exact bM_ K _ a w h
 | .blk _::K,.normal,a,w,h=>bM_ K _ a w h
 | .blk _::K,.goto _,a,w,h=>bM_ K _ a w h
 | .blk _::K,.ret,a,w,h=>bM_ K _ a w h
 | .blk _::K,.panic _,a,w,h=>bM_ K _ a w h
 | .blk _::K,.outgrown,a,w,h=>bM_ K _ a w h
def vl_ (D:Nat):List Deferred:=[{ target:=.collected D,args:=#[] }]
theorem qu_ {σ τ α:Type} {g:Operand} {pm:Nat} {assign body:Code} {W:FuncId} {caps:List Value} {Hj:σ->Hp} {Hx:τ->Hp} {Hc:Hp} {Γx:α->List Fct} {Γi:List Fct} {xv:α->Value} {good:α->Prop} {stp:α->σ->σ ⊕ τ}
    (s0:σ) (res:σ ⊕ τ) (hg:Fr.ev fr g=some (.func (.func W) #[] caps.toArray)) (hH:H.Perm (Hc++Hj s0)) (hΓi:∀ v,v.sat H->ag_ Γ v->ag_ Γi v)
    (A:∀ l D (d:Loop),d.params=#[pm]->d.state=.ready->d.pending=none->Fr.sat N fr ⟨d.tmps,[]⟩->d.assign=assign->d.body=body->∀ s x,good x->
      kG_ P l (xv x) (Hj s++HLp l D d) (Γx x) (λ_:Unit=>.bool (stp x s).isLeft) (λ_=>tU_ (λs'=>Hj s'++HLp l D d) (λt=>Hx t++HLp l D { d with state:=.done,pending:=some .ret }) (stp x s)) (λ_=>[]))
    (hit:∀ l (Gj:σ->Hp) (Gx:τ->Hp),(∀ s x,good x->kG_ P l (xv x) (Gj s) (Γx x) (λ_:Unit=>.bool (stp x s).isLeft) (λ_=>tU_ Gj Gx (stp x s)) (λ_=>[]))->
      Tri P W (.func (.yield l) #[] #[]::caps).toArray (Hc++Gj s0) Γi (λ_:Unit=>.tuple #[]) (λ_=>Hc++tU_ Gj Gx res) (λ_=>[]))
    (C:∀ s',res=.inl s'->∀ D l r,vT_ Fence.wide 0 P R N (vl_ D) v0 H0 K fr (Hc++Hj s'++HLp l D r) Γ)
    (L:∀ t,res=.inr t->∀ D l r,OkD N (vl_ D) v0 H0 (R .ret) fr (Hc++Hx t++HLp l D r) Γ) :
    Run P R N v0 H0 (.rangeFunc g #[pm] assign body) K fr H Γ:=by
  intro a v E U h3 h4;refine wpIn_wide (n:=0) |>.1 (wpIn_mono (Q:=fb_ Fence.wide 0 P R K) (wpIn_rangeFunc λfn _=>?_) λe a w hq=>bM_ K e a w hq)
  obtain⟨a1,a2⟩:=ij_ (w':=v.w.alloc (.deferred (some []))) (o:=.deferred (some [])) U rfl rfl rfl rfl (yad_ _);obtain⟨d,k⟩:∃ d:Loop,d={ state:=.ready,pending:=none,fn,tmps:=a.tmps,params:=#[pm],assign,body,defers:=v.w.heap.size }:=⟨_,rfl⟩;obtain⟨b1,b2⟩:=ij_ (w':=(v.w.alloc (.deferred (some []))).alloc (.loop d)) (o:=.loop d) a1 rfl rfl rfl rfl (yad_ _);have I:(v.w.alloc (Obj.deferred (some []))).heap.size=v.w.heap.size+1:=by simp
  have b1':(⟨v.im,(v.w.alloc (.deferred (some []))).alloc (.loop d),v.sl⟩:Vw).sat ((v.w.heap.size+1,.loop d)::(v.w.heap.size,.deferred (some []))::H):=I▸b1;have M:v.to H ⟨v.im,(v.w.alloc (.deferred (some []))).alloc (.loop d),v.sl⟩ ((v.w.heap.size+1,.loop d)::(v.w.heap.size,.deferred (some []))::H):=a2.trans (I▸b2)
  have y:((v.w.heap.size+1,Obj.loop d)::(v.w.heap.size,.deferred (some []))::H).Perm (Hc++(Hj s0++HLp (v.w.heap.size+1) v.w.heap.size d)):=by
    rw[<-yap_];exact (yaE_ (l₁:=HLp (v.w.heap.size+1) v.w.heap.size d) (l₂:=H)).trans (hH.append_right _)
  have hT:=hit (v.w.heap.size+1) (λs=>Hj s++HLp (v.w.heap.size+1) v.w.heap.size d) (λt=>Hx t++HLp (v.w.heap.size+1) v.w.heap.size { d with state:=.done,pending:=some .ret })
    (A _ _ d (by rw[k]) (by rw[k]) (by rw[k]) (by rw[k];exact⟨E.size,rfl,E.val⟩) (by rw[k]) (by rw[k]))
  have Z:=aT_ (M.le U) (hΓi v U h4);have he:=E.ev hg;refine⟨v.w.heap.size+1,vl_ v.w.heap.size,(v.w.alloc (.deferred (some []))).alloc (.loop d),⟨.fn (.func W) caps.toArray,#[.func (.yield (v.w.heap.size+1)) #[] #[]]⟩,(v.w.alloc (.deferred (some []))).alloc (.loop d),W,(.func (.yield (v.w.heap.size+1)) #[] #[]::caps).toArray,_,?_,?_,λ_ _=>trivial,?_,λh=>(by cases h),callsIn_wide.2 ((hT.run ⟨v.im,_,v.sl⟩ (b1'.perm y) Z).mono ?_)⟩
  . rw[k];exact run_enterLoop_outer _ _ _ _ _
  . simp only[resolve,rangeCall,ybc_,yar_,ybf_,he,Deferred.ofValue]
    rfl
  . have:=hT.callable (.func (.yield (v.w.heap.size+1)) #[] #[]::caps).toArray ((v.w.alloc (.deferred (some []))).alloc (.loop d))
    simpa [invoke] using this
  . rintro e w' ⟨_,V,rfl,rfl,g1,g2,g3⟩
    have B:=M.trans (g3.permL y.symm);have G:=aT_ (B.le U) h4;have S:∀ T,SatD N T fr { a with defers:=T++a.defers }:=λT=>⟨⟨E.size,rfl,E.val⟩,by show T++a.defers=T;rw[E.defers];simp⟩
    have m:∀ (X Y:Hp) r,(Y++(X++HLp (v.w.heap.size+1) v.w.heap.size r)).Perm ((v.w.heap.size+1,.loop r)::(Y++X++[(v.w.heap.size,.deferred (some []))])):=λX Y r=>by
      unfold HLp;rw[<-yap_];exact ybq_
    cases res with
    | inl s' =>
      have q:=g1.perm (m (Hj s') Hc d);have hl:=(q.own _ yao_).1;obtain⟨z1,O⟩:=gk_ (o':=.loop { d with state:=.exhausted }) q
      have J:((v.w.heap.size+1,Obj.loop { d with state:=.exhausted })::(Hc++Hj s'++[(v.w.heap.size,.deferred (some []))])).Perm (Hc++Hj s'++HLp (v.w.heap.size+1) v.w.heap.size { d with state:=.exhausted }):=by
        have:=(m (Hj s') Hc { d with state:=.exhausted }).symm;rw[<-yap_]at this;exact this
      refine⟨d.pending,_,run_endLoop hl (by rw[k];simp),?_⟩;have hpn:d.pending=none:=by rw[k]
      split
      case h_2=>rename_i c hc;rw[hpn]at hc;cases hc
      exact C s' rfl _ _ _ _ ⟨V.im,_,V.sl⟩ (S _) (z1.perm J) (h3.trans (B.trans ((O.permL (m _ _ _).symm).subR λb hb=>(J.map Prod.fst).mem_iff.2 hb))) (aT_ (O.le q) G)
    | inr t =>
      have q:=g1.perm (m (Hx t) Hc _);have hl:=(q.own _ yao_).1;obtain⟨z1,O⟩:=gk_ (o':=.loop { d with state:=.exhausted,pending:=some .ret }) q
      have J:((v.w.heap.size+1,Obj.loop { d with state:=.exhausted,pending:=some .ret })::(Hc++Hx t++[(v.w.heap.size,.deferred (some []))])).Perm (Hc++Hx t++HLp (v.w.heap.size+1) v.w.heap.size { d with state:=.exhausted,pending:=some .ret }):=by
        have:=(m (Hx t) Hc { d with state:=.exhausted,pending:=some .ret }).symm;rw[<-yap_]at this;exact this
      refine⟨some .ret,_,run_endLoop hl zai_,?_⟩;refine wpIn_ret (qF_ K _ _ (L t rfl _ _ _ _ ⟨V.im,_,V.sl⟩ (S _) (z1.perm J) (h3.trans (B.trans ((O.permL (m _ _ _).symm).subR λb hb=>(J.map Prod.fst).mem_iff.2 hb))) (aT_ (O.le q) G)))
theorem eX_ {f:FuncId} {fn:Func} {c:Code} {args:List Value} {ι:Type} {d:ι->Value} {H':ι->Hp} {Γ':ι->List Fct}
    (m : P.funcs[f]? = some fn) (y : fn.body = some c) (E : (fn.name == "runtime.NumGoroutine") = false) (I : fn.ntmps = N) (hl : Nat.ble args.length N = true)
    (h:∀ v0,Run P (bodyPostM Fence.wide 0 P fn (nF_ v0 H d H' Γ')) N v0 H c [] (lX_ 0 args) H Γ):Tri P f args.toArray H Γ d H' Γ':=by
  refine⟨callable m y E,λv G A=>callsIn_wide.1 (callsIn_of_wp_marks (n:=0) m y trivial ?_)⟩;have B:args.length<=N:=yaG_ hl;have:=h v ⟨args.toArray++Array.replicate (fn.ntmps - args.toArray.size) undef,[]⟩ v ⟨by simp[I];omega,rfl,λt x C=>?_⟩ G (Vw.to.refl _ _) A
  . exact wpIn_wide.2 this
  . obtain⟨_,k⟩:=kC_ args 0 t x C
    simp only[Nat.sub_zero]at k;have e:=(yaf_.1 k).1;rw[ybC_ (by simpa using e)];simpa using k
theorem retM {fn:Func} {ι:Type} {G:Hp} {ret:ι->Value} {H':ι->Hp} {Γ':ι->List Fct} (x:ι) (A:∀ (a:Act) (v:Vw),Fr.sat N fr a->v.sat H->ag_ Γ v->(results fn a.tmps).run P v.w=.ok (ret x) v.w) (m:H.Perm (H' x++G))
    (k:∀ v,v.sat H->ag_ Γ v->ag_ (Γ' x) v):Ok N v0 H0 (bodyPostM Fence.wide 0 P fn (nF_ v0 H0 ret H' Γ') .ret) fr H Γ:=by
  intro a v h d y e;show LeavesInM Fence.wide 0 P fn a.tmps _ a.defers .returning v.w
  rw[h.defers]
  exact⟨ret x,A a v h d e,x,v,rfl,rfl,(d.perm m).sub,k v d e,y.subR λb B=>by
    grind⟩
theorem tc_ {fn:Func} {ι:Type} {D:Nat} {G:Hp} {ret:ι->Value} {H':ι->Hp} {Γ':ι->List Fct} (x:ι) (I:∀ (a:Act) (v:Vw),Fr.sat N fr a->v.sat G->(results fn a.tmps).run P v.w=.ok (ret x) v.w) (h:H.Perm ((D,.deferred (some []))::(G)))
    (J:∃ k,G.Perm (H' x++k)) (B:Γ' x=[]):OkD N (vl_ D) v0 H0 (bodyPostM Fence.wide 0 P fn (nF_ v0 H0 ret H' Γ') .ret) fr H Γ:=by
  intro a v y C E O;show LeavesInM Fence.wide 0 P fn a.tmps _ a.defers .returning v.w
  rw[y.defers];have q:=C.perm h;have hl:=(q.own _ yao_).1;obtain⟨d,L⟩:=gk_ (o':=.deferred none) q;have m:(⟨v.im,v.w.putObj D (.deferred none),v.sl⟩:Vw).sat G:=⟨λp A=>d.own p (yaK_ _ A),by have:=d.nodup;grind,d.lt⟩;obtain⟨k,e⟩:=J;refine⟨by simp,.inl ⟨D,_,rfl,run_takeDeferred hl,ret x,?_,x,⟨v.im,_,v.sl⟩,rfl,rfl,(m.perm e).sub,by rw[B];trivial,?_⟩⟩
  . exact I ⟨a.tmps,[]⟩ ⟨v.im,_,v.sl⟩ y.sat m
  . refine (E.trans (L.permL h.symm)).subR λb M=>?_
    grind
end
end Go.Sx
namespace Go.Vs
abbrev Str:=List UInt8
def fJ_ (c:UInt8):Bool:=(decide (97<=c.toNat)&&decide (c.toNat<=122))||(decide (65<=c.toNat)&&decide (c.toNat<=90))
def gd_ (c:UInt8):Bool:=fJ_ c||decide (c.toNat=95)||(decide (48<=c.toNat)&&decide (c.toNat<=57))
def mY_ (s:Str):Bool:=s.all gd_
def kws:List Str:=[[97,110,100],[115,111,109,101],[105,110],[116,111],[110,111,116,104,105,110,103],[101,118,101,114,121,116,104,105,110,103],[111,110,101],[111,102],[111,112,101,110],[112,114,105,118,97,116,101],[115,117,98],[115,97,109,101],[100,105,115,106,111,105,110,116],[100,111,109,97,105,110],[114,111,108,101],[99,104,97,105,110],[114,101,102,108,101,120,105,118,101],[116,121,112,101],[108,105,110,107],[115,101,108,101,99,116],[119,104,101,114,101],[111,114]]
def bV_ (s:Str):Bool:=kws.contains s
def jW_ (s:Str):Bool:=!(s==[])&&fJ_ (s.headD 0)&&mY_ s&&!bV_ s
def cY_ (s:Str):Bool:=decide (2<=s.length)&&decide (s.length<=24)&&decide ((s.headD 0).toNat=95)&&mY_ s
def ixS (c:UInt8):Str->Option Nat
  | []=>none
  | b::s=>if b=c then some 0 else (ixS c s).map (·+1)
def bN_ (s:Str):Bool:=decide (s.length<=24)&&match ixS 58 s with
  | none=>jW_ s
  | some k=>jW_ (s.take k)&&jW_ (s.drop (k+1))
def bg_ (s:Str):Bool:=bN_ s||cY_ s
theorem nP_ (c:UInt8):∀ s:Str,Lib.indexByte s c=match ixS c s with|none=>-1|some k=>(k:Int)
  | []=>rfl
  | b::s=>by
    have d:=nP_ c s
    grind[Lib.indexByte,ixS]
theorem vt_ {c:UInt8}:∀ {s:Str} {k:Nat},ixS c s=some k->k<s.length
 | [],k,h=>by grind[ixS]
 | b::s,k,h=>by
   simp only[ixS]at h
   split at h
   . grind
   . cases hx:ixS c s with
     | none=>grind
     | some j=>rw[hx]at h;simp at h;subst h;have:=vt_ hx;simp;omega
theorem ht_ (p:UInt8->Bool) (s:Str) (k:Nat) (c:UInt8) (e:s[k]? = some c) (h:(s.take k).all p=true) (d:p c=true):(s.take (k+1)).all p=true:=by
  grind[List.take_add_one]
theorem kQ_ (p:UInt8->Bool) (s:Str) (k:Nat) (c:UInt8) (e:s[k]? = some c) (d:p c=false):s.all p=false:=by
  grind
theorem rs_ (p:UInt8->Bool) (s:Str) (k:Nat) (hk:s.length<=k) (h:(s.take k).all p=true):s.all p=true:=by
  grind[List.take_of_length_le]
theorem Ao_ {m:Str} {r:List Value} {k:Nat} {c:UInt8} (h:m[k]? = some c):Sx.lg (Sx.bytesV m++r) k=some (.int .u8 (c.toNat:Int)):=by
  grind[Sx.lg_eq,Sx.bytesV]
end Go.Vs
namespace Go.Vs
open Go Go.Sx
inductive Con where
  | mk (kind:Int) (name:Str) (lo hi:Int) (ad:Ao) (cap:Nat) (parts:List Con)
namespace Con
def kind:Con->Int|mk k _ _ _ _ _ _=>k
def name:Con->Str|mk _ n _ _ _ _ _=>n
def lo:Con->Int|mk _ _ l _ _ _ _=>l
def hi:Con->Int|mk _ _ _ h _ _ _=>h
def ad:Con->Ao|mk _ _ _ _ a _ _=>a
def cap:Con->Nat|mk _ _ _ _ _ c _=>c
def parts:Con->List Con|mk _ _ _ _ _ _ p=>p
def cells (c:Con):List Value:=[.int .i64 c.kind,str c.name,.int .i64 c.lo,.int .i64 c.hi,.slice c.ad c.parts.length c.cap]
def val (c:Con):Value:=.agg c.cells.toArray
theorem cells_len (c:Con):c.cells.length=5:=rfl
def sz:Con->Nat
  | mk _ _ _ _ _ _ ps=>1+szs ps
where szs:List Con->Nat
  | []=>0
  | p::ps=>sz p+szs ps
theorem sz_pos (c:Con):0<c.sz:=by cases c;grind[sz]
theorem sz_mem {p:Con}:∀ {ps:List Con},p∈ps->p.sz<=sz.szs ps
 | q::ps,h=>by
   rcases yal_.1 h with rfl|h
   . grind[sz.szs]
   . have:=sz_mem h;grind[sz.szs]
theorem sz_part {c p:Con} (h:p∈c.parts):p.sz<c.sz:=by
  cases c with
  | mk k n l hi a cp ps=>have:=sz_mem (ps:=ps) h;grind[sz]
def mem:Con->Vw->Prop
  | mk _ _ _ _ a _ ps,v=>bW_ v a (ps.flatMap cells)/\mems ps v
where mems:List Con->Vw->Prop
  | [],_=>True
  | p::ps,v=>mem p v/\mems ps v
theorem mems_iff {v:Vw}:∀ {ps:List Con},mem.mems ps v↔∀ p∈ps,p.mem v
  | []=>by simp[mem.mems]
  | p::ps=>by simp[mem.mems,mems_iff (ps:=ps)]
theorem mem_iff (c:Con) (v:Vw):c.mem v↔bW_ v c.ad (c.parts.flatMap cells)/\∀ p∈c.parts,p.mem v:=by
  cases c<;>grind[mem,mems_iff,ad,parts]
theorem mem_mono:∀ (n:Nat) (c:Con),c.sz<=n->∀ v e,v.le e->c.mem v->c.mem e
  | 0,c,h=>by grind[sz_pos]
  | n+1,c,h=>λv e hl hm=>by
    rw[mem_iff]at hm ⊢;exact⟨(X_ c.ad (c.parts.flatMap cells)).mono v e hl hm.1,λp k=>mem_mono n p (by have:=sz_part k;omega) v e hl (hm.2 p k)⟩
def memF (c:Con):Fct:=⟨c.mem,mem_mono c.sz c (yad_ _)⟩
def ok:Con->Prop
  | mk k n l h _ c ps=>-9223372036854775808<=k/\k<=9223372036854775807/\n.length<=140737488351232/\-9223372036854775808<=l/\l<=9223372036854775807/\-9223372036854775808<=h/\h<=9223372036854775807/\ps.length<=c/\ps.length<=2199023255488/\oks ps
where oks:List Con->Prop
  | []=>True
  | p::ps=>ok p/\oks ps
theorem oks_iff:∀ {ps:List Con},ok.oks ps↔∀ p∈ps,p.ok
  | []=>by simp[ok.oks]
  | p::ps=>by simp[ok.oks,oks_iff (ps:=ps)]
theorem ok_part {c p:Con} (h:c.ok) (e:p∈c.parts):p.ok:=by
  cases c with
  | mk k n l hi a cp ps=>exact oks_iff.1 h.2.2.2.2.2.2.2.2.2 p e
theorem ok_name {c:Con} (h:c.ok):c.name.length<=140737488351232:=by cases c;exact h.2.2.1
theorem ok_len {c:Con} (h:c.ok):c.parts.length<=c.cap/\c.parts.length<=2199023255488:=by cases c;exact⟨h.2.2.2.2.2.2.2.1,h.2.2.2.2.2.2.2.2.1⟩
theorem part_cells {c p:Con} {i:Nat} (h:c.parts[i]? = some p):∀ j y,p.cells[j]? = some y->(c.parts.flatMap cells)[i*5+j]? = some y:=by
  intro j y k
  have e:j<5:=by
    grind[cells_len]
  rw[kD_ cells 5 cells_len c.parts i j p h e];exact k
theorem row_addr {v:Vw} {c p:Con} {i:Nat} (h:c.mem v) (k:c.parts[i]? = some p):∃ b off,c.ad=some ⟨b,off,none⟩:=by
  have:=((mem_iff c v).1 h).1;refine this.addr λe=>?_;have m:=part_cells k 0 _ (yaa_ (by grind[cells_len]))
  grind
theorem mem_part {v:Vw} {c p:Con} (h:c.mem v) (e:p∈c.parts):p.mem v:=by grind[mem_iff]
def fits:Con->Nat->Nat->Bool×Nat
  | mk _ _ _ _ _ _ ps,d,n=>if 8<d||64<n+1 then (false,n+1) else fitss ps (d+1) (n+1)
where fitss:List Con->Nat->Nat->Bool×Nat
  | [],_,n=>(true,n)
  | p::ps,d,n=>match fits p d n with
    | (true,m)=>fitss ps d m
    | (false,m)=>(false,m)
theorem fits_eq (c:Con) (d n:Nat):c.fits d n=if 8<d||64<n+1 then (false,n+1) else fits.fitss c.parts (d+1) (n+1):=by cases c;rfl
end Con
end Go.Vs
namespace Go.Sx
section
variable {P:Program} {N:Nf} {v0:Vw} {H0:Hp} {R:Exit->Act->World->Prop} {K:List Kt} {fr:Fr} {H:Hp} {Γ:List Fct}
variable {ops:Array Oper} {l:List Oper} {d:Nat} {ty:TypeId} {ps:String} {af:Array Edge}
open Go Go.Vs
theorem tI_ (c:List Value):tJ_ c 0 c.length=some c:=by
  have e:∀ (n off:Nat) (c:List Value),off+n=c.length->tJ_ c off n=some (c.drop off):=by
    intro n
    induction n<;>grind[tJ_,lg_eq,List.drop_eq_getElem_cons]
  grind
theorem cX_ {t:TypeId} {x:Operand} {b:Nat} (i:Nat) {T:TypeId} {fz:Nat×Nat} {c:Con} (e:∀ w,(isAgg t).run P w=.ok true w) (h:∀ w,(sizeOf t).run P w=.ok 5 w)
    (k:Fr.ev fr x=some (.pointer (some ⟨b,0,none⟩))) (hi:H[i]? = some (b,.cells c.cells.toArray T fz)):Yld P N fr H Γ (.load t x) ty c.val :=
  cW_ i e h k hi (by grind[tI_,Con.cells_len])
theorem si_ (c:Con):c.cells.all Value.oneCell'=true:=rfl
theorem fB_ {t:TypeId} {x y:Operand} {b:Nat} (i:Nat) {cur:Array Value} {T:TypeId} {c:Con} (h:∀ w,(sizeOf t).run P w=.ok 5 w)
    (k:Fr.ev fr x=some (.pointer (some ⟨b,0,none⟩))) (e:Fr.ev fr y=some c.val) (hi:H[i]? = some (b,.cells cur T (0,0))) (m:cur.size=5)
    (hk:Ops P R N v0 H0 ops l K fr (H.set i (b,.cells c.cells.toArray T (0,0))) Γ) :
    Ops P R N v0 H0 ops (⟨none,.store t x y,ty,ps,af,none⟩::l) K fr H Γ:=by
  refine p_ i h k e hi (by grind[Con.val,Value.cells,Con.cells_len]) (by simp[m]) (si_ c) ?_
  grind[Con.val,Value.cells,List.drop_of_length_le]
end
end Go.Sx
namespace Go.Vs.Con
theorem ir_:∀ (xs ys:List Con) (d n m:Nat),fits.fitss xs d n=(true,m)->fits.fitss (xs++ys) d n=fits.fitss ys d m
 | [],ys,d,n,m,h=>by grind[fits.fitss]
 | x::xs,ys,d,n,m,h=>by
   simp only[fits.fitss,yaD_]at h ⊢
   split at h
   . rename_i q e;exact ir_ xs ys d q m h
   . cases h
theorem rZ_:∀ (k:Nat) (c:Con),c.sz<=k->∀ d n,(c.fits d n).1=true->(c.fits d n).2<=64
 | 0,c,h=>by grind[sz_pos]
 | k+1,c,h=>λd n e=>by
   rw[fits_eq]at e ⊢
   split at e
   . cases e
   . rename_i y
     rw[yag_ y];simp only[ybs_,ybv_,not_or,Nat.not_lt]at y
     have x:∀ (ps:List Con),(∀ p∈ps,p.sz<=k)->∀ n,n<=64->(fits.fitss ps (d+1) n).1=true->(fits.fitss ps (d+1) n).2<=64:=by
       intro ps
       induction ps with
       | nil=>grind[fits.fitss]
       | cons p ps ih =>
         intro v n A e;simp only[fits.fitss]at e ⊢
         split at e
         . rename_i m hm
           have:=rZ_ k p (v p zai_) (d+1) n (by rw[hm])
           grind
         . cases e
     exact x c.parts (λp v=>by have:=sz_part v;omega) (n+1) zaa_ e
theorem take_snoc {ps:List Con} {p:Con} {i:Nat} (e:ps[i]? = some p):ps.take (i+1)=ps.take i++[p]:=by grind[List.take_add_one]
theorem fitss_step {ps:List Con} {p:Con} {i d n m:Nat} (e:ps[i]? = some p) (h:fits.fitss (ps.take i) d n=(true,m)) (k:(p.fits d m).1=true) :
    fits.fitss (ps.take (i+1)) d n=(true,(p.fits d m).2)/\(p.fits d m).2<=64:=by
  refine⟨?_,rZ_ _ p (yad_ _) d m k⟩;rw[take_snoc e,ir_ _ _ _ _ _ h]
  grind[fits.fitss]
theorem fits_no {k lo hi:Int} {nm:Str} {ad:Ao} {cap:Nat} {ps:List Con} {p:Con} {i d n m:Nat} (y:¬ (8<d\/64<n+1)) (v:ps[i]? = some p) (h:fits.fitss (ps.take i) (d+1) (n+1)=(true,m)) (x:(p.fits (d+1) m).1=false) :
    (mk k nm lo hi ad cap ps).fits d n=(false,(p.fits (d+1) m).2):=by
  rw[fits_eq,yag_ zak_]
  have e:ps=ps.take i++p::ps.drop (i+1):=by
    grind[List.getElem_cons_drop,List.take_append_drop]
  show fits.fitss ps (d+1) (n+1)=_
  rw[e,ir_ _ _ _ _ _ h]
  grind[fits.fitss]
theorem fits_yes {k lo e:Int} {nm:Str} {ad:Ao} {cap:Nat} {ps:List Con} {i d n m:Nat} (v:¬ (8<d\/64<n+1)) (hi:ps.length<=i) (h:fits.fitss (ps.take i) (d+1) (n+1)=(true,m)) :
    (mk k nm lo e ad cap ps).fits d n=(true,m):=by
  rw[fits_eq,yag_ zak_];rw[yac_ hi]at h;exact h
end Go.Vs.Con
namespace Go.Vs
open Go Go.Sx
def ei_:List (Int×Int×Int×Bool):=[(0,0,0,false),(0,0,0,false),(0,0,0,false),(1,0,0,false),(2,0,0,false),(0,2,8,false),(1,1,1,false),(1,0,0,true)]
def wv_ (x:Int×Int×Int×Bool):List Value:=[.int .i64 x.1,.int .i64 x.2.1,.int .i64 x.2.2.1,.bool x.2.2.2]
theorem lR_ (x:Int×Int×Int×Bool):(wv_ x).length=4:=rfl
def nd (k:Int):Int×Int×Int×Bool:=(ei_[k.toNat]?).getD (0,0,0,false)
namespace Con
def fieldErr (c:Con):Int :=
  if c.kind<1\/7<c.kind then 21
  else if (c.parts.length:Int)<(nd c.kind).2.1\/(nd c.kind).2.2.1<(c.parts.length:Int)\/((nd c.kind).1=0/\c.name≠[]) then 21
  else if (nd c.kind).2.2.2=true/\(c.lo < -1099511627776\/c.hi<c.lo\/1099511627776<c.hi) then 21
  else if (nd c.kind).2.2.2=false/\(c.lo≠0\/c.hi≠0) then 21
  else if (nd c.kind).1=0\/bN_ c.name=true\/((nd c.kind).1=2/\cY_ c.name=true) then 0
  else 20
def firstErr:Con->Int
  | c@(mk _ _ _ _ _ _ ps)=>if c.fieldErr=0 then firstErrs ps else c.fieldErr
where firstErrs:List Con->Int
  | []=>0
  | p::ps=>if firstErr p=0 then firstErrs ps else firstErr p
theorem hp_ (c:Con):c.firstErr=if c.fieldErr=0 then firstErr.firstErrs c.parts else c.fieldErr:=by cases c;grind[firstErr,parts]
def check (c:Con):Int:=if (c.fits 0 0).1 then c.firstErr else 21
end Con
end Go.Vs
namespace Go.Sx
open Go Go.Vs
section
variable {P:Program} {N:Nat} {v0:Vw} {H0:Hp} {R:Exit->Act->World->Prop} {K:List Kt} {fr:Fr} {H:Hp} {Γ:List Fct}
theorem ret0 {fn:Func} {ι:Type} {F:Hp} {ret:ι->Value} {H':ι->Hp} {Γ':ι->List Fct} (B:fn.results=#[]) (x:ι) (C:.tuple #[]=ret x) (k:H.Perm (H' x++F))
    (e:∀ v,v.sat H->ag_ Γ v->ag_ (Γ' x) v):Ok N v0 H0 (bodyPost P fn (nF_ v0 H0 ret H' Γ') .ret) fr H Γ :=
  es_ k e λa v y h A m=>⟨y.defers,ret x,by grind[results_none],x,v,rfl,rfl,h,m,A⟩
theorem cj_ {fn:Func} {ι:Type} {F:Hp} {e:ι->Value} {H':ι->Hp} {Γ':ι->List Fct} (m:fn.results=#[]) (x:ι) (y:.tuple #[]=e x) (k:H.Perm (H' x++F))
    (h:∀ v,v.sat H->ag_ Γ v->ag_ (Γ' x) v):Ok N v0 H0 (bodyPost P fn (nF_ v0 H0 e H' Γ') .normal) fr H Γ :=
  ret0 m x y k h
theorem oS_ {fn:Func} {t b:Nat} {ty T:TypeId} {u:Value} (i:Nat) (m:fn.results=#[.cell t ty]) (h:∀ w,(isAgg ty).run P w=.ok false w) (A:Fr.get fr t=some (.pointer (some ⟨b,0,none⟩))) (hi:H[i]? = some (b,.cells #[u] T (0,0))) (a:Act) (v:Vw) (x:Fr.sat N fr a) (k:v.sat H) :
    (results fn a.tmps).run P v.w=.ok u v.w:=by
  have e:=x.val t _ A;have y:v.w.cell? ⟨b,0,none⟩=some u:=by rw[fc_ k hi];rfl
  have hl:=cc_ (t:=ty) (w:=v.w) h y;simp[results,m,e,asAddr,hl]
variable {F:Fence} {n:Nat} {D:List Deferred} {ops:Array Oper} {l:List Oper} {d:Nat} {ty:TypeId} {ps:String} {af:Array Edge}
theorem lc_ {k:Act->World->Prop} {H' F:Hp} {Γ':List Fct} (y:H.Perm (H'++F)) (m:∀ v,v.sat H->ag_ Γ v->ag_ Γ' v) (h:OkD N D v0 H0 k fr H' Γ'):OkD N D v0 H0 k fr H Γ :=
  λa v A e B x=>h a v A (e.perm y).sub (B.subR λb C=>by
    grind) (m v e x)
theorem tw_ {t:TypeId} {x y:Operand} {b:Nat} (v:Opn F) (i:Nat) {cur:Array Value} {T:TypeId} {c:Con} (h:∀ w,(sizeOf t).run P w=.ok 5 w)
    (k:Fr.ev fr x=some (.pointer (some ⟨b,0,none⟩))) (e:Fr.ev fr y=some c.val) (hi:H[i]? = some (b,.cells cur T (0,0))) (m:cur.size=5)
    (hk:fF_ F n P R N D v0 H0 ops l K fr (H.set i (b,.cells c.cells.toArray T (0,0))) Γ) :
    fF_ F n P R N D v0 H0 ops (⟨none,.store t x y,ty,ps,af,none⟩::l) K fr H Γ:=by
  refine eJ_ v i h k e hi (by grind[Con.val,Value.cells,Con.cells_len]) (by simp[m]) (si_ c) ?_
  grind[Con.val,Value.cells,List.drop_of_length_le]
theorem qx_ {σ τ:Type} {Hj:σ->Hp} {Hx:τ->Hp} {h G:Hp} {res:σ ⊕ τ} (e:σ) (x:res=.inl e) (m:H.Perm (Hj e++h++G)):OkD N [] v0 H0 (vS_ v0 H0 Hj Hx h res .normal) fr H Γ :=
  lc_ (Γ':=[]) m (λ_ _ _=>trivial) λa v A k y _=>⟨e,v,x,rfl,k,y⟩
theorem xE_ {σ τ:Type} {Hj:σ->Hp} {Hx:τ->Hp} {e G:Hp} {res:σ ⊕ τ} (t:τ) (m:res=.inr t) (k:H.Perm (Hx t++e++G)):OkD N [] v0 H0 (vS_ v0 H0 Hj Hx e res .ret) fr H Γ :=
  lc_ (Γ':=[]) k (λ_ _ _=>trivial) λa v y h x _=>⟨t,v,m,rfl,h,x⟩
theorem dY_ {ι:Type} {e:ι->Fr} {Hs:ι->Hp} {k:ι->List Fct} (i:ι) {F:Hp} (h:Fr.le (e i) fr) (x:H.Perm (Hs i++F)) (m:∀ v,v.sat H->ag_ Γ v->ag_ (k i) v) :
    OkD N [] v0 H0 (Mid N v0 H0 e Hs k .normal) fr H Γ:=dH_.2 (dh_ i h x m)
end
end Go.Sx
namespace Go.Vs.Con
def fold {σ τ:Type} (f:Con->σ->σ ⊕ τ):Con->σ->σ ⊕ τ
  | c@(mk _ _ _ _ _ _ ps),s=>match f c s with|.inl s'=>folds f ps s'|.inr t=>.inr t
where folds {σ τ:Type} (f:Con->σ->σ ⊕ τ):List Con->σ->σ ⊕ τ
  | [],s=>.inl s
  | p::ps,s=>match fold f p s with|.inl s'=>folds f ps s'|.inr t=>.inr t
section
variable {σ τ:Type} {f:Con->σ->σ ⊕ τ}
theorem fold_eq (c:Con) (s:σ):fold f c s=match f c s with|.inl s'=>fold.folds f c.parts s'|.inr t=>.inr t:=by cases c;rw[fold];rfl
theorem io_:∀ (xs ys:List Con) (s m:σ),fold.folds f xs s=.inl m->fold.folds f (xs++ys) s=fold.folds f ys m
 | [],ys,s,m,h=>by grind[fold.folds]
 | x::xs,ys,s,m,h=>by
   simp only[fold.folds,yaD_]at h ⊢
   split at h
   . rename_i q e;exact io_ xs ys q m h
   . cases h
theorem folds_step {ps:List Con} {p:Con} {i:Nat} {s m e:σ} (k:ps[i]? = some p) (h:fold.folds f (ps.take i) s=.inl m) (v:fold f p m=.inl e):fold.folds f (ps.take (i+1)) s=.inl e:=by
  rw[take_snoc k,io_ _ _ _ _ h]
  grind[fold.folds]
theorem folds_no {ps:List Con} {p:Con} {i:Nat} {s m:σ} {t:τ} (k:ps[i]? = some p) (h:fold.folds f (ps.take i) s=.inl m) (v:fold f p m=.inr t):fold.folds f ps s=.inr t:=by
  have e:ps=ps.take i++p::ps.drop (i+1):=by
    grind[List.getElem_cons_drop,List.take_append_drop]
  rw[e,io_ _ _ _ _ h]
  grind[fold.folds]
theorem folds_yes {ps:List Con} {i:Nat} {s m:σ} (hi:ps.length<=i) (h:fold.folds f (ps.take i) s=.inl m):fold.folds f ps s=.inl m:=by
  grind[List.take_of_length_le]
end
def chk (c:Con) (_:Unit):Unit ⊕ Int:=if c.fieldErr=0 then .inl () else .inr c.fieldErr
theorem fold_chk:∀ (m:Nat) (c:Con),c.sz<=m->fold chk c ()=if c.firstErr=0 then .inl () else .inr c.firstErr
 | 0,c,h=>by grind[sz_pos]
 | m+1,c,h=>by
   rw[fold_eq,hp_,chk]
   have k:∀ (ps:List Con),(∀ p∈ps,p.sz<=m)->fold.folds chk ps ()=if firstErr.firstErrs ps=0 then .inl () else .inr (firstErr.firstErrs ps):=by
     intro ps
     induction ps with
     | nil=>grind[fold.folds,firstErr.firstErrs]
     | cons p ps ih =>
       intro v;simp only[fold.folds,firstErr.firstErrs];rw[fold_chk m p (v p zai_)]
       grind
   by_cases e:c.fieldErr=0
   . simp only[e,ycq_]
     exact k c.parts λp v=>by have:=sz_part v;omega
   . simp[e]
def cnt (_:Con) (n:Nat):Nat ⊕ Empty:=.inl (n+1)
end Go.Vs.Con
namespace Go.Sx
open Go
theorem jaf {A B:Bool} (h:A=false):false=(A&&B):=by rw[h];rfl
theorem jat {A B r:Bool} (h:A=true) (d:B=r):r=(A&&B):=by grind
theorem jot {A B:Bool} (h:A=true):true=(A||B):=by rw[h];rfl
theorem jof {A B r:Bool} (h:A=false) (d:B=r):r=(A||B):=by grind
theorem jn {A r:Bool} (h:A=r):(!A)=(!r):=by rw[h]
section
variable {P:Program} {N:Nf} {v0:Vw} {H0:Hp} {R:Exit->Act->World->Prop} {K:List Kt} {fr:Fr} {H:Hp} {Γ:List Fct}
variable {ops:Array Oper} {l:List Oper}
theorem qk_ {Q k:Exit->Act->World->Prop} {o:Oper} {a:Act} {w:World} {m y:Act->World->Prop} (h:∀ a w,m a w->y a w) (E:∀ c a w,Q (.panic c) a w->k (.panic c) a w) (A:∀ a w,Q .outgrown a w->k .outgrown a w)
    (d:o.wp P a w m Q):o.wp P a w y k:=by
  unfold Oper.wp at *;generalize (execOp a.eval o).run P w=r at *
  cases r with
  | ok n w' =>
    cases n<;>simp only[Oper.upon]at d ⊢ <;>
      first
        | grind
        | exact Calls.mono d (λe C B=>by
            cases e with
            | returned v=>grind
            | panicked c=>grind
            | outgrown=>obtain⟨a,w,q⟩:=B;exact⟨a,w,A _ _ q⟩)
        | grind[Rows.mono]
  | halt x w'=>cases x<;>simp only[Oper.upon]at d ⊢<;>first|grind|exact d
theorem km_ {k:List Oper}:∀ (d:List Oper) (a:Act) (w:World),wpList P ops (post P R (.inv (wpList P ops (post P R K) k)::K)) d a w->wpList P ops (post P R K) (d++k) a w
 | [],a,w,h=>h
 | o::d,a,w,h=>by
   simp only[wpList,yaD_]at h ⊢
   split
   . rename_i e
     rw[yaq_ e]at h;rcases h with h|⟨h,m,w',q⟩
     . exact .inl (qk_ (λa w q=>km_ d a w q) (λc a w q=>q) (λa w q=>q) h)
     . exact .inr ⟨h,m,w',q⟩
   . rename_i e
     rw[yag_ e]at h;exact km_ d _ _ h
def wy_:Nat->List Oper->List Oper
  | 0,_=>[]
  | _,[]=>[]
  | n+1,o::l=>o::wy_ n l
def wz_:Nat->List Oper->List Oper
  | 0,l=>l
  | _,[]=>[]
  | n+1,_::l=>wz_ n l
theorem pf_:∀ (n:Nat) (l:List Oper),wy_ n l++wz_ n l=l
  | 0,_=>rfl
  | n+1,[]=>rfl
  | n+1,o::l=>by show o::(wy_ n l++wz_ n l)=o::l;rw[pf_ n l]
def MetJ (N:Nf) (v0:Vw) (H0:Hp) (fr:Fr) (H:Hp) (Γ:List Fct) (a:Act) (w:World):Prop:=∃ v,v.w=w/\Fr.sat N fr a/\v.sat H/\v0.to H0 v H/\ag_ Γ v
theorem aE_ (n:Nat) (X:Bool) (d:Bool->Fr) (G:Ops P R N v0 H0 ops (wy_ n l) (.inv (MetJ N v0 H0 (d X) H Γ)::K) fr H Γ)
    (B:∀ r,X=r->Ops P R N v0 H0 ops (wz_ n l) K (d r) H Γ):Ops P R N v0 H0 ops l K fr H Γ:=by
  intro a v y E L x;rw[<-pf_ n l];refine km_ _ _ _ ?_;have C:=G a v y E L x;refine wpL_mono ?_ _ _ _ C;rintro m w' ⟨A,rfl,k1,k2,F,I⟩;exact B X rfl m A k1 k2 F I
where wpL_mono {J J':Act->World->Prop} (hJ:∀ a w,J a w->J' a w):∀ (e:List Oper) (a:Act) (w:World),wpList P ops (post P R (.inv J::K)) e a w->wpList P ops (post P R (.inv J'::K)) e a w
  | [],a,w,h=>hJ _ _ h
  | o::e,a,w,h=>by
    simp only[wpList]at h ⊢
    split
    . rename_i k
      rw[yaq_ k]at h;rcases h with h|⟨h,m,w',q⟩
      . exact .inl (qk_ (λa w q=>wpL_mono hJ e a w q) (λc a w q=>q) (λa w q=>q) h)
      . exact .inr ⟨h,m,w',q⟩
    . rename_i k
      rw[yag_ k]at h;exact wpL_mono hJ e _ _ h
theorem met {d:Fr} (e:Fr.le d fr):Ok N v0 H0 (MetJ N v0 H0 d H Γ) fr H Γ :=
  bF_ d e λ_ v m h x k=>⟨v,rfl,m,h,x,k⟩
end
end Go.Sx
namespace Go.Sx
open Go
theorem A_ {α:Type} {f:α->List Value} {n:Nat} (d:∀ x,(f x).length=n) {l:List α} {i:Nat} {x:α} (e:l[i]? = some x):∀ j y,(f x)[j]? = some y->(l.flatMap f)[i*n+j]? = some y:=by
  grind[kD_]
theorem av_ {α:Type} {f:α->List Value} {n:Nat} (d:∀ x,(f x).length=n) (m:0<n) {v:Vw} {ad:Ao} {l:List α} {i:Nat} {x:α} (h:bW_ v ad (l.flatMap f)) (k:l[i]? = some x):∃ b off,ad=some ⟨b,off,none⟩:=by
  refine h.addr λe=>?_;have y:=A_ d k 0 _ (yaa_ zak_)
  grind
def aa_ (s:List UInt8):List Value:=[str s]
theorem an_ (s:List UInt8):(aa_ s).length=1:=rfl
end Go.Sx
namespace Go.Vs
open Go Go.Sx
structure Ax where
  kind:Int
  opn:Bool
  left:Con
  right:Con
  ad:Ao
  cap:Nat
  roles:List Str
  role:Str
  a:Str
  b:Str
namespace Ax
def cells (x:Ax):List Value:=.int .i64 x.kind::.bool x.opn::(x.left.cells++(x.right.cells++[.slice x.ad x.roles.length x.cap,str x.role,str x.a,str x.b]))
def val (x:Ax):Value:=.agg x.cells.toArray
theorem cells_len (x:Ax):x.cells.length=16:=by simp[cells,Con.cells_len]
def mem (x:Ax) (v:Vw):Prop:=x.left.mem v/\x.right.mem v/\bW_ v x.ad (x.roles.flatMap aa_)
def memF (x:Ax):Fct:=⟨x.mem,λv v' h hp=>⟨x.left.memF.mono v v' h hp.1,x.right.memF.mono v v' h hp.2.1,(X_ x.ad (x.roles.flatMap aa_)).mono v v' h hp.2.2⟩⟩
structure ok (x:Ax):Prop where
  lo:-9223372036854775808<=x.kind
  hi:x.kind<=9223372036854775807
  left:x.left.ok
  right:x.right.ok
  len:x.roles.length<=x.cap
  cap:x.roles.length<=8796093021952
  roles:∀ r∈x.roles,r.length<=140737488351232
  role:x.role.length<=140737488351232
  a:x.a.length<=140737488351232
  b:x.b.length<=140737488351232
end Ax
def Con.empty (c:Con):Bool:=((((c.kind==0)&&(c.name==[]))&&(c.lo==0))&&(c.hi==0))&&((c.parts.length:Int)==0)
def Con.bare:Con->Bool
  | mk k _ _ _ _ _ ps=>(k==4)||((k==5)&&bares ps)
where bares:List Con->Bool
  | []=>false
  | p::ps=>bare p||bares ps
theorem Con.bares_any:∀ (ps:List Con),Con.bare.bares ps=ps.any Con.bare
  | []=>rfl
  | p::ps=>by simp[Con.bare.bares,Con.bares_any ps]
theorem Con.bare_eq (c:Con):c.bare=((c.kind==4)||((c.kind==5)&&c.parts.any Con.bare)):=by cases c;grind[bare,bares_any,kind,parts]
structure Use where
  left:Bool
  right:Bool
  role:Bool
  a:Bool
  b:Bool
  least:Int
  most:Int
def Use.cells (u:Use):List Value:=[.bool u.left,.bool u.right,.bool u.role,.bool u.a,.bool u.b,.int .i64 u.least,.int .i64 u.most]
theorem Use.cells_len (u:Use):u.cells.length=7:=rfl
def uE_:List Use:=[⟨false,false,false,false,false,0,0⟩,⟨true,true,false,false,false,0,0⟩,⟨true,true,false,false,false,0,0⟩,⟨true,true,false,false,false,0,0⟩,⟨false,true,true,false,false,0,0⟩,
  ⟨false,false,true,false,false,1,1⟩,⟨false,false,true,false,false,2,4⟩,⟨false,false,true,false,false,0,0⟩,⟨false,true,false,true,false,0,0⟩,⟨false,false,true,true,true,0,0⟩]
def us (k:Int):Use:=(uE_[k.toNat]?).getD ⟨false,false,false,false,false,0,0⟩
namespace Ax
def shaped (x:Ax):Bool :=
  if x.kind<1\/9<x.kind then false else
    let u:=us x.kind
    (((((((u.left||x.left.empty)&&(u.right||x.right.empty))&&(u.role||(x.role==[])))&&(u.a||(x.a==[])))&&(u.b||(x.b==[])))&&decide (u.least<=(x.roles.length:Int)))&&decide ((x.roles.length:Int)<=u.most))
def namedU (x:Ax) (u:Use):Bool:=!(u.role&&!bN_ x.role||u.a&&!bg_ x.a||u.b&&!bg_ x.b)&&x.roles.all bN_
def check (x:Ax):Int :=
  if x.shaped=false then 22
  else if x.namedU (us x.kind)=false then 20
  else if (us x.kind).left=true/\x.left.check≠0 then x.left.check
  else if (us x.kind).right=true/\x.right.check≠0 then x.right.check
  else if x.kind=2/\(x.left.bare=true\/x.right.bare=true) then 22
  else if (x.kind=1\/x.kind=4\/x.kind=8)/\x.right.bare=true then 22
  else 0
end Ax
structure NUse where
  a:Bool
  b:Bool
  c:Bool
  r:Bool
  s:Bool
  t:Bool
  numbers:Bool
def NUse.cells (u:NUse):List Value:=[.bool u.a,.bool u.b,.bool u.c,.bool u.r,.bool u.s,.bool u.t,.bool u.numbers]
theorem NUse.cells_len (u:NUse):u.cells.length=7:=rfl
def iv_:List NUse:=[⟨false,false,false,false,false,false,false⟩,⟨true,false,true,false,false,false,false⟩,⟨true,true,true,false,false,false,false⟩,⟨true,false,true,true,false,false,false⟩,⟨true,false,true,true,false,false,false⟩,
  ⟨false,false,false,true,false,true,false⟩,⟨false,false,false,true,true,true,false⟩,⟨false,false,false,true,false,false,false⟩,⟨true,false,false,true,false,false,true⟩,⟨false,false,true,true,false,false,true⟩]
def nus (k:Int):NUse:=(iv_[k.toNat]?).getD ⟨false,false,false,false,false,false,false⟩
end Go.Vs
namespace Go.Sx
open Go
def bk_ (b:Nat) (o:Obj):Fct where
  p:=λv=>v.im b/\v.w.heap[b]? = some o
  mono:=λv v' h hp=>⟨h.imUp b hp.1,by rw[h.block b hp.1];exact hp.2⟩
section
variable {P:Program} {N:Nf} {v0:Vw} {H0:Hp} {R:Exit->Act->World->Prop} {K:List Kt} {fr:Fr} {H:Hp} {Γ:List Fct}
variable {ops:Array Oper} {l:List Oper} {d:Nat} {ty:TypeId} {ps:String} {af:Array Edge}
theorem hK_ {k:Act->World->Prop} {b:Nat} {o:Obj} (i:Nat) (hi:H[i]? = some (b,o)) (h:Ok N v0 H0 k fr (H.eraseIdx i) (bk_ b o::Γ)):Ok N v0 H0 k fr H Γ :=
  et_ (bk_ b o) (gn_ hi) (λ_ m e _=>⟨m,e⟩) h
theorem bt_ {t:TypeId} (e:Nat.blt d N.n=true) (hk:∀ b,Ops P R N v0 H0 ops l K ((d,.map (some b))::fr) ((b,.map #[] 0)::H) Γ) :
    Ops P R N v0 H0 ops (⟨some d,.makeMap t none,ty,ps,af,none⟩::l) K fr H Γ :=
  hm_ (x:=λb=>.map (some b)) e (λa v h _ _=>by simp[execOp,Instr.makeMap,newObj];rfl) hk
def hV_ (P:Program) (k:TypeId) (key:Value):Prop:=∀ e w,(Instr.checkKey e 10000 k key).run P w=.ok () w
def di_ (P:Program) (k:TypeId) (key:Value) (es:List MapEntry) (r:Option (Nat×Value)):Prop:=∀ w,(Instr.findKey k key es).run P w=.ok r w
theorem aZ_ {k:TypeId} {i:IntKind} {n:Int} (h:P.underlying k=some (.int i)):hV_ P k (.int i n):=λe w=>by
  exact key (9999) e w
where key (m:Nat) (e:Bool) (w:World):(Instr.checkKey e (m+1) k (.int i n)).run P w=.ok () w:=by simp[Instr.checkKey,run_underlying h]
theorem aw_ {k:TypeId} {dd:TypeDesc} {e:Value} {es:List MapEntry} {r:Option (Nat×Value)} (m:P.underlying k=some dd) (h:Instr.findNow dd e es 0=some r):di_ P k e es r:=λw=>by
  simp[Instr.findKey,run_underlying m,h]
theorem ef_ {t h I:TypeId} {x y:Operand} {b c i:Nat} {es:Array MapEntry} {e u:Value} (C:∀ w,(underlying t).run P w=.ok (.map h I) w) (F:Fr.ev fr x=some (.map (some b))) (A:Fr.ev fr y=some e)
    (hm:∀ v,v.sat H->ag_ Γ v->v.w.heap[b]? = some (.map es c)) (hk:hV_ P h e) (m:di_ P h e es.toList (some (i,u))):Yld P N fr H Γ (.lookup t x y false) ty u :=
  λa v k B G _ _ _=>by
    have E:=MapKept.run_getObj_map (P:=P) (hm v B G);simp[execOp,k.ev F,k.ev A,Instr.lookup,C,E,hk _ _,m _]
theorem ep_ {t h m:TypeId} {x y:Operand} {b c:Nat} {es:Array MapEntry} {e z:Value} (E:∀ w,(underlying t).run P w=.ok (.map h m) w) (J:∀ w,(zeroValue m).run P w=.ok z w) (G:Fr.ev fr x=some (.map (some b))) (B:Fr.ev fr y=some e)
    (hm:∀ v,v.sat H->ag_ Γ v->v.w.heap[b]? = some (.map es c)) (hk:hV_ P h e) (A:di_ P h e es.toList none):Yld P N fr H Γ (.lookup t x y false) ty z :=
  λa v k C I _ _ _=>by
    have F:=MapKept.run_getObj_map (P:=P) (hm v C I);simp[execOp,k.ev G,k.ev B,Instr.lookup,E,F,hk _ _,A _,J]
theorem aR_ {o:Op} {t C W:TypeId} {x y z:Operand} {b c:Nat} (i:Nat) {es:Array MapEntry} {e u:Value} (I:o=.insert t x y z\/o=.mapUpdate t x y z) (M:∀ w,(underlying t).run P w=.ok (.map C W) w)
    (T:Fr.ev fr x=some (.map (some b))) (L:Fr.ev fr y=some e) (X:Fr.ev fr z=some u) (hi:H[i]? = some (b,.map es c)) (hk:hV_ P C e) (G:di_ P C e es.toList none)
    (B:Ops P R N v0 H0 ops l K fr (H.set i (b,.map (es.push ⟨e,u,c⟩) (c+1))) Γ):Ops P R N v0 H0 ops (⟨none,o,ty,ps,af,none⟩::l) K fr H Γ :=
  cQ_ rfl λa v h m O V=>by
    have A:=(m.own _ (yab_ hi)).1;have S:=MapKept.run_getObj_map (P:=P) A;have Q:=MapKept.run_setObj_map (P:=P) (.map (es.push ⟨e,u,c⟩) (c+1)) A
    have U:(execOp a.eval ⟨none,o,ty,ps,af,none⟩).run P v.w=.ok .skip { v.w with heap:=v.w.heap.setIfInBounds b (.map (es.push ⟨e,u,c⟩) (c+1)) }:=by
      rcases I with rfl|rfl<;>simp[execOp,h.ev T,h.ev L,h.ev X,Instr.mapUpdate,M,S,hk _ _,G _,Q]
    unfold Oper.wp;rw[U];have E:=MapKept.heap_set (o':=.map (es.push ⟨e,u,c⟩) (c+1)) A;obtain⟨J,F⟩:=gj_ (w':={ v.w with heap:=v.w.heap.setIfInBounds b (.map (es.push ⟨e,u,c⟩) (c+1)) }) m hi rfl rfl rfl (yad_ _) zai_ E.1 (λk hk=>E.2 k hk);exact B a _ h J (O.trans F) (aT_ (F.le m) V)
theorem cG_ {f:FuncId} {args:Array Value} {r:Value} (G:fk_ P f) (h:∀ v:Vw,v.sat H->ag_ Γ v->Calls P f args v.w λe w'=>e=.returned r/\RowKit.Below v.w.heap.size v.w w'/\(v.sl\/v.w.drawn<=w'.drawn)):Tri P f args H Γ (λ_:Unit=>r) (λ_=>H) (λ_=>[]) :=
  ⟨G,λv x E=>(h v x E).mono λe w' ⟨F,m,C⟩=>by
    have A:v.w.heap.size<=w'.heap.size:=m.size;have B:∀ p∈H,p.1<v.w.heap.size:=λp y=>(yaA_.1 (x.own p y).1).1
    refine⟨(),⟨v.im,w',v.sl⟩,F,rfl,⟨λp y=>⟨?_,(x.own p y).2⟩,x.nodup,λb k=>ybz_ (x.lt b k) A⟩,trivial,⟨m.os,m.tape,m.output,A,λb k _=>m.block b k,λ_ h=>h,λ_ h=>.inl h,λ_ h=>.inl h,rfl,C⟩⟩;show w'.heap[p.1]? = _
    rw[m.block p.1 (B p y)];exact (x.own p y).1⟩
theorem vO_ (w:World) (k:Nat) (os:Array Obj):RowKit.Below w.heap.size w (Go.Sort.grow (w.drewN k) os) :=
  ⟨rfl,rfl,rfl,by simp[Go.Sort.grow],λb e=>by grind[Sort.grow,World.heap_drewN]⟩
theorem fT_ {t e:TypeId} {sz by':Nat} {z:Value} (m:P.underlying t=some (.slice e)) (hi:(P.info? e).map (λi=>(i.zero,i.size,i.bytes))=some (some z,sz,by')) (v:z.cells.size=sz) (k:0<sz):Elt P t e sz by':=by
  refine⟨m,?_,k⟩;cases h:P.info? e<;>grind
theorem bz_ {b:Nat} {cs:List Value} {T:TypeId} {fz:Nat×Nat} (i:Nat) (hi:H[i]? = some (b,.cells cs.toArray T fz)):∀ v:Vw,v.sat H->ag_ Γ v->∀ j u,cs[j]? = some u->v.w.cell? ((⟨b,0,none⟩:Addr).add j)=some u:=by
  intro v e _ j u h;rw[ck_,ybP_,fc_ e hi];omega
theorem dk_ {N:Nat} {fn:Func} {ι:Type} {F:Hp} {ret:ι->Value} {H':ι->Hp} {Γ':ι->List Fct} (x:ι) (A:∀ (a:Act) (v:Vw),Fr.sat N fr a->v.sat H->(results fn a.tmps).run P v.w=.ok (ret x) v.w) (m:H.Perm (H' x++F))
    (k:∀ v,v.sat H->ag_ Γ v->ag_ (Γ' x) v):Ok N v0 H0 (bodyPost P fn (nF_ v0 H0 ret H' Γ') .ret) fr H Γ :=
  λa v h e y B=>⟨h.defers,ret x,A a v h e,x,v,rfl,rfl,(e.perm m).sub,k v e B,y.subR λb C=>by
    grind⟩
theorem dm_ {fn:Func} {t b n:Nat} {ty T:TypeId} {us:List Value} (i:Nat) (k:fn.results=#[.cell t ty]) (B:∀ w,(isAgg ty).run P w=.ok true w) (m:∀ w,(sizeOf ty).run P w=.ok n w) (A:us.length=n) (x:Fr.get fr t=some (.pointer (some ⟨b,0,none⟩)))
    (hi:H[i]? = some (b,.cells us.toArray T (0,0))) (a:Act) (v:Vw) (C:Fr.sat N fr a) (h:v.sat H):(results fn a.tmps).run P v.w=.ok (.agg us.toArray) v.w:=by
  have e:=C.val t _ x;have hl:=dT_ (t:=ty) (w:=v.w) (b:=b) (off:=0) B m A (λj y E=>by rw[ybP_,fc_ h hi];omega);simp[results,k,e,asAddr,hl]
theorem Br_ {Hs:Hp} {B:List Fct} {k:Nat} {e:Array Bool} (A:List Nat) (E:Region.ready .any ops e=A) (y:A≠[])
    (h:∀ i,i∈A->∃ o,ops[i]? = some o/\Ops P R N v0 H0 ops [o] (.inv (Nx P R ops Hs B k (e.setIfInBounds i true) K)::K) fr H Γ):Any P R N v0 H0 ops Hs B (k+1) e K fr H Γ:=by
  intro a v J C F I;refine wpAnyH_all E y λj G=>?_;obtain⟨o,hi,h⟩:=h j G;have:=h a v J C F I;unfold wpOp;simp only[hi];unfold wpList at this
  split
  . rename_i m
    rw[yaq_ m]at this;rcases this with q|q
    . left
      unfold Oper.wp at q ⊢;generalize (execOp a.eval o).run P v.w=r at q ⊢
      cases r with
      | ok n w' =>
        cases n<;>simp only[Oper.upon]at q ⊢<;>exact q
      | halt x w' =>
        cases x<;>simp only[Oper.upon]at q ⊢
        case panic u=>exact q
    . exact .inr q
  . rename_i m
    rw[yag_ m]at this;exact this
theorem dz_ {Hs:Hp} {v:List Fct} {m:Nat} {e:Array Bool} (i j:Nat) {o o':Oper} (hi:ops[i]? = some o) (A:ops[j]? = some o') (x:Region.ready .any ops e=[i,j])
    (h:Ops P R N v0 H0 ops [o] (.inv (Nx P R ops Hs v m (e.setIfInBounds i true) K)::K) fr H Γ) (y:Ops P R N v0 H0 ops [o'] (.inv (Nx P R ops Hs v m (e.setIfInBounds j true) K)::K) fr H Γ):Any P R N v0 H0 ops Hs v (m+1) e K fr H Γ :=
  Br_ [i,j] x zai_ λk hk=>by
    grind
theorem at_.some {e:TypeId} {sz n:Nat} {sv:Value} {xs:List Value} {Hr:Hp} (h:at_ e sz sv n xs Hr) (m:n≠0) :
    ∃ g cap cur,sv=.slice (some ⟨g,0,none⟩) n cap/\Hr=[(g,.cells cur e (0,0))]/\n<=cap/\cap<=maxLen/\cur.size=cap*sz/\cur.toList.take (n*sz)=xs:=by
  rcases h.2 with⟨_,k,_⟩|k
  all_goals grind
theorem jK_ {us:List Value} (h:us.all Value.oneCell'=true):∀ u∈us,u.oneCell'=true:=by grind
theorem Y_ {e:Nat} (Hs:Hp) (hm:P.follows .mixedOrders=true) (h:Any P R N v0 H0 ops Hs Γ ops.size (Array.replicate ops.size false) K fr H Γ):Run P R N v0 H0 (.region e ops true) K fr H Γ:=sV_ Hs Γ hm h
theorem retG {N:Nat} {fn:Func} {ι:Type} {F:Hp} {ret:ι->Value} {H':ι->Hp} {Γ':ι->List Fct} (x:ι) (B:∀ (a:Act) (v:Vw),Fr.sat N fr a->v.sat H->ag_ Γ v->(results fn a.tmps).run P v.w=.ok (ret x) v.w) (y:H.Perm (H' x++F))
    (m:∀ v,v.sat H->ag_ Γ v->ag_ (Γ' x) v):Ok N v0 H0 (bodyPost P fn (nF_ v0 H0 ret H' Γ') .ret) fr H Γ :=
  λa v k e A h=>⟨k.defers,ret x,B a v k e h,x,v,rfl,rfl,(e.perm y).sub,m v e h,A.subR λb C=>by
    grind⟩
theorem Ch_ {fn:Func} {s t:Nat} {ad h:Addr} {ty ty':TypeId} {u u':Value} {a:Act} {w:World} (x:fn.results=#[.cell s ty,.cell t ty']) (B:∀ w,(isAgg ty).run P w=.ok false w) (m:∀ w,(isAgg ty').run P w=.ok false w) (v:Fr.sat N fr a) (A:Fr.get fr s=some (.pointer (some ad))) (y:Fr.get fr t=some (.pointer (some h)))
    (C:w.cell? ad=some u) (k:w.cell? h=some u'):(results fn a.tmps).run P w=.ok (.tuple #[u,u']) w:=by
  have e:=v.val s _ A;have E:=v.val t _ y;simp[results,x,e,E,asAddr,cc_ B C,cc_ m k]
theorem pc_ {b:Nat} {cs:List Value} {T:TypeId} {fz:Nat×Nat} {v:Vw} (j:Nat) {u:Value} (h:(bk_ b (.cells cs.toArray T fz)).p v) (e:cs[j]? = some u):v.w.cell? ⟨b,j,none⟩=some u:=by
  simp[World.cell?,h.2,e]
theorem cv_ {t:TypeId} {x:Operand} {b off:Nat} {cs:List Value} {T:TypeId} {fz:Nat×Nat} {u:Value} {ty:TypeId} (h:∀ w,(isAgg t).run P w=.ok false w) (m:Fr.ev fr x=some (.pointer (some ⟨b,off,none⟩))) (e:∀ v,v.sat H->ag_ Γ v->(bk_ b (.cells cs.toArray T fz)).p v) (k:cs[off]? = some u):Yld P N fr H Γ (.load t x) ty u :=
  by grind[gs_,cc_,pc_]
end
end Go.Sx
namespace Go.Vs
open Go Go.Sx
namespace Con
def text:Con->Str
  | mk k nm lo hi _ _ ps =>
    if k=1 then [101,118,101,114,121,116,104,105,110,103]
    else if k=2 then [110,111,116,104,105,110,103]
    else if k=3 then nm
    else if k=4 then [123]++nm++[125]
    else if k=5 then Lib.join (operands ps) [32,97,110,100,32]
    else if k=6 then Lib.join [[115,111,109,101],nm,(operands ps).headD []] [32]
    else Lib.join [nm,[105,110],Lib.itoa lo,[116,111],Lib.itoa hi] [32]
where operands:List Con->List Str
  | []=>[]
  | p::ps=>(if p.kind=5 then [40]++text p++[41] else text p)::operands ps
def operand (c:Con):Str:=if c.kind=5 then [40]++c.text++[41] else c.text
theorem ne_:∀ (ps:List Con),text.operands ps=ps.map operand
  | []=>rfl
  | p::ps=>by simp only[text.operands,yar_,ne_ ps,operand]
theorem text_eq (c:Con):c.text =
    if c.kind=1 then [101,118,101,114,121,116,104,105,110,103]
    else if c.kind=2 then [110,111,116,104,105,110,103]
    else if c.kind=3 then c.name
    else if c.kind=4 then [123]++c.name++[125]
    else if c.kind=5 then Lib.join (c.parts.map operand) [32,97,110,100,32]
    else if c.kind=6 then Lib.join [[115,111,109,101],c.name,(c.parts.map operand).headD []] [32]
    else Lib.join [c.name,[105,110],Lib.itoa c.lo,[116,111],Lib.itoa c.hi] [32]:=by
  cases c;simp only[text,ne_];rfl
theorem li_ (d:Str):∀ (xs:List Str),(Lib.join xs d).length<=(xs.map λx=>x.length+d.length).sum
  | []=>by grind[Lib.join_nil]
  | [x]=>by grind[Lib.join_one]
  | x::y::r=>by
    have h:=li_ d (y::r);have e:Lib.join (x::y::r) d=x++d++Lib.join (y::r) d:=by simp[Lib.join,List.intercalate]
    grind
def fine (c:Con):Prop:=c.firstErr=0
theorem jr_:∀ {ps:List Con},firstErr.firstErrs ps=0↔∀ p∈ps,p.firstErr=0
 | []=>by simp[firstErr.firstErrs]
 | p::ps=>by
   simp only[firstErr.firstErrs,yal_,forall_eq_or_imp]
   by_cases h:p.firstErr=0
   . simp[h,jr_ (ps:=ps)]
   . simp[h]
theorem gV_ (c:Con):c.fine↔c.fieldErr=0/\∀ p∈c.parts,p.fine:=by
  grind[fine,hp_,jr_]
theorem fine_part {c p:Con} (h:c.fine) (d:p∈c.parts):p.fine:=by grind[gV_]
structure Fields (c:Con):Prop where
  k1:1<=c.kind
  k7:c.kind<=7
  nm:c.name.length<=24
  le:(nd c.kind).2.1<=c.parts.length
  mo:c.parts.length<=(nd c.kind).2.2.1
theorem plain_len {s:Str} (h:bN_ s=true):s.length<=24:=by
  grind[bN_]
theorem reserved_len {s:Str} (h:cY_ s=true):s.length<=24:=by
  grind[cY_]
theorem fields_of {c:Con} (h:c.fieldErr=0):Fields c:=by
 unfold fieldErr at h
 split at h
 .cases h
 rename_i d
 split at h
 .cases h
 rename_i e
 split at h
 .cases h
 split at h
 .cases h
 split at h
 .rename_i k
  simp only[not_or,not_and]at d e;refine⟨by omega,by omega,?_,by omega,by omega⟩
  grind[plain_len,reserved_len]
 cases h
theorem fields {c:Con} (h:c.fine):Fields c:=fields_of ((gV_ c).1 h).1
theorem text_len:∀ (m:Nat) (c:Con),c.sz<=m->c.ok->c.fine->c.text.length+10<=100*c.sz
 | 0,c,h=>by grind[sz_pos]
 | m+1,c,h=>λd A=>by
   have F:=fields A;have K:=c.sz_pos
   have k:∀ p∈c.parts,p.operand.length+8<=100*p.sz:=λp y=>by
     have:=text_len m p (by have:=sz_part y;omega) (ok_part d y) (fine_part A y)
     grind[operand]
   have B:(c.parts.map λp=>p.operand.length+5).sum<=100*(c.sz - 1):=by
     have v:∀ ps:List Con,(∀ p∈ps,p.operand.length+8<=100*p.sz)->(ps.map λp=>p.operand.length+5).sum<=100*sz.szs ps:=by
       intro ps
       induction ps<;>grind[sz.szs]
     have:=v c.parts k;cases c<;>grind[sz,parts]
   rw[text_eq];have E:(Lib.itoa c.lo).length<=21:=by cases c;exact Lib.itoa_length_le _ d.2.2.2.1 d.2.2.2.2.1
   have I:(Lib.itoa c.hi).length<=21:=by cases c;exact Lib.itoa_length_le _ d.2.2.2.2.2.1 d.2.2.2.2.2.2.1
   have G:=F.nm
   split
   . simp;omega
   . split
     . simp;omega
     . split
       . omega
       . split
         . simp;omega
         . split
           . have:=li_ [32,97,110,100,32] (c.parts.map operand)
             simp only[ycK_,yak_,yay_]at this;have e:(c.parts.map ((λx:Str=>x.length+(0+1+1+1+1+1)) ∘ operand)).sum=(c.parts.map λp=>p.operand.length+5).sum:=rfl
             grind
           . split
             . rename_i J
               have H:1<=c.parts.length:=by have:=F.le;grind[nd,ei_]
               obtain⟨p,ps,C⟩:=ycb_ H
               grind[li_]
             grind[li_]
theorem rY_:∀ (m:Nat) (c:Con),c.sz<=m->∀ d n,(c.fits d n).1=true->(c.fits d n).2=n+c.sz
 | 0,c,h=>by grind[sz_pos]
 | m+1,c,h=>λd n e=>by
   rw[fits_eq]at e ⊢
   split at e
   . cases e
   . rename_i y
     rw[yag_ y]
     have v:∀ ps:List Con,(∀ p∈ps,p.sz<=m)->∀ n,(fits.fitss ps (d+1) n).1=true->(fits.fitss ps (d+1) n).2=n+sz.szs ps:=by
       intro ps
       induction ps with
       | nil=>grind[fits.fitss,sz.szs]
       | cons p ps ih =>
         intro k n e;simp only[fits.fitss]at e ⊢
         split at e
         . rename_i q x
           have A:=rY_ m p (k p zai_) (d+1) n (by rw[x])
           grind[sz.szs]
         . cases e
     have:=v c.parts (λp k=>by have:=sz_part k;omega) (n+1) e;rw[this];cases c<;>grind[sz,parts]
theorem check_zero {c:Con} (h:c.check=0):c.fine/\c.sz<=64:=by
 unfold check at h
 split at h
 .rename_i d
  have e:=rY_ _ c (yad_ _) 0 0 d;have k:=rZ_ _ c (yad_ _) 0 0 d;exact⟨h,by omega⟩
 cases h
def textN (c:Con):Str:=if c.check=0 then c.text else []
theorem textN_len {c:Con} (d:c.ok):c.textN.length<=6400:=by
 unfold textN
 split
 .rename_i h
  obtain⟨e,k⟩:=check_zero h;have:=text_len _ c (yad_ _) d e;omega
 simp
def operandN (c:Con):Str:=if c.kind=5 then [40]++c.textN++[41] else c.textN
def atom (c:Con):Str :=
  if c.kind=1 then [42] else if c.kind=2 then [33] else if c.kind=3 then c.name else if c.kind=4 then [123]++c.name++[125] else [60]++c.textN++[62]
end Con
theorem qp_ {cur:Array Value} {n:Nat} {xs:List Str} (h:cur.toList.take (n*1)=xs.flatMap aa_):∀ (j:Nat) (x:Str),xs[j]? = some x->cur[j]? = some (str x):=by
  intro j x d;have e:=A_ an_ d 0 (str x) rfl
  grind
theorem wg_ (xs:List Str):∀ (j:Nat) (x:Str),xs[j]? = some x->(xs.map str).toArray[j]? = some (str x):=by
  grind
end Go.Vs
namespace Go.Sx
open Go
section
variable {P:Program}
theorem jQ_ {d:Nat} {xs ys:Array Value} (w:World):(Op.eqFields d xs ys []).run P w=.ok true w:=by simp[Op.eqFields]
theorem bR_ {d : Nat} {xs ys : Array Value} {f : Field} {h : List Field} {a b : Value} {r s : Bool} {w : World} (A : (f.name == "_") = false) (m : ∀ w, (isAgg f.type).run P w = .ok false w) (x : xs[f.offset]? = some a) (k : ys[f.offset]? = some b)
    (v:(Op.equalIn d f.type a b).run P w=.ok r w) (y:(Op.eqFields d xs ys h).run P w=.ok s w):(Op.eqFields d xs ys (f::h)).run P w=.ok (r&&s) w:=by
  have e : f.name ≠ "_" := by grind
  simp only[Op.eqFields,e,ne_eq,not_false_eq_true,ycq_,part,Sem.run_bind,m,Result.andThen_ok,ybV_,ycF_,x,k,Sem.run_pure,v];cases r
  . simp
  grind
theorem eqI {d:Nat} {t:TypeId} {k:IntKind} {a b:Int} (h:P.underlying t=some (.int k)) (w:World):(Op.equalIn (d+1) t (.int k a) (.int k b)).run P w=.ok (a==b) w:=by grind[run_equalIn_int]
theorem eqS {d:Nat} {t:TypeId} {a b:List UInt8} (h:P.underlying t=some .string) (w:World):(Op.equalIn (d+1) t (str a) (str b)).run P w=.ok (a==b) w:=by
  have:=run_equalIn_string w d t ⟨a.toArray⟩ ⟨b.toArray⟩ h;simp only[ByteArray.toList_eq]at this;exact this
theorem ckF {e : Bool} {n : Nat} {t : TypeId} {k : Array Field} {xs : Array Value} {w : World} (y : P.underlying t = some (.struct k)) (h : ∀ f ∈ k.toList, (f.name == "_") = false/\(∀ w, (isAgg f.type).run P w = .ok false w)/\∃ a, xs[f.offset]? = some a/\(∀ w, (Instr.checkKey e n f.type a).run P w = .ok () w)) :
    (Instr.checkKey e (n+1) t (.agg xs)).run P w=.ok () w:=by
  simp only[Instr.checkKey,Sem.run_bind,run_underlying y,Result.andThen_ok];rw[<-Array.forIn_toList];generalize k.toList=l at h
  induction l with
  | nil=>simp
  | cons f l ih =>
    obtain⟨B,m,a,A,v⟩:=h f (by simp);have d : f.name ≠ "_" := by grind
    simp only[List.forIn_cons,d,ne_eq,not_false_eq_true,ycq_,part,Sem.run_bind,m,Result.andThen_ok,ybV_,ycF_,A,Sem.run_pure,v];exact ih λg x=>h g (by simp[x])
theorem lp_ {α:Type} [DecidableEq α] {k:TypeId} {B:Array Field} {val:α->Value} (A:P.underlying k=some (.struct B)) (d:∀ p q w,(Op.equal k (val p) (val q)).run P w=.ok (decide (p=q)) w) (p:α) :
    ∀ (l:List α) (es:List MapEntry) (i:Nat),es.map (·.key)=l.map val->(p ∉ l->∀ w,(Instr.findAsking k (val p) es i).run P w=.ok none w)/\(p∈l->(∀ x∈es,x.val=.bool true)->∃ j,∀ w,(Instr.findAsking k (val p) es i).run P w=.ok (some (j,.bool true)) w)
  | [],es,i,h=>by
    have:es=[]:=by simpa using h
    subst this;simp[Instr.findAsking]
  | q::l,[],i,h=>by simp at h
  | q::l,e::es,i,h=>by
    simp only[yar_,yaP_]at h;have E:=lp_ A d p l es (i+1) h.2
    by_cases m:p=q
    . subst m
      refine⟨λy=>absurd yao_ y,λ_ v=>⟨i,λw=>?_⟩⟩;simp only[Instr.findAsking,Sem.run_bind,h.1,d,Result.andThen_ok,decide_true,ycq_,Sem.run_pure,v e zai_]
    . refine⟨λy w=>?_,λhm v=>?_⟩
      . grind[Instr.findAsking,Sem.run_bind,Result.andThen_ok]
      . obtain⟨j,F⟩:=E.2 zak_ λx C=>v x (by simp[C])
        refine⟨j,λw=>?_⟩
        grind[Instr.findAsking,Sem.run_bind,Result.andThen_ok]
theorem is_ {α:Type} [DecidableEq α] {k:TypeId} {y:Array Field} {val:α->Value} (m:P.underlying k=some (.struct y)) (v:∀ p q w,(Op.equal k (val p) (val q)).run P w=.ok (decide (p=q)) w) (p:α) (l:List α) (es:List MapEntry) (h:es.map (·.key)=l.map val) :
    (p ∉ l->di_ P k (val p) es none)/\(p∈l->(∀ x∈es,x.val=.bool true)->∃ j,di_ P k (val p) es (some (j,.bool true))):=by
  have C:=lp_ m v p l es 0 h;have d:∀ (e:MapEntry) (r:List MapEntry),Instr.findNow (.struct y) (val p) (e::r) 0=none:=λe r=>by grind[Instr.findNow,Instr.sameNow]
  cases es with
  | nil =>
    have:l=[]:=by simpa using h.symm
    subst this;exact⟨λ_ w=>by simp[Instr.findKey,run_underlying m,Instr.findNow],λh=>by simp at h⟩
  | cons e r =>
    refine⟨λE w=>?_,λhm A=>?_⟩
    . simp only[Instr.findKey,Sem.run_bind,run_underlying m,Result.andThen_ok,d]
      grind
    . obtain⟨j,B⟩:=C.2 hm A
      refine⟨j,λw=>?_⟩;simp only[Instr.findKey,Sem.run_bind,run_underlying m,Result.andThen_ok,d];exact B w
end
end Go.Sx
namespace Go.Vs
open Go Go.Sx
structure Pc where
  kind:Int
  a:Str
  b:Str
  c:Str
  r:Str
  s:Str
  t:Str
  lo:Int
  hi:Int
  frm:Int
  deriving DecidableEq
namespace Pc
def cells (p:Pc):List Value:=[.int .i64 p.kind,str p.a,str p.b,str p.c,str p.r,str p.s,str p.t,.int .i64 p.lo,.int .i64 p.hi,.int .i64 p.frm]
def val (p:Pc):Value:=.agg p.cells.toArray
theorem cells_len (p:Pc):p.cells.length=10:=rfl
theorem cells_one (p:Pc):p.cells.all Value.oneCell'=true:=rfl
def eqb (p q:Pc):Bool:=(p.kind==q.kind)&&((p.a==q.a)&&((p.b==q.b)&&((p.c==q.c)&&((p.r==q.r)&&((p.s==q.s)&&((p.t==q.t)&&((p.lo==q.lo)&&((p.hi==q.hi)&&((p.frm==q.frm)&&true)))))))))
theorem eqb_eq (p q:Pc):p.eqb q=decide (p=q):=by
  rw[ybh_];cases p;cases q;simp[eqb]
end Pc
def ins (frm:Int) (l:List Pc) (p:Pc):List Pc:=if { p with frm:=frm }∈l then l else l++[{ p with frm:=frm }]
theorem cH_ (frm:Int) (l:List Pc) (p:Pc):(ins frm l p).length<=l.length+1:=by grind[ins]
structure Fc where
  kind:Int
  a:Str
  b:Str
  r:Str
  lo:Int
  hi:Int
  deriving DecidableEq
namespace Fc
def cells (p:Fc):List Value:=[.int .i64 p.kind,str p.a,str p.b,str p.r,.int .i64 p.lo,.int .i64 p.hi]
def val (p:Fc):Value:=.agg p.cells.toArray
theorem cells_len (p:Fc):p.cells.length=6:=rfl
def eqb (p q:Fc):Bool:=(p.kind==q.kind)&&((p.a==q.a)&&((p.b==q.b)&&((p.r==q.r)&&((p.lo==q.lo)&&((p.hi==q.hi)&&true)))))
theorem eqb_eq (p q:Fc):p.eqb q=decide (p=q):=by
  rw[ybh_];cases p;cases q;simp[eqb]
end Fc
end Go.Vs
namespace Go.Sx
open Go
theorem ai_ {P:Program} {N:Nf} {fr:Fr} {H:Hp} {Γ:List Fct} {d:Op} {ty:TypeId} {x y:Value} (h:Yld P N fr H Γ d ty x) (e:x=y):Yld P N fr H Γ d ty y:=e▸h
theorem wG_ {α:Type} (f:α->List Value) (n:Nat) (d:∀ x,(f x).length=n):∀ (l:List α) (i:Nat),(l.flatMap f).drop (i*n)=(l.drop i).flatMap f
  | l,0=>by simp
  | [],i+1=>by simp
  | x::l,i+1=>by
    simp only[yaT_,ycd_];rw[<-wG_ f n d l i,List.drop_append,d,yaO_ zak_,ycW_]
    grind
theorem lm_ {α:Type} (f:α->List Value) (n:Nat) (d:∀ x,(f x).length=n):∀ (l:List α) (i:Nat),(l.flatMap f).take (i*n)=(l.take i).flatMap f
  | l,0=>by simp
  | [],i+1=>by simp
  | x::l,i+1=>by
    simp only[yaT_,ybS_];rw[<-lm_ f n d l i,ycT_,d,yac_ zak_]
    grind
theorem bW_.slice {α:Type} {f:α->List Value} {n:Nat} (d:∀ x,(f x).length=n) {v:Vw} {ad:Ao} {l:List α} {cap:Nat} (h:bW_ v ad (l.flatMap f)) (m:l.length<=cap) (i k:Nat):bW_ v (Sx.sad ad cap i n) (((l.drop i).take k).flatMap f):=by
  refine h.sad _ (λj x e=>?_) (by rw[ch_ f n d];exact yaU_ _ m);rw[<-lm_ f n d,<-wG_ f n d,ybK_]at e
  grind
end Go.Sx
namespace Go.Vs
open Go Go.Sx
namespace Con
def pre (c:Con) (j:Nat):Con:=.mk 5 [] 0 0 (sad c.ad c.cap 0 5) (c.cap - 0) (c.parts.take j)
theorem pre_mem {c:Con} (d:c.ok) {v:Vw} (h:c.mem v) (j:Nat):(c.pre j).mem v:=by
  rw[mem_iff]at h ⊢;refine⟨?_,λp e=>h.2 p (ybr_ e)⟩;have:=h.1.slice cells_len (ok_len d).1 0 j;exact this
theorem pre_ok {c:Con} (d:c.ok) (j:Nat):(c.pre j).ok:=by
  have h:=ok_len d;refine⟨by decide,by decide,by simp,by decide,by decide,by decide,by decide,?_,?_,oks_iff.2 λp e=>ok_part d (ybr_ e)⟩
  all_goals grind
def andP (frm:Int) (c:Con):List Con->Nat->Str->List Pc->List Pc
  | [],_,_,l=>l
  | p::r,j,f,l=>andP frm c r (j+1) (c.pre (j+1)).atom (ins frm l ⟨2,f,p.atom,(c.pre (j+1)).atom,[],[],[],0,0,0⟩)
theorem uv_ (frm:Int) (c:Con):∀ (r:List Con) (j:Nat) (f:Str) (l:List Pc),(andP frm c r j f l).length<=l.length+r.length
  | [],_,_,l=>by simp[andP]
  | p::r,j,f,l=>by
    have d:=uv_ frm c r (j+1) (c.pre (j+1)).atom (ins frm l ⟨2,f,p.atom,(c.pre (j+1)).atom,[],[],[],0,0,0⟩)
    grind[cH_,andP]
def leftP (frm:Int):Con->List Pc->List Pc
  | c@(mk k nm lo hi _ _ ps),l =>
    if k=5 then andP frm c (ps.drop 1) 1 ((ps.map atom).headD []) (lefts frm ps l)
    else if k=6 then ins frm (lefts frm ps l) ⟨4,(ps.map atom).headD [],[],c.atom,nm,[],[],0,0,0⟩
    else if k=7 then ins frm l ⟨9,[],[],c.atom,nm,[],[],lo,hi,0⟩
    else l
where lefts (frm:Int):List Con->List Pc->List Pc
  | [],l=>l
  | p::ps,l=>lefts frm ps (leftP frm p l)
theorem leftP_eq (frm:Int) (c:Con) (l:List Pc):c.leftP frm l =
    if c.kind=5 then andP frm c (c.parts.drop 1) 1 ((c.parts.map atom).headD []) (leftP.lefts frm c.parts l)
    else if c.kind=6 then ins frm (leftP.lefts frm c.parts l) ⟨4,(c.parts.map atom).headD [],[],c.atom,c.name,[],[],0,0,0⟩
    else if c.kind=7 then ins frm l ⟨9,[],[],c.atom,c.name,[],[],c.lo,c.hi,0⟩
    else l:=by cases c;simp only[leftP];rfl
theorem lg_ (frm:Int):∀ (xs ys:List Con) (l:List Pc),leftP.lefts frm (xs++ys) l=leftP.lefts frm ys (leftP.lefts frm xs l)
  | [],_,_=>rfl
  | x::xs,ys,l=>by simp only[yaD_,leftP.lefts];exact lg_ frm xs ys _
theorem lefts_step (frm:Int) {ps:List Con} {p:Con} {i:Nat} (d:ps[i]? = some p) (l:List Pc):leftP.lefts frm (ps.take (i+1)) l=p.leftP frm (leftP.lefts frm (ps.take i) l):=by
  rw[take_snoc d,lg_];rfl
theorem szs_len:∀ ps:List Con,ps.length<=sz.szs ps
  | []=>by grind
  | p::ps=>by have:=szs_len ps;grind[sz_pos,sz.szs]
theorem leftP_len (frm:Int):∀ (m:Nat) (c:Con),c.sz<=m->∀ l,(c.leftP frm l).length+2<=l.length+2*c.sz+0+1
  | 0,c,h=>by grind[sz_pos]
  | m+1,c,h=>λl=>by
    have d:∀ ps:List Con,(∀ p∈ps,p.sz<=m)->∀ l,(leftP.lefts frm ps l).length+ps.length<=l.length+2*sz.szs ps:=by
      intro ps
      induction ps with
      | nil=>grind[leftP.lefts]
      | cons p ps ih =>
        intro e l;have v:=leftP_len frm m p (e p zai_) l
        grind[leftP.lefts,sz.szs]
    have hk:=d c.parts (λp e=>by have:=sz_part e;omega) l;have k:c.sz=1+sz.szs c.parts:=by cases c;grind[sz,parts]
    grind[leftP_eq,uv_,cH_]
def rightP (frm:Int):Con->List Pc->List Pc
  | c@(mk k nm lo hi _ _ ps),l =>
    if k=5 then rights frm c.atom ps l
    else if k=6 then righty frm ps (ins frm l ⟨3,c.atom,[],(ps.map atom).headD [],nm,[],[],0,0,0⟩)
    else if k=7 then ins frm l ⟨8,c.atom,[],[],nm,[],[],lo,hi,0⟩
    else l
where
  rights (frm:Int) (a:Str):List Con->List Pc->List Pc
  | [],l=>l
  | p::ps,l=>rights frm a ps (rightP frm p (ins frm l ⟨1,a,[],p.atom,[],[],[],0,0,0⟩))
  righty (frm:Int):List Con->List Pc->List Pc
  | [],l=>l
  | p::ps,l=>righty frm ps (rightP frm p l)
theorem rightP_eq (frm:Int) (c:Con) (l:List Pc):c.rightP frm l =
    if c.kind=5 then rightP.rights frm c.atom c.parts l
    else if c.kind=6 then rightP.righty frm c.parts (ins frm l ⟨3,c.atom,[],(c.parts.map atom).headD [],c.name,[],[],0,0,0⟩)
    else if c.kind=7 then ins frm l ⟨8,c.atom,[],[],c.name,[],[],c.lo,c.hi,0⟩
    else l:=by cases c;simp only[rightP];rfl
theorem ka_ (frm:Int) (a:Str):∀ (xs ys:List Con) (l:List Pc),rightP.rights frm a (xs++ys) l=rightP.rights frm a ys (rightP.rights frm a xs l)
  | [],_,_=>rfl
  | x::xs,ys,l=>by simp only[yaD_,rightP.rights];exact ka_ frm a xs ys _
theorem rights_step (frm:Int) (a:Str) {ps:List Con} {p:Con} {i:Nat} (d:ps[i]? = some p) (l:List Pc):rightP.rights frm a (ps.take (i+1)) l=p.rightP frm (ins frm (rightP.rights frm a (ps.take i) l) ⟨1,a,[],p.atom,[],[],[],0,0,0⟩):=by
  rw[take_snoc d,ka_];rfl
theorem rightP_len (frm:Int):∀ (m:Nat) (c:Con),c.sz<=m->∀ l,(c.rightP frm l).length+1<=l.length+2*c.sz
  | 0,c,h=>by grind[sz_pos]
  | m+1,c,h=>λl=>by
    have k:∀ ps:List Con,(∀ p∈ps,p.sz<=m)->∀ a l,(rightP.rights frm a ps l).length<=l.length+2*sz.szs ps:=by
      intro ps
      induction ps with
      | nil=>grind[rightP.rights]
      | cons p ps ih =>
        intro d a l;have A:=cH_ frm l ⟨1,a,[],p.atom,[],[],[],0,0,0⟩;have x:=rightP_len frm m p (d p zai_) (ins frm l ⟨1,a,[],p.atom,[],[],[],0,0,0⟩)
        grind[rightP.rights,sz.szs]
    have e:∀ ps:List Con,(∀ p∈ps,p.sz<=m)->∀ l,(rightP.righty frm ps l).length<=l.length+2*sz.szs ps:=by
      intro ps
      induction ps with
      | nil=>grind[rightP.righty]
      | cons p ps ih =>
        intro d l;have x:=rightP_len frm m p (d p zai_) l
        grind[rightP.righty,sz.szs]
    have v:∀ p∈c.parts,p.sz<=m:=λp d=>by have:=sz_part d;omega
    have y:c.sz=1+sz.szs c.parts:=by cases c;grind[sz,parts]
    grind[rightP_eq,ins]
end Con
end Go.Vs
namespace Go.Sx
open Go
theorem bW_.rest {α:Type} {f:α->List Value} {n:Nat} (d:∀ x,(f x).length=n) {v:Vw} {ad:Ao} {l:List α} {cap:Nat} (h:bW_ v ad (l.flatMap f)) (e:l.length<=cap) (i:Nat):bW_ v (Sx.sad ad cap i n) ((l.drop i).flatMap f):=by
  have:=h.slice d e i l.length
  grind[List.take_of_length_le]
theorem lt_ {α:Type} {l:List α} {x:α} {i:Nat} (d:l[i]? = some x):l.drop i=x::l.drop (i+1):=by
  grind[List.drop_eq_getElem_cons]
theorem tV_ {α:Type} {l:List α} {x d:α} (e:l[0]? = some x):l.headD d=x:=by cases l<;>simp_all
end Go.Sx
namespace Go.Vs
open Go Go.Sx
namespace Ax
def chainP (frm:Int) (role:Str):List Str->Str->List Pc->List Pc
  | [],_,l=>l
  | r::t,f,l =>
    let all:=if t=[] then role else f++[46]++r
    chainP frm role t all (ins frm l ⟨6,[],[],[],f,r,all,0,0,0⟩)
def pieces (frm:Int) (x:Ax):List Pc :=
  if x.kind=1 then ins frm (x.right.rightP frm (x.left.leftP frm [])) ⟨1,x.left.atom,[],x.right.atom,[],[],[],0,0,0⟩
  else if x.kind=2 then
    ins frm (x.left.rightP frm (x.right.leftP frm (ins frm (x.right.rightP frm (x.left.leftP frm [])) ⟨1,x.left.atom,[],x.right.atom,[],[],[],0,0,0⟩))) ⟨1,x.right.atom,[],x.left.atom,[],[],[],0,0,0⟩
  else if x.kind=3 then ins frm (x.right.leftP frm (x.left.leftP frm [])) ⟨2,x.left.atom,x.right.atom,[33],[],[],[],0,0,0⟩
  else if x.kind=4 then ins frm (x.right.rightP frm []) ⟨4,[42],[],x.right.atom,x.role,[],[],0,0,0⟩
  else if x.kind=5 then ins frm [] ⟨5,[],[],[],x.roles.headD [],[],x.role,0,0,0⟩
  else if x.kind=6 then chainP frm x.role (x.roles.drop 1) (x.roles.headD []) []
  else if x.kind=7 then ins frm [] ⟨7,[],[],[],x.role,[],[],0,0,0⟩
  else if x.kind=8 then ins frm (x.right.rightP frm []) ⟨1,[123]++x.a++[125],[],x.right.atom,[],[],[],0,0,0⟩
  else ins frm [] ⟨3,[123]++x.a++[125],[],[123]++x.b++[125],x.role,[],[],0,0,0⟩
structure Good (x:Ax):Prop where
  k1:1<=x.kind
  k9:x.kind<=9
  left:x.kind<=3->x.left.check=0
  right:x.kind<=4\/x.kind=8->x.right.check=0
  role:x.kind=4\/x.kind=5\/x.kind=6\/x.kind=7\/x.kind=9->bN_ x.role=true
  roles:∀ r∈x.roles,bN_ r=true
  one:x.kind=5->x.roles.length=1
  chain:x.kind=6->2<=x.roles.length/\x.roles.length<=4
  a:x.kind=8\/x.kind=9->bg_ x.a=true
  b:x.kind=9->bg_ x.b=true
theorem good_of {x:Ax} (h:x.check=0):Good x:=by
 unfold check at h
 split at h
 .cases h
 rename_i d
 split at h
 .cases h
 rename_i k
 split at h
 .grind
 rename_i A
 split at h
 .grind
 rename_i v
 clear h;simp only[Bool.not_eq_false]at d k
 have hk:1<=x.kind/\x.kind<=9:=by
   grind[shaped]
 have m:x.kind=1\/x.kind=2\/x.kind=3\/x.kind=4\/x.kind=5\/x.kind=6\/x.kind=7\/x.kind=8\/x.kind=9:=by omega
 unfold shaped at d;rw[yag_ zaa_]at d
 have y:∀ r∈x.roles,bN_ r=true:=by
   grind[namedU]
 unfold namedU at k
 rcases m with e|e|e|e|e|e|e|e|e<;>simp[us,uE_,e]at d k A v <;>
   refine⟨by omega,by omega,λ_=>?_,λ_=>?_,λ_=>?_,y,λ_=>?_,λ_=>?_,λ_=>?_,λ_=>?_⟩ <;>
   first|omega|assumption|exact k.1|grind|grind|grind|(exact⟨by omega,by omega⟩)
end Ax
def Clw {α:Type} (E:α->α->Bool->Prop) (n:Nat) (f:Nat->α) (c:Nat->Bool):Prop :=
  0<n/\f n=f 0/\(∀ m,m<n->E (f m) (f (m+1)) (c m))/\∃ m,m<n/\c m=true
def Clo {α:Type} (E:α->α->Bool->Prop) (n:Nat):Prop:=∃ (f:Nat->α) (c:Nat->Bool),Clw E n f c
theorem Aq_ {p:Nat->Prop} {n:Nat} (h:p n):∃ m,p m/\m<=n/\∀ k,p k->m<=k:=by
  induction n using Nat.strongRecOn<;>grind
theorem Clw.inj {α:Type} {E:α->α->Bool->Prop} {n:Nat} {f:Nat->α} {c:Nat->Bool} (h:Clw E n f c) (hm:∀ k,Clo E k->n<=k):∀ a b,a<b->b<n->f a≠f b:=by
 intro a b x y e;obtain⟨_,B,hE,d,A,F⟩:=h
 by_cases g:a<=d/\d<b
 .have:=hm (b - a) ⟨λm=>f (a+m),λm=>c (a+m),by omega,by grind,λm v=>by
    grind,d - a,by omega,by grind⟩
  omega
 have:=hm (n - (b - a)) ⟨λm=>if m<a then f m else f (m+(b - a)),λm=>if m<a then c m else c (m+(b - a)),by omega,?_,?_,?_⟩
 .omega
 .grind
 .grind
 by_cases C:d<a
 .grind
 exact⟨d - (b - a),by omega,by grind⟩
def sig (c:Nat->Bool):Nat->Bool
  | 0=>false
  | n+1=>sig c n||c n
theorem oM_ {c:Nat->Bool}:∀ {n:Nat},sig c n=true↔∃ m,m<n/\c m=true
  | 0=>by simp[sig]
  | n+1=>by
    simp only[sig,ybs_,oM_ (n:=n)]
    grind
theorem qs_ {c d:Nat->Bool}:∀ {n:Nat},(∀ m,m<n->c m=d m)->sig c n=sig d n
  | 0,_=>rfl
  | n+1,h=>by simp only[sig];rw[qs_ (n:=n) λm hm=>h m zaa_,h n zaa_]
def Wlk {α:Type} (E:α->α->Bool->Prop) (x y:α) (b:Bool) (n:Nat):Prop :=
  ∃ (f:Nat->α) (c:Nat->Bool),f 0=x/\f n=y/\(∀ m,m<n->E (f m) (f (m+1)) (c m))/\sig c n=b
theorem Wlk.nil {α:Type} {E:α->α->Bool->Prop} (x:α):Wlk E x x false 0:=⟨λ_=>x,λ_=>false,rfl,rfl,λm h=>absurd h zaa_,rfl⟩
theorem Wlk.snoc {α:Type} {E:α->α->Bool->Prop} {x y z:α} {b d:Bool} {n:Nat} (h:Wlk E x y b n) (e:E y z d):Wlk E x z (b||d) (n+1):=by
  obtain⟨f,c,A,k,B,v⟩:=h;refine⟨λm=>if m<=n then f m else z,λm=>if m<n then c m else d,?_,?_,?_,?_⟩
  all_goals grind[sig,qs_]
theorem Wlk.clo {α:Type} {E:α->α->Bool->Prop} {x:α} {n:Nat} (h:Wlk E x x true n):Clo E n:=by
  obtain⟨f,c,k,d,v,e⟩:=h;obtain⟨m,hm,y⟩:=oM_.1 e;exact⟨f,c,by omega,by rw[k,d],v,m,hm,y⟩
structure Wy where
  role:Nat
  strict:Bool
  before:Nat
  many:Nat
def gE (G:List (List (Nat×Bool))) (i j:Nat) (c:Bool):Prop:=∃ l,G[i]? = some l/\(j,c)∈l
def pn_ (W:List Wy) (r:Nat) (b:Bool):Bool:=W.any λw=>w.role==r&&w.strict==b
theorem qW_ {W:List Wy} {r:Nat} {b:Bool}:pn_ W r b=true↔∃ w∈W,w.role=r/\w.strict=b:=by
  grind[pn_]
def Dn (start:Nat) (W:List Wy) (w:Wy) (s:Nat×Bool):Prop :=
  ¬(s.1=start/\(w.strict||s.2)=true)/\∃ w'∈W,w'.role=s.1/\w'.strict=(w.strict||s.2)/\w'.many<=w.many+1
theorem Dn.mono {d:Nat} {W V:List Wy} {w:Wy} {s:Nat×Bool} (h:Dn d W w s) (v:∀ x∈W,x∈V):Dn d V w s:=by
  obtain⟨k,w',e,m⟩:=h;exact⟨k,w',v _ e,m⟩
structure BI (G:List (List (Nat×Bool))) (start:Nat) (W:List Wy) (a k:Nat):Prop where
  z:W[0]? = some ⟨start,false,0,0⟩
  role:∀ (i:Nat) (w:Wy),W[i]? = some w->w.role<G.length
  bef:∀ (i:Nat) (w:Wy),W[i]? = some w->0<i->w.before<i
  wlk:∀ (i:Nat) (w:Wy),W[i]? = some w->Wlk (gE G) start w.role w.strict w.many
  mono:∀ (i j:Nat) (w x:Wy),i<=j->W[i]? = some w->W[j]? = some x->w.many<=x.many
  top:∀ (j:Nat) (w x:Wy),W[a]? = some w->W[j]? = some x->x.many<=w.many+1
  done:∀ (i:Nat) (w:Wy) (l:List (Nat×Bool)),i<a->W[i]? = some w->G[w.role]? = some l->∀ s∈l,Dn start W w s
  cur:∀ (w:Wy) (l:List (Nat×Bool)),W[a]? = some w->G[w.role]? = some l->∀ s∈l.take k,Dn start W w s
  nd:∀ (i j:Nat) (w x:Wy),i<j->W[i]? = some w->W[j]? = some x->¬(w.role=x.role/\w.strict=x.strict)
  many:∀ (i:Nat) (w:Wy),W[i]? = some w->w.many<=i
theorem BI.init {G:List (List (Nat×Bool))} {d:Nat} (h:d<G.length):BI G d [⟨d,false,0,0⟩] 0 0:=by
  have m:∀ (i:Nat) (w:Wy),[(⟨d,false,0,0⟩:Wy)][i]? = some w->i=0/\w=⟨d,false,0,0⟩:=λi w e=>by
    grind
  refine⟨rfl,λi w e=>?_,λi w e hi=>?_,λi w e=>?_,λi j w x _ e k=>?_,λj w x e k=>?_,λi w l hi=>by omega,λw l _ _ s v=>by simp at v,λi j w x y e k=>?_,λi w e=>?_⟩
  all_goals grind[Wlk.nil]
theorem BI.found {G:List (List (Nat×Bool))} {e a k:Nat} {W:List Wy} (h:BI G e W a k) {w:Wy} {l:List (Nat×Bool)} {s:Nat×Bool} (m:W[a]? = some w) (hl:G[w.role]? = some l) (v:l[k]? = some s) (y:s.1=e) (x:(w.strict||s.2)=true):Clo (gE G) (w.many+1):=by
  have:=(h.wlk a w m).snoc (z:=s.1) (d:=s.2) ⟨l,hl,yab_ v⟩
  grind[Wlk.clo]
theorem oC_ {α:Type} {l:List α} {k:Nat} {x:α} (h:l[k]? = some x):l.take (k+1)=l.take k++[x]:=by grind[List.take_add_one]
theorem BI.skip {G:List (List (Nat×Bool))} {d a k:Nat} {W:List Wy} (h:BI G d W a k) {w:Wy} {l:List (Nat×Bool)} {s:Nat×Bool} (x:W[a]? = some w) (hl:G[w.role]? = some l) (C:l[k]? = some s) (H:¬(s.1=d/\(w.strict||s.2)=true)) (A:pn_ W s.1 (w.strict||s.2)=true):BI G d W a (k+1):=by
 refine { h with cur:=λw' I e v y m=>?_ };rw[x]at e;simp only[yah_]at e;subst e;rw[hl]at v;simp only[yah_]at v;subst v;rw[oC_ C,yai_,yam_]at m;rcases m with m|rfl
 .exact h.cur w l x hl y m
 obtain⟨w',e,E,B⟩:=qW_.1 A;obtain⟨j,F⟩:=yaJ_ e;exact⟨H,w',e,E,B,h.top j w w' x F⟩
theorem BI.push {G:List (List (Nat×Bool))} {m a k:Nat} {W:List Wy} (h:BI G m W a k) {w:Wy} {l:List (Nat×Bool)} {s:Nat×Bool} (E:W[a]? = some w) (hl:G[w.role]? = some l) (I:l[k]? = some s) (L:s.1<G.length) (K:¬(s.1=m/\(w.strict||s.2)=true)) (N:pn_ W s.1 (w.strict||s.2)=false):BI G m (W++[⟨s.1,w.strict||s.2,a,w.many+1⟩]) a (k+1):=by
 have M:a<W.length:=(yaf_.1 E).1
 have e:∀ (i:Nat) (x:Wy),(W++[(⟨s.1,w.strict||s.2,a,w.many+1⟩:Wy)])[i]? = some x->W[i]? = some x\/(i=W.length/\x=⟨s.1,w.strict||s.2,a,w.many+1⟩):=λi x d=>by
   grind
 have H:∀ x:Wy,(W++[(⟨s.1,w.strict||s.2,a,w.many+1⟩:Wy)])[a]? = some x->x=w:=λx d=>by
   grind
 have sub:∀ x∈W,x∈W++[(⟨s.1,w.strict||s.2,a,w.many+1⟩:Wy)]:=λx d=>yax_ _ d
 refine⟨by grind[z],λi x d=>?_,λi x d hi=>?_,λi x d=>?_,λi j x y C d A=>?_,λj x y d A=>?_,λi x J hi d B F v=>?_,λx J d B F v=>?_,λi j x y C d A=>?_,λi x d=>?_⟩
 .rcases e i x d with d|⟨_,rfl⟩
  .exact h.role i x d
  exact L
 .rcases e i x d with d|⟨rfl,rfl⟩
  .exact h.bef i x d hi
  exact M
 .rcases e i x d with d|⟨_,rfl⟩
  .exact h.wlk i x d
  exact (h.wlk a w E).snoc ⟨l,hl,yab_ I⟩
 .rcases e j y A with A|⟨rfl,rfl⟩
  .rcases e i x d with d|⟨rfl,rfl⟩
   .exact h.mono i j x y C d A
   grind
  rcases e i x d with d|⟨rfl,rfl⟩
  .exact h.top i w x E d
  grind
 .obtain rfl:=H x d
  rcases e j y A with A|⟨rfl,rfl⟩
  .exact h.top j x y E A
  grind
 .rw[ybF_ zaa_]at d
  exact (h.done i x J hi d B F v).mono sub
 .obtain rfl:=H x d
  rw[hl]at B;simp only[yah_]at B;subst B;rw[oC_ I,yai_,yam_]at v;rcases v with v|rfl
  .exact (h.cur x l E hl F v).mono sub
  exact⟨K,⟨F.1,x.strict||F.2,a,x.many+1⟩,by simp,rfl,rfl,yad_ _⟩
 .rcases e i x d with d|⟨rfl,rfl⟩
  .rcases e j y A with A|⟨rfl,rfl⟩
   .exact h.nd i j x y C d A
   grind[qW_]
  grind
 rcases e i x d with d|⟨rfl,rfl⟩
 .exact h.many i x d
 have:=h.many a w E;grind
theorem BI.next {G:List (List (Nat×Bool))} {d a k:Nat} {W:List Wy} (h:BI G d W a k) {w:Wy} {l:List (Nat×Bool)} (A:W[a]? = some w) (hl:G[w.role]? = some l) (hk:l.length<=k):BI G d W (a+1) 0:=by
 refine { h with top:=λj x y v E=>?_,done:=λi x C hi v m s B=>?_,cur:=λx C _ _ s B=>by simp at B }
 .have H:=h.top j w y A E
  have F:=h.mono a (a+1) w x zaa_ A v;omega
 by_cases e:i=a
 .subst e
  rw[A]at v;simp only[yah_]at v;subst v;rw[hl]at m;simp only[yah_]at m;subst m;exact h.cur w l A hl s zbq_
 exact h.done i x C zaa_ v m s B
theorem BI.none {G:List (List (Nat×Bool))} {d a most:Nat} {W:List Wy} (h:BI G d W a 0) (m:∀ w:Wy,W[a]? = some w->most<=w.many+1) (Y:∀ (i:Nat) (l:List (Nat×Bool)),G[i]? = some l->∀ s∈l,s.1<G.length)
    {n:Nat} {f:Nat->Nat} {c:Nat->Bool} (T:Clw (gE G) n f c) (M:f 0=d):most<=n:=by
  apply Nat.not_lt.1
  intro Z;obtain⟨V,Q,hE,X,L,I⟩:=T
  -- where a way with few steps stands,it is done
  have v:∀ (i:Nat) (w:Wy),W[i]? = some w->w.many+1<most->i<a:=λi w e hm=>by
    apply Nat.not_le.1
    intro C;have H:=(yaf_.1 e).1;obtain⟨x,F⟩:∃ x,W[a]? = some x:=⟨_,yaa_ (show a<W.length by omega)⟩;have K:=m x F;have U:=h.mono a i x w C F e;omega
  have k:∀ j,j<n->∃ (i:Nat) (w:Wy),W[i]? = some w/\w.role=f j/\w.strict=sig c j/\w.many<=j:=by
    intro j
    induction j with
    | zero=>intro _;exact⟨0,_,h.z,M.symm,rfl,yad_ _⟩
    | succ j ih =>
      intro hj;obtain⟨i,w,e,O,E,P⟩:=ih zaa_;obtain⟨l,hl,B⟩:=hE j zaa_;obtain⟨_,w',y,N,J,g3⟩:=h.done i w l (v i w e zaa_) e zak_ _ B;obtain⟨S,A⟩:=yaJ_ y;exact⟨S,w',A,N,by rw[J,E];rfl,by omega⟩
  obtain⟨i,w,e,O,E,P⟩:=k (n - 1) zaa_;obtain⟨l,hl,B⟩:=hE (n - 1) zaa_;obtain⟨K,_⟩:=h.done i w l (v i w e zaa_) e zak_ _ B
  grind[oM_]
theorem BI.len {G:List (List (Nat×Bool))} {m a k:Nat} {W:List Wy} (h:BI G m W a k):W.length<=2*G.length:=by
  have A:(W.map λw=>2*w.role+w.strict.toNat).Nodup:=by
    unfold List.Nodup;rw[ybZ_,yaN_];intro i j hi E B e;refine h.nd i j _ _ B (yaa_ hi) (yaa_ E) ?_;generalize W[i]=x at e
    generalize W[j]=y at e
    obtain⟨r,b,_,_⟩:=x;obtain⟨q,d,_,_⟩:=y;cases b<;>cases d<;>simp only[Bool.toNat_false,Bool.toNat_true]at e ⊢<;>simp<;>omega
  have v:(W.map λw=>2*w.role+w.strict.toNat) ⊆ List.range (2*G.length):=by
    intro z F;obtain⟨w,C,rfl⟩:=yan_.1 F;obtain⟨i,hi⟩:=yaJ_ C;have:=h.role i w hi
    grind[Bool.toNat]
  have:=A.length_le_of_subset v
  grind
theorem Clw.short {G:List (List (Nat×Bool))} {n:Nat} {f:Nat->Nat} {c:Nat->Bool} (h:Clw (gE G) n f c) (hm:∀ k,Clo (gE G) k->n<=k):n<=G.length:=by
  have v:((List.range n).map f).Nodup:=by
    unfold List.Nodup;rw[ybZ_,yaN_];intro i j hi A x;simp only[List.getElem_range];exact h.inj hm i j x zak_
  have d:((List.range n).map f) ⊆ List.range G.length:=by
    intro z y;obtain⟨m,e,rfl⟩:=yan_.1 y;obtain⟨l,hl,_⟩:=h.2.2.1 m (ycx_.1 e)
    grind
  have:=v.length_le_of_subset d
  grind
theorem Bf_ {G:List (List (Nat×Bool))} (h:∀ (n:Nat) (f:Nat->Nat) (c:Nat->Bool),Clw (gE G) n f c->f 0<G.length->G.length+1<=n):∀ n,¬ Clo (gE G) n:=by
  intro n k;obtain⟨m,⟨f,c,e⟩,_,d⟩:=Aq_ k;have v:=e.short d;obtain⟨l,hl,_⟩:=e.2.2.1 0 e.1
  grind
end Go.Vs
namespace Go.Sx
open Go
section
variable {P:Program} {N:Nf} {v0:Vw} {H0:Hp} {R:Exit->Act->World->Prop} {K:List Kt} {fr:Fr} {H:Hp} {Γ:List Fct}
variable {ops:Array Oper} {l:List Oper} {d:Nat} {ty:TypeId} {ps:String} {af:Array Edge}
theorem qh_ {t:TypeId} {x:Operand} {b n:Nat} (i:Nat) {T:TypeId} {fz:Nat×Nat} {us:List Value} (e:∀ w,(isAgg t).run P w=.ok true w) (h:∀ w,(sizeOf t).run P w=.ok n w) (m:us.length=n)
    (k:Fr.ev fr x=some (.pointer (some ⟨b,0,none⟩))) (hi:H[i]? = some (b,.cells us.toArray T fz)):Yld P N fr H Γ (.load t x) ty (.agg us.toArray) :=
  cW_ i e h k hi (by grind[tI_])
theorem oX_ {t:TypeId} {x y:Operand} {b n:Nat} (i:Nat) {cur:Array Value} {T:TypeId} {us:List Value} (h:∀ w,(sizeOf t).run P w=.ok n w) (A:us.length=n) (m:us.all Value.oneCell'=true)
    (k:Fr.ev fr x=some (.pointer (some ⟨b,0,none⟩))) (e:Fr.ev fr y=some (.agg us.toArray)) (hi:H[i]? = some (b,.cells cur T (0,0))) (v:cur.size=n)
    (hk:Ops P R N v0 H0 ops l K fr (H.set i (b,.cells us.toArray T (0,0))) Γ) :
    Ops P R N v0 H0 ops (⟨none,.store t x y,ty,ps,af,none⟩::l) K fr H Γ:=by
  refine p_ i h k e hi (by grind[Value.cells]) (by simp[v]) m ?_
  grind[Value.cells,List.drop_of_length_le]
theorem xU_ {b k:Nat} {cur:Array Value} {T:TypeId} {fz:Nat×Nat} {cs:List Value} (i:Nat) (hi:H[i]? = some (b,.cells cur T fz)) (e:cur.toList.take k=cs):∀ v:Vw,v.sat H->ag_ Γ v->∀ j u,cs[j]? = some u->v.w.cell? ((⟨b,0,none⟩:Addr).add j)=some u:=by
  grind[ck_,fc_]
theorem dg_ {k:Act->World->Prop} {e:TypeId} {sz n:Nat} {sv:Value} {xs:List Value} {Hr F:Hp} (C:at_ e sz sv n xs Hr) (B:H.Perm (Hr++F))
    (h:∀ ad cap,sv=.slice ad n cap->n<=cap->cap<=maxLen->Ok N v0 H0 k fr F (X_ ad xs::Γ)):Ok N v0 H0 k fr H Γ:=by
  rcases C.2 with⟨A,m,y⟩|⟨g,cap,cur,A,m,y,L,Q,M⟩
  . subst A m y
    have I:xs=[]:=yaw_ (by simpa using C.1);refine u_ B (lb_ (Γ':=X_ none xs::Γ) (λv _ G=>⟨.inl I,G⟩) (h none 0 rfl (yad_ _) (ybm_ _)))
  . subst A m
    refine et_ (X_ (some ⟨g,0,none⟩) xs) B (λv J E _=>.inr ⟨g,0,cur,e,(0,0),rfl,J,E,λj x O=>?_⟩) (h _ cap rfl y L)
    grind
end
end Go.Sx
namespace Go.Vs
open Go Go.Sx
theorem Con.one_cells (c:Con):c.cells.all Value.oneCell'=true:=si_ c
theorem Ax.one_cells (x:Ax):x.cells.all Value.oneCell'=true:=by
  simp only[Ax.cells,ycj_,ycU_,Con.one_cells];rfl
def bZ_ (ad:Ao) (l:List Ax):Fct where
  p:=λv=>bW_ v ad (l.flatMap Ax.cells)/\∀ x∈l,x.mem v
  mono:=λv v' h hp=>⟨(X_ ad _).mono v v' h hp.1,λx hx=>x.memF.mono v v' h (hp.2 x hx)⟩
theorem AG_ (frm:Int) (l:List Pc) (p:Pc):ins frm l p≠[]:=by
 unfold ins
 split
 .grind
 simp
theorem Ax.chainP_ne (frm:Int) (k:Str):∀ (e:List Str) (f:Str) (l:List Pc),e≠[]\/l≠[]->Ax.chainP frm k e f l≠[]
  | [],f,l,h=>by rcases h with h|h;exact absurd rfl h;exact h
  | r::t,f,l,_=>by simp only[Ax.chainP];exact Ax.chainP_ne frm k t _ _ (.inr (AG_ _ _ _))
theorem Ax.pieces_ne (frm:Int) {x:Ax} (G:x.Good):x.pieces frm≠[]:=by
  unfold Ax.pieces
  repeat' split
  all_goals first|exact AG_ _ _ _|skip
  rename_i h
  have:=G.chain h;exact Ax.chainP_ne _ _ _ _ _ (.inl (by intro e;rw[ycC_]at e;omega))
def eD_:List Ax->Int
  | []=>0
  | x::l=>if x.check=0 then eD_ l else x.check
def gU_:Nat->List Ax->List Pc->Option (List Pc)
  | _,[],p=>some p
  | i,x::l,p=>if 16384<(p++x.pieces i).length then none else gU_ (i+1) l (p++x.pieces i)
def aM_ (l:List Ax):List Pc×Int :=
  if 1024<l.length then ([],2) else if eD_ l≠0 then ([],eD_ l) else match gU_ 0 l [] with|some p=>(p,0)|none=>([],2)
theorem iz_:∀ (xs ys:List Ax),(∀ x∈xs,x.check=0)->eD_ (xs++ys)=eD_ ys
  | [],_,_=>rfl
  | x::xs,ys,h=>by simp only[yaD_,eD_,h x zai_,ycq_];exact iz_ xs ys λy e=>h y zbw_
theorem fL_:∀ {l:List Ax},(∀ x∈l,x.check=0)->eD_ l=0
  | [],_=>rfl
  | x::l,h=>by simp only[eD_,h x zai_,ycq_];exact fL_ λy e=>h y zbw_
theorem ub_ {l:List Ax} {x:Ax} {i:Nat} (k:l[i]? = some x) (h:∀ y∈l.take i,y.check=0) (m:x.check≠0):eD_ l=x.check:=by
  have e:l=l.take i++x::l.drop (i+1):=by grind[lt_,List.take_append_drop]
  grind[iz_,eD_]
theorem kw_ (frm:Int) {x:Ax} (G:x.Good):(x.pieces frm).length<=1000:=by
 have hl:x.kind<=3->x.left.sz<=64:=λh=>(Con.check_zero (G.left h)).2
 have v:x.kind<=4\/x.kind=8->x.right.sz<=64:=λh=>(Con.check_zero (G.right h)).2
 have A:∀ (k:Str) (e:List Str) (f:Str) (l:List Pc),(Ax.chainP frm k e f l).length<=l.length+e.length:=by
   intro k e
   induction e<;>grind[Ax.chainP,cH_]
 have L:=λ(c:Con) l=>Con.leftP_len frm _ c (yad_ _) l
 have B:=λ(c:Con) l=>Con.rightP_len frm _ c (yad_ _) l
 have y:([]:List Pc).length=0:=rfl;unfold Ax.pieces
 split
 .grind[cH_]
 split
 .grind[ins]
 split
 .grind[cH_]
 split
 .grind[cH_]
 split
 .grind[cH_]
 split
 .rename_i m
  have:=G.chain m
  grind
 grind[cH_]
def bD_ (c:UInt8):Str->List Str
  | []=>[[]]
  | b::s=>if b=c then []::bD_ c s else match bD_ c s with
    | h::t=>(b::h)::t
    | []=>[[b]]
def dZ_ (c:UInt8) (s:Str):Nat:=s.countP (·==c)
theorem xv_ (c:UInt8):∀ s,bD_ c s≠[]
  | []=>by grind[bD_]
  | b::s=>by
    grind[bD_]
theorem fx_ (c:UInt8):∀ s,(bD_ c s).length=dZ_ c s+1
  | []=>by grind[bD_,dZ_]
  | b::s=>by
    have d:=fx_ c s
    grind[bD_,dZ_]
theorem hi_ {c:UInt8}:∀ {s:Str},ixS c s=none->bD_ c s=[s]
 | [],_=>rfl
 | b::s,h=>by
   simp only[ixS]at h
   split at h
   . cases h
   . rename_i e
     have d:ixS c s=none:=by simpa using h
     simp only[bD_,e,ycF_,hi_ d]
theorem jc_ {c:UInt8}:∀ {s:Str} {k:Nat},ixS c s=some k->bD_ c s=s.take k::bD_ c (s.drop (k+1))
 | [],k,h=>by grind[ixS]
 | b::s,k,h=>by
   simp only[ixS]at h
   split at h
   . grind[bD_]
   . rename_i d
     cases hx:ixS c s with
     | none=>grind
     | some j =>
       rw[hx]at h;simp only[yaR_,yah_]at h;subst h;simp only[bD_,d,ycF_,jc_ hx,ybS_,ycd_]
theorem yE_ {c:UInt8} {s:Str} (h:ixS c s=none):dZ_ c s=0:=by
  have:=fx_ c s
  grind[hi_]
theorem re_ {c:UInt8} {s:Str} {k:Nat} (h:ixS c s=some k):dZ_ c s=dZ_ c (s.drop (k+1))+1:=by
  have d:=fx_ c s;rw[jc_ h]at d
  grind[fx_]
theorem De_ (c:UInt8) (s:Str):dZ_ c s<=s.length:=List.countP_le_length
def bh_ (s:Str):Bool :=
  if s=[42]\/s=[33] then true
  else if 2<=s.length/\s[0]? = some 123/\s[s.length - 1]? = some 125 then bg_ ((s.drop 1).take (s.length - 1 - 1))
  else if 3<=s.length/\s[0]? = some 60/\s[s.length - 1]? = some 62 then true
  else bg_ s
def cL_ (s:Str):Bool:=decide ((bD_ 46 s).length<=4)&&!((bD_ 46 s).any λr=>!bg_ r)
def cn_ (used:Bool) (s:Str) (q:Str->Bool):Bool:=(used&&q s)||(!used&&(s==[]))
def Pc.valid (p:Pc):Bool :=
  if p.kind<1\/9<p.kind\/p.frm < -1\/1024<=p.frm then false
  else if (nus p.kind).numbers=true/\(p.lo < -1099511627776\/p.hi<p.lo\/1099511627776<p.hi) then false
  else if (nus p.kind).numbers=false/\(p.lo≠0\/p.hi≠0) then false
  else ((((cn_ (nus p.kind).a p.a bh_&&cn_ (nus p.kind).b p.b bh_)&&cn_ (nus p.kind).c p.c bh_)&&cn_ (nus p.kind).r p.r (if (nus p.kind).numbers then bg_ else cL_))&&cn_ (nus p.kind).s p.s cL_)&&cn_ (nus p.kind).t p.t cL_
structure Pc.sm (p:Pc):Prop where
  a:p.a.length<=17592186044414
  b:p.b.length<=17592186044414
  c:p.c.length<=17592186044414
  r:p.r.length<=17592186044414
  s:p.s.length<=17592186044414
  t:p.t.length<=17592186044414
def dO_ (l:List Pc):Int:=if 16384<l.length then 2 else if l.all Pc.valid then 0 else 1
end Go.Vs
namespace Go.Sx
open Go
section
variable {H r r' d t:Hp} {b:Nat×Obj} {O:Hp}
theorem i_:H.Perm ([]++H):=.refl _
theorem e_:(b::r).Perm ([b]++r):=.refl _
theorem s_:(O++r).Perm (O++r):=.refl _
theorem c_ (h:H.Perm (t++r)):(b::H).Perm (t++(b::r)):=(h.cons b).trans ybq_.symm
theorem g_ (h:H.Perm (t++r)):(O++H).Perm (t++(O++r)):=(ybl_ O h).trans (by
  grind[List.Perm.append_right,List.perm_append_comm])
theorem l_ (e:H.Perm ([b]++r)) (h:r.Perm (d++r')):H.Perm ((b::d)++r'):=e.trans (h.cons b)
theorem x_ (e:H.Perm (O++r)) (h:r.Perm (d++r')):H.Perm ((O++d)++r'):=by
  rw[yap_];exact e.trans (ybl_ O h)
theorem Z_:H.Perm (H++[]):=by simp
end
theorem oE_:∀ xs:List (List UInt8),xs.flatMap aa_=xs.map str
  | []=>rfl
  | x::xs=>by simp only[yaT_,oE_ xs,yar_];rfl
def dl_ (n:Int):List Value:=[.int .i64 n]
theorem dV_ (n:Int):(dl_ n).length=1:=rfl
section
variable {P:Program} {N:Nf} {v0:Vw} {H0:Hp} {R:Exit->Act->World->Prop} {K:List Kt} {fr:Fr} {H:Hp} {Γ:List Fct}
theorem U_ {k:Act->World->Prop} {b:Nat} {cs:List Value} {T:TypeId} {fz:Nat×Nat} {F:Hp} (xs:List Value) (m:H.Perm ([(b,.cells cs.toArray T fz)]++F)) (B:cs=xs) (h:Ok N v0 H0 k fr F (X_ (some ⟨b,0,none⟩) xs::Γ)):Ok N v0 H0 k fr H Γ :=
  et_ (X_ (some ⟨b,0,none⟩) xs) m (λv y e _=>.inr ⟨b,0,cs.toArray,T,fz,rfl,y,e,λj x A=>by grind⟩) h
theorem satNil {v:Vw} (h:v.sat H):v.sat []:=⟨(λ_ h=>by cases h),zai_,h.lt⟩
variable {ops:Array Oper} {l:List Oper} {d:Nat} {ty:TypeId} {ps:String} {af:Array Edge}
theorem vU_ {x y:Operand} {t k:TypeId} {m n:Int} (A:Fr.ev fr x=some (.int .i64 m)) (h:Fr.ev fr y=some (.int .i64 n)) :
    Yld P N fr H Γ (.call ⟨.builtin .min,#[x,y],#[t,k]⟩) ty (.int .i64 (if n<m then n else m)) :=
  λa v e B _ _ _ _=>by simp[execOp,resolve,invoke,builtin,Builtin.min_,Builtin.min2,e.ev A,e.ev h]
theorem By_ {x y:Operand} {t k:TypeId} {m n:Int} (A:Fr.ev fr x=some (.int .i64 m)) (h:Fr.ev fr y=some (.int .i64 n)) :
    Yld P N fr H Γ (.call ⟨.builtin .max,#[x,y],#[t,k]⟩) ty (.int .i64 (if m<n then n else m)) :=
  λa v e B _ _ _ _=>by simp[execOp,resolve,invoke,builtin,Builtin.max_,Builtin.max2,e.ev A,e.ev h]
theorem Bx_ {t A:TypeId} {x y:Operand} {m n:Int} (B:Fr.ev fr x=some (.int .i64 m)) (k:Fr.ev fr y=some (.int .i64 n)) (C:n≠0) (h:IntKind.wrap .i64 (m.tdiv n)=m.tdiv n) :
    Yld P N fr H Γ (.binOp .quo t x y A) ty (.int .i64 (m.tdiv n)) :=
  λa v e _ _ _ _ _=>by simp[execOp,e.ev B,e.ev k,eqGuard,binOp,Op.intDiv,C,h]
theorem CA_ (z:Value) (n:Nat):madeCells #[z] (n*1)=(List.replicate n z).toArray:=by
  grind[madeCells]
theorem xY_ {t e:TypeId} {x y:Operand} {n by':Nat} {z:Value} (C:P.underlying t=some (.slice e)) (hi:(P.info? e).map (λi=>(i.zero,i.size,i.bytes))=some (some z,1,by')) (I:z.cells=#[z]) (E:Fr.ev fr x=some (.int .i64 (n:Int))) (B:Fr.ev fr y=some (.int .i64 (n:Int)))
    (J:by'*n<=281474976710656) (G:n<=9223372036854775807) (F:Nat.blt d N.n=true)
    (hk:∀ b,Ops P R N v0 H0 ops l K ((d,.slice (some ⟨b,0,none⟩) n n)::fr) ((b,.cells (List.replicate n z).toArray e (0,0))::H) Γ):Ops P R N v0 H0 ops (⟨some d,.makeSlice t x y,ty,ps,af,none⟩::l) K fr H Γ:=by
  refine hm_ (x:=λb=>.slice (some ⟨b,0,none⟩) n n) F (λa v A _ _=>?_) hk;cases h:P.info? e with
  | none=>grind
  | some i =>
    rw[h]at hi;simp only[yaR_,yah_,ybN_]at hi
    have k:(i.bytes:Int)*(n:Int)<=281474976710656:=by
      grind
    have m:=run_make (P:=P) v.w t e i z C h hi.1 .i64 .i64 (n:Int) (n:Int) zaa_ (Int.le_refl _) k zaa_;rw[hi.2.1,I,ycO_,CA_]at m;simp only[execOp,A.ev E,A.ev B];simp[m]
theorem oY_ {t:TypeId} {x y:Operand} {b off:Nat} (i:Nat) {h k:List Value} {z u:Value} {T:TypeId} (B:∀ w,(sizeOf t).run P w=.ok 1 w)
    (C:Fr.ev fr x=some (.pointer (some ⟨b,off,none⟩))) (A:Fr.ev fr y=some u) (hi:H[i]? = some (b,.cells (h++z::k).toArray T (0,0))) (v:off=h.length) (E:u.cells=#[u]) (m:u.oneCell'=true)
    (hk:Ops P R N v0 H0 ops l K fr (H.set i (b,.cells (h++u::k).toArray T (0,0))) Γ) :
    Ops P R N v0 H0 ops (⟨none,.store t x y,ty,ps,af,none⟩::l) K fr H Γ:=by
  subst v;refine p_ i B C A hi zak_ zai_ zak_ ?_
  have e:(((h++z::k).toArray.toList.take h.length++u.cells.toList++(h++z::k).toArray.toList.drop (h.length+1)).toArray)=(h++u::k).toArray:=by
    grind
  grind
theorem sU_ {b cap n:Nat}:sad (some ⟨b,0,none⟩) cap 0 n=some ⟨b,0,none⟩:=by grind[sad,ck_]
end
theorem xq_ {cs us e:List Value} {k:Nat} (off:Nat) (h:∀ j y,us[j]? = some y->cs[k+j]? = some y) (m:∀ (j:Nat) y,e[j]? = some y->us[off+j]? = some y):∀ j y,e[j]? = some y->cs[k+off+j]? = some y:=by grind
end Go.Sx
