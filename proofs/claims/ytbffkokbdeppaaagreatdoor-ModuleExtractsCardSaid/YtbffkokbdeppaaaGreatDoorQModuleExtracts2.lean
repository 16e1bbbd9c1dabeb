/-
  Lemmas for the law ModuleExtracts (no condition).
-/
import Derived.Test.YtbffkokbdeppaaaGreatDoorQModuleExtracts1
import Derived.RangeFuncRecord
import Derived.Lib.Bytealg
import Derived.Below
import Derived.MapKept
import Derived.Deep.Draws
import Derived.Sort.Grow
import Derived.Lib.Join
import Derived.Lib.ItoaLen
import Derived.Laws.StructEq
import Derived.Laws.MakeOwn
import Derived.Laws.OwnMore
set_option linter.unusedVariables false
set_option linter.unusedSimpArgs false
set_option linter.unusedSectionVars false
set_option maxHeartbeats 1000000
namespace Go.Sx
open Go
section
variable {P:Program} {N:Nat} {v0:Vw} {H0:Hp} {R:Exit->Act->World->Prop} {K:List Kt} {fr:Fr} {H F:Hp} {Γ:List Fct}
theorem fx_ {v:Vw} {l:Nat} {o o':Obj} (h:v.sat ((l,o)::F)):(⟨v.im,v.w.putObj l o',v.sl⟩:Vw).sat ((l,o')::F)/\v.to ((l,o)::F) ⟨v.im,v.w.putObj l o',v.sl⟩ ((l,o')::F):=by
  have hl:=(h.own (l,o) yaq_).1;have:=fw_ (i:=0) (o':=o') (w':=v.w.putObj l o') h rfl rfl rfl rfl (yab_ _) zak_ (World.putObj_heap_same (yaC_.1 hl).1) (λk d=>World.putObj_heap_other d)
  grind
theorem hG_ {ι:Type} {c:Code} (d:ι->Fr) (h:ι->Hp) (k:ι->List Fct) (E:iK_ Fence.wide 0 P (Mid N v0 H0 d h k) N [] v0 H0 c [] fr H Γ) (y:∀ i,Fin P R N v0 H0 K (d i) (h i) (k i)):Run P R N v0 H0 c K fr H Γ:=by
  intro a v u A I o;refine wp_mono (wpIn_wide.1 (ef_.1 E a v u A I o)) ?_;rintro e C w' ⟨rfl,i,x,rfl,k1,k2,B,G⟩;exact y i C x k1 k2 B G
def vR_ {σ τ:Type} (v0:Vw) (H0:Hp) (Hj:σ->Hp) (Hx:τ->Hp) (HL:Hp) (res:σ ⊕ τ):Exit->Act->World->Prop
  | .normal,_,w=>∃ s' v,res=.inl s'/\v.w=w/\v.sat (Hj s'++HL)/\v0.to H0 v (Hj s'++HL)
  | .ret,_,w=>∃ t v,res=.inr t/\v.w=w/\v.sat (Hx t++HL)/\v0.to H0 v (Hx t++HL)
  | _,_,_=>False
def pJ_ {σ τ:Type} (Gj:σ->Hp) (Gx:τ->Hp):σ ⊕ τ->Hp
  | .inl s=>Gj s
  | .inr t=>Gx t
def HLp (l D:Nat) (r:Loop):Hp:=[(l,.loop r),(D,.deferred (some []))]
theorem kM_ {σ τ ι:Type} {l D:Nat} {d:Loop} {B:Nat} {x:Value} {Hj:σ->Hp} {Hx:τ->Hp} {s:σ} {res:σ ⊕ τ} (M:ι->Fr) (J:ι->Hp)
    (hp:d.params=#[B]) (W:d.state=.ready) (hpe:d.pending=none) (ht:Fr.sat N fr ⟨d.tmps,[]⟩) (Q:Nat.blt B N=true)
    (o:∀ n v0 H0 HL,iK_ (Fence.wide.inRound l) n P (Mid N v0 H0 M (λi=>J i++HL) (λ_=>Γ)) N [] v0 H0 d.assign [] ((B,x)::fr) (Hj s++HL) Γ)
    (A:∀ n v0 H0 HL i,iK_ (Fence.wide.inRound l) n P (vR_ v0 H0 Hj Hx HL res) N [] v0 H0 d.body [] (M i) (J i++HL) Γ) :
    jY_ P l x (Hj s++HLp l D d) Γ (λ_:Unit=>.bool res.isLeft) (λ_=>pJ_ (λV=>Hj V++HLp l D d) (λt=>Hx t++HLp l D { d with state:=.done,pending:=some .ret }) res) (λ_=>[]):=by
  intro v hs hΓ
  have h:∀ (X:Hp) r,(X++HLp l D r).Perm ((l,.loop r)::(X++[(D,.deferred (some []))])):=λX r=>by
    grind[HLp,List.perm_middle]
  have hl:v.w.heap[l]? = some (.loop d):=((hs.perm (h _ _)).own _ yaq_).1;refine⟨d.fn,_,d.assign,d.body,run_yield hl (by simp[hp]),λn=>roundIn_of_wpIn trivial ?_⟩;have T:(d.params.zip #[x]).foldl (λtmps (t,a)=>tmps.setIfInBounds t a) d.tmps=d.tmps.setIfInBounds B x:=by simp[hp]
  rw[T];have L:Fr.sat N ((B,x)::fr) ⟨d.tmps.setIfInBounds B x,[]⟩:=ht.put Q;refine wpIn_mono (ef_.1 (o n v (Hj s++HLp l D d) (HLp l D d)) ⟨d.tmps.setIfInBounds B x,[]⟩ v L hs (Vw.to.refl _ _) hΓ) ?_;rintro e a1 w1 ⟨rfl,i,I,rfl,k1,k2,k3,k4⟩;have C:=k2.perm (h _ _);have S:=(C.own _ yaq_).1;obtain⟨m1,m2⟩:=fx_ (o':=.loop { d with state:=.busy }) C;refine⟨_,run_beginRound S W,?_⟩;have m3:=m1.perm (h (J i) { d with state:=.busy }).symm
  have m4:v.to (Hj s++HLp l D d) ⟨I.im,I.w.putObj l (.loop { d with state:=.busy }),I.sl⟩ (J i++HLp l D { d with state:=.busy }) :=
    (k3.trans ((m2.permL (h _ _).symm).subR λb G=>((h (J i) { d with state:=.busy }).map Prod.fst).mem_iff.1 G))
  have a0:=ba_ (m2.le C) k4;refine wpIn_mono (ef_.1 (A n v (Hj s++HLp l D d) (HLp l D { d with state:=.busy }) i) a1 ⟨I.im,_,I.sl⟩ k1 m3 m4 a0) ?_;intro e2 a2 w2 E;cases e2 with
  | normal =>
    obtain⟨V,y,rfl,rfl,Z,U⟩:=E;have k:=Z.perm (h _ _);have u:=(k.own _ yaq_).1;obtain⟨O,Y⟩:=fx_ (o':=.loop d) k;have er:({ d with state:=.ready,pending:=none }:Loop)=d:=by cases d;simp_all
    refine⟨_,_,run_endRound none u,(),⟨y.im,y.w.putObj l (.loop d),y.sl⟩,rfl,?_,O.perm (h _ _).symm,trivial,U.trans ((Y.permL (h _ _).symm).subR λb G=>((h (Hj V) d).map Prod.fst).mem_iff.1 G)⟩;simp[er]
  | ret =>
    obtain⟨t,y,rfl,rfl,Z,U⟩:=E;have k:=Z.perm (h _ _);have u:=(k.own _ yaq_).1;obtain⟨O,Y⟩:=fx_ (o':=.loop { d with state:=.done,pending:=some .ret }) k
    exact⟨_,_,run_endRound (some .ret) u,(),⟨y.im,y.w.putObj l (.loop { d with state:=.done,pending:=some .ret }),y.sl⟩,rfl,rfl,O.perm (h _ _).symm,trivial,
      U.trans ((Y.permL (h _ _).symm).subR λb G=>((h (Hx t) { d with state:=.done,pending:=some .ret }).map Prod.fst).mem_iff.1 G)⟩
  | exit id=>exact E.elim
  | goto t=>exact E.elim
  | panic c=>exact E.elim
  | outgrown=>exact E.elim
theorem cd_ {n:Nat}:∀ (K:List Kt) (e:Exit) (a:Act) (w:World),eM_ Fence.wide n P R K e a w->post P R K e a w
 | [],_,_,_,h=>h
 | .seq c::K,.normal,a,w,h=>wp_mono (wpIn_wide.1 h) (λe a w d=>cd_ K e a w d)
 | .seq _::K,.exit _,a,w,h=>cd_ K _ a w h
 | .seq _::K,.goto _,a,w,h=>cd_ K _ a w h
 | .seq _::K,.ret,a,w,h=>cd_ K _ a w h
 | .seq _::K,.panic _,a,w,h=>cd_ K _ a w h
 | .seq _::K,.outgrown,a,w,h=>cd_ K _ a w h
 | .inv J::_,.normal,_,_,h=>h
 | .inv _::K,.exit _,a,w,h=>cd_ K _ a w h
 | .inv _::K,.goto _,a,w,h=>cd_ K _ a w h
 | .inv _::K,.ret,a,w,h=>cd_ K _ a w h
 | .inv _::K,.panic _,a,w,h=>cd_ K _ a w h
 | .inv _::K,.outgrown,a,w,h=>cd_ K _ a w h
 | .blk id::K,.exit id',a,w,h=>by
   simp only[eM_,post]at h ⊢
   split
   . rename_i e;rw[yax_ e]at h;exact cd_ K _ a w h
   . rename_i e;rw[yam_ e]at h;exact cd_ K _ a w h
 | .blk _::K,.normal,a,w,h=>cd_ K _ a w h
 | .blk _::K,.goto _,a,w,h=>cd_ K _ a w h
 | .blk _::K,.ret,a,w,h=>cd_ K _ a w h
 | .blk _::K,.panic _,a,w,h=>cd_ K _ a w h
 | .blk _::K,.outgrown,a,w,h=>cd_ K _ a w h
def qm_ (D:Nat):List Deferred:=[{ target:=.collected D,args:=#[] }]
theorem qJ_ {σ τ α:Type} {g:Operand} {pm:Nat} {assign body:Code} {W:FuncId} {caps:List Value} {Hj:σ->Hp} {Hx:τ->Hp} {Hc:Hp} {Γx:α->List Fct} {Γi:List Fct} {xv:α->Value} {good:α->Prop} {stp:α->σ->σ ⊕ τ}
    (s0:σ) (res:σ ⊕ τ) (hg:Fr.ev fr g=some (.func (.func W) #[] caps.toArray)) (hH:H.Perm (Hc++Hj s0)) (hΓi:∀ v,v.sat H->aC_ Γ v->aC_ Γi v)
    (A:∀ l D (d:Loop),d.params=#[pm]->d.state=.ready->d.pending=none->Fr.sat N fr ⟨d.tmps,[]⟩->d.assign=assign->d.body=body->∀ s x,good x->
      jY_ P l (xv x) (Hj s++HLp l D d) (Γx x) (λ_:Unit=>.bool (stp x s).isLeft) (λ_=>pJ_ (λs'=>Hj s'++HLp l D d) (λt=>Hx t++HLp l D { d with state:=.done,pending:=some .ret }) (stp x s)) (λ_=>[]))
    (hit:∀ l (Gj:σ->Hp) (Gx:τ->Hp),(∀ s x,good x->jY_ P l (xv x) (Gj s) (Γx x) (λ_:Unit=>.bool (stp x s).isLeft) (λ_=>pJ_ Gj Gx (stp x s)) (λ_=>[]))->
      Tri P W (.func (.yield l) #[] #[]::caps).toArray (Hc++Gj s0) Γi (λ_:Unit=>.tuple #[]) (λ_=>Hc++pJ_ Gj Gx res) (λ_=>[]))
    (C:∀ s',res=.inl s'->∀ D l r,vS_ Fence.wide 0 P R N (qm_ D) v0 H0 K fr (Hc++Hj s'++HLp l D r) Γ)
    (L:∀ t,res=.inr t->∀ D l r,OkD N (qm_ D) v0 H0 (R .ret) fr (Hc++Hx t++HLp l D r) Γ) :
    Run P R N v0 H0 (.rangeFunc g #[pm] assign body) K fr H Γ:=by
  intro a v E U h3 h4;refine wpIn_wide (n:=0) |>.1 (wpIn_mono (Q:=eM_ Fence.wide 0 P R K) (wpIn_rangeFunc λfn _=>?_) λe a w hq=>cd_ K e a w hq)
  obtain⟨a1,a2⟩:=gA_ (w':=v.w.alloc (.deferred (some []))) (o:=.deferred (some [])) U rfl rfl rfl rfl (yab_ _);obtain⟨d,k⟩:∃ d:Loop,d={ state:=.ready,pending:=none,fn,tmps:=a.tmps,params:=#[pm],assign,body,defers:=v.w.heap.size }:=⟨_,rfl⟩;obtain⟨b1,b2⟩:=gA_ (w':=(v.w.alloc (.deferred (some []))).alloc (.loop d)) (o:=.loop d) a1 rfl rfl rfl rfl (yab_ _);have I:(v.w.alloc (Obj.deferred (some []))).heap.size=v.w.heap.size+1:=by simp
  have b1':(⟨v.im,(v.w.alloc (.deferred (some []))).alloc (.loop d),v.sl⟩:Vw).sat ((v.w.heap.size+1,.loop d)::(v.w.heap.size,.deferred (some []))::H):=I▸b1;have M:v.to H ⟨v.im,(v.w.alloc (.deferred (some []))).alloc (.loop d),v.sl⟩ ((v.w.heap.size+1,.loop d)::(v.w.heap.size,.deferred (some []))::H):=a2.trans (I▸b2)
  have y:((v.w.heap.size+1,Obj.loop d)::(v.w.heap.size,.deferred (some []))::H).Perm (Hc++(Hj s0++HLp (v.w.heap.size+1) v.w.heap.size d)):=by
    rw[<-yak_];exact (yah_ (l₁:=HLp (v.w.heap.size+1) v.w.heap.size d) (l₂:=H)).trans (hH.append_right _)
  have hT:=hit (v.w.heap.size+1) (λs=>Hj s++HLp (v.w.heap.size+1) v.w.heap.size d) (λt=>Hx t++HLp (v.w.heap.size+1) v.w.heap.size { d with state:=.done,pending:=some .ret })
    (A _ _ d zcg_ zcg_ zcg_ (by rw[k];exact⟨E.size,rfl,E.val⟩) zcg_ zcg_)
  have Z:=ba_ (M.le U) (hΓi v U h4);have he:=E.ev hg;refine⟨v.w.heap.size+1,qm_ v.w.heap.size,(v.w.alloc (.deferred (some []))).alloc (.loop d),⟨.fn (.func W) caps.toArray,#[.func (.yield (v.w.heap.size+1)) #[] #[]]⟩,(v.w.alloc (.deferred (some []))).alloc (.loop d),W,(.func (.yield (v.w.heap.size+1)) #[] #[]::caps).toArray,_,?_,?_,λ_ _=>trivial,?_,λh=>(by cases h),callsIn_wide.2 ((hT.run ⟨v.im,_,v.sl⟩ (b1'.perm y) Z).mono ?_)⟩
  . rw[k];exact run_enterLoop_outer _ _ _ _ _
  . simp only[resolve,rangeCall,ybd_,yaE_,ybz_,he,Deferred.ofValue]
    rfl
  . have:=hT.callable (.func (.yield (v.w.heap.size+1)) #[] #[]::caps).toArray ((v.w.alloc (.deferred (some []))).alloc (.loop d))
    simpa [invoke] using this
  . rintro e w' ⟨_,V,rfl,rfl,g1,g2,g3⟩
    have B:=M.trans (g3.permL y.symm);have G:=ba_ (B.le U) h4;have S:∀ T,SatD N T fr { a with defers:=T++a.defers }:=λT=>⟨⟨E.size,rfl,E.val⟩,by show T++a.defers=T;rw[E.defers];simp⟩
    have u:∀ (X Y:Hp) r,(Y++(X++HLp (v.w.heap.size+1) v.w.heap.size r)).Perm ((v.w.heap.size+1,.loop r)::(Y++X++[(v.w.heap.size,.deferred (some []))])):=λX Y r=>by
      unfold HLp;rw[<-yak_];exact ybo_
    cases res with
    | inl s' =>
      have q:=g1.perm (u (Hj s') Hc d);have hl:=(q.own _ yaq_).1;obtain⟨z1,O⟩:=fx_ (o':=.loop { d with state:=.exhausted }) q
      have J:((v.w.heap.size+1,Obj.loop { d with state:=.exhausted })::(Hc++Hj s'++[(v.w.heap.size,.deferred (some []))])).Perm (Hc++Hj s'++HLp (v.w.heap.size+1) v.w.heap.size { d with state:=.exhausted }):=by
        have:=(u (Hj s') Hc { d with state:=.exhausted }).symm;rw[<-yak_]at this;exact this
      refine⟨d.pending,_,run_endLoop hl (by rw[k];simp),?_⟩;have hpn:d.pending=none:=by rw[k]
      split
      case h_2=>rename_i c hc;rw[hpn]at hc;cases hc
      exact C s' rfl _ _ _ _ ⟨V.im,_,V.sl⟩ (S _) (z1.perm J) (h3.trans (B.trans ((O.permL (u _ _ _).symm).subR λb hb=>(J.map Prod.fst).mem_iff.2 hb))) (ba_ (O.le q) G)
    | inr t =>
      have q:=g1.perm (u (Hx t) Hc _);have hl:=(q.own _ yaq_).1;obtain⟨z1,O⟩:=fx_ (o':=.loop { d with state:=.exhausted,pending:=some .ret }) q
      have J:((v.w.heap.size+1,Obj.loop { d with state:=.exhausted,pending:=some .ret })::(Hc++Hx t++[(v.w.heap.size,.deferred (some []))])).Perm (Hc++Hx t++HLp (v.w.heap.size+1) v.w.heap.size { d with state:=.exhausted,pending:=some .ret }):=by
        have:=(u (Hx t) Hc { d with state:=.exhausted,pending:=some .ret }).symm;rw[<-yak_]at this;exact this
      refine⟨some .ret,_,run_endLoop hl zak_,?_⟩;refine wpIn_ret (qP_ K _ _ (L t rfl _ _ _ _ ⟨V.im,_,V.sl⟩ (S _) (z1.perm J) (h3.trans (B.trans ((O.permL (u _ _ _).symm).subR λb hb=>(J.map Prod.fst).mem_iff.2 hb))) (ba_ (O.le q) G)))
theorem eJ_ {f:FuncId} {fn:Func} {c:Code} {args:List Value} {ι:Type} {d:ι->Value} {H':ι->Hp} {Γ':ι->List Fct}
    (o : P.funcs[f]? = some fn) (u : fn.body = some c) (C : (fn.name == "runtime.NumGoroutine") = false) (G : fn.ntmps = N) (hl : Nat.ble args.length N = true)
    (h:∀ v0,Run P (bodyPostM Fence.wide 0 P fn (lm_ v0 H d H' Γ')) N v0 H c [] (mM_ 0 args) H Γ):Tri P f args.toArray H Γ d H' Γ':=by
  refine⟨callable o u C,λv E y=>callsIn_wide.1 (callsIn_of_wp_marks (n:=0) o u trivial ?_)⟩;have A:args.length<=N:=yaF_ hl;have:=h v ⟨args.toArray++Array.replicate (fn.ntmps - args.toArray.size) undef,[]⟩ v ⟨by simp[G];omega,rfl,λt x B=>?_⟩ E (Vw.to.refl _ _) y
  . exact wpIn_wide.2 this
  . obtain⟨_,k⟩:=lh_ args 0 t x B
    simp only[Nat.sub_zero]at k;have e:=(yaf_.1 k).1;rw[ybF_ (by simpa using e)];simpa using k
theorem retM {fn:Func} {ι:Type} {G:Hp} {ret:ι->Value} {H':ι->Hp} {Γ':ι->List Fct} (x:ι) (y:∀ (a:Act) (v:Vw),Fr.sat N fr a->v.sat H->aC_ Γ v->(results fn a.tmps).run P v.w=.ok (ret x) v.w) (o:H.Perm (H' x++G))
    (k:∀ v,v.sat H->aC_ Γ v->aC_ (Γ' x) v):Ok N v0 H0 (bodyPostM Fence.wide 0 P fn (lm_ v0 H0 ret H' Γ') .ret) fr H Γ:=by
  intro a v h d u e;show LeavesInM Fence.wide 0 P fn a.tmps _ a.defers .returning v.w
  rw[h.defers]
  exact⟨ret x,y a v h d e,x,v,rfl,rfl,(d.perm o).sub,k v d e,u.subR λb A=>by
    grind⟩
theorem tq_ {fn:Func} {ι:Type} {D:Nat} {G:Hp} {ret:ι->Value} {H':ι->Hp} {Γ':ι->List Fct} (x:ι) (E:∀ (a:Act) (v:Vw),Fr.sat N fr a->v.sat G->(results fn a.tmps).run P v.w=.ok (ret x) v.w) (h:H.Perm ((D,.deferred (some []))::(G)))
    (I:∃ k,G.Perm (H' x++k)) (A:Γ' x=[]):OkD N (qm_ D) v0 H0 (bodyPostM Fence.wide 0 P fn (lm_ v0 H0 ret H' Γ') .ret) fr H Γ:=by
  intro a v u B C M;show LeavesInM Fence.wide 0 P fn a.tmps _ a.defers .returning v.w
  rw[u.defers];have q:=B.perm h;have hl:=(q.own _ yaq_).1;obtain⟨d,J⟩:=fx_ (o':=.deferred none) q;have o:(⟨v.im,v.w.putObj D (.deferred none),v.sl⟩:Vw).sat G:=⟨λp y=>d.own p (yaN_ _ y),by have:=d.nodup;grind,d.lt⟩;obtain⟨k,e⟩:=I;refine⟨by simp,.inl ⟨D,_,rfl,run_takeDeferred hl,ret x,?_,x,⟨v.im,_,v.sl⟩,rfl,rfl,(o.perm e).sub,by rw[A];trivial,?_⟩⟩
  . exact E ⟨a.tmps,[]⟩ ⟨v.im,_,v.sl⟩ u.sat o
  . refine (C.trans (J.permL h.symm)).subR λb L=>?_
    grind
end
end Go.Sx
namespace Go.Vs
abbrev Str:=List UInt8
def dK_ (c:UInt8):Bool:=(decide (97<=c.toNat)&&decide (c.toNat<=122))||(decide (65<=c.toNat)&&decide (c.toNat<=90))
def dz_ (c:UInt8):Bool:=dK_ c||decide (c.toNat=95)||(decide (48<=c.toNat)&&decide (c.toNat<=57))
def iB_ (s:Str):Bool:=s.all dz_
def kws:List Str:=[[97,110,100],[115,111,109,101],[105,110],[116,111],[110,111,116,104,105,110,103],[101,118,101,114,121,116,104,105,110,103],[111,110,101],[111,102],[111,112,101,110],[112,114,105,118,97,116,101],[115,117,98],[115,97,109,101],[100,105,115,106,111,105,110,116],[100,111,109,97,105,110],[114,111,108,101],[99,104,97,105,110],[114,101,102,108,101,120,105,118,101],[116,121,112,101],[108,105,110,107],[115,101,108,101,99,116],[119,104,101,114,101],[111,114]]
def aZ_ (s:Str):Bool:=kws.contains s
def gv_ (s:Str):Bool:=!(s==[])&&dK_ (s.headD 0)&&iB_ s&&!aZ_ s
def cl_ (s:Str):Bool:=decide (2<=s.length)&&decide (s.length<=24)&&decide ((s.headD 0).toNat=95)&&iB_ s
def ixS (c:UInt8):Str->Option Nat
  | []=>none
  | b::s=>if b=c then some 0 else (ixS c s).map (·+1)
def bO_ (s:Str):Bool:=decide (s.length<=24)&&match ixS 58 s with
  | none=>gv_ s
  | some k=>gv_ (s.take k)&&gv_ (s.drop (k+1))
def bk_ (s:Str):Bool:=bO_ s||cl_ s
theorem sj_ (c:UInt8):∀ s:Str,Lib.indexByte s c=match ixS c s with|none=>-1|some k=>(k:Int)
  | []=>rfl
  | b::s=>by
    have d:=sj_ c s
    grind[Lib.indexByte,ixS]
theorem Am_ {c:UInt8}:∀ {s:Str} {k:Nat},ixS c s=some k->k<s.length
 | [],k,h=>by grind[ixS]
 | b::s,k,h=>by
   simp only[ixS]at h
   split at h
   . grind
   . cases hx:ixS c s with
     | none=>grind
     | some j=>rw[hx]at h;simp at h;subst h;have:=Am_ hx;simp;omega
theorem gu_ {c:UInt8}:∀ {s t:Str},ixS c s=none->ixS c (s++t)=(ixS c t).map (·+s.length)
 | [],t,_=>by simp
 | b::s,t,h=>by
   simp only[ixS]at h
   split at h
   . cases h
   . rename_i d
     cases hx:ixS c s with
     | some j=>grind
     | none =>
       simp only[yaL_,ixS,d,ycm_];rw[gu_ hx];cases ixS c t<;>simp;omega
theorem An_ (s:Str) (k:Nat) {c:UInt8} (d:s[k]? = some c) (h:ixS c (s.take k)=none):ixS c s=some k:=by
  grind[List.take_append_drop,List.drop_eq_getElem_cons,gu_,ixS]
theorem Al_ (s:Str) (k:Nat) {c:UInt8} (d:s.length<=k) (h:ixS c (s.take k)=none):ixS c s=none:=by grind[List.take_of_length_le]
theorem Ak_ (s:Str) (k:Nat) {b:UInt8} (c:UInt8) (e:s[k]? = some c) (h:ixS b (s.take k)=none) (d:c≠b):ixS b (s.take (k+1))=none:=by
  grind[List.take_add_one,gu_,ixS]
theorem eV_ (p:UInt8->Bool) (s:Str) (k:Nat) (c:UInt8) (e:s[k]? = some c) (h:(s.take k).all p=true) (d:p c=true):(s.take (k+1)).all p=true:=by
  grind[List.take_add_one]
theorem gy_ (p:UInt8->Bool) (s:Str) (k:Nat) (c:UInt8) (e:s[k]? = some c) (d:p c=false):s.all p=false:=by
  grind
theorem ih_ (p:UInt8->Bool) (s:Str) (k:Nat) (d:s.length<=k) (h:(s.take k).all p=true):s.all p=true:=by
  grind[List.take_of_length_le]
theorem Ab_ {m:Str} {r:List Value} {k:Nat} {c:UInt8} (h:m[k]? = some c):Sx.lg (Sx.bytesV m++r) k=some (.int .u8 (c.toNat:Int)):=by
  grind[Sx.lg_eq,Sx.bytesV]
end Go.Vs
namespace Go.Vs
open Go Go.Sx
inductive Con where
  | mk (kind:Int) (name:Str) (lo hi:Int) (ad:Ao) (cap:Nat) (parts:List Con)
namespace Con
def kind:Con->Int|mk k _ _ _ _ _ _=>k
def name:Con->Str|mk _ n _ _ _ _ _=>n
def lo:Con->Int|mk _ _ l _ _ _ _=>l
def hi:Con->Int|mk _ _ _ h _ _ _=>h
def ad:Con->Ao|mk _ _ _ _ a _ _=>a
def cap:Con->Nat|mk _ _ _ _ _ c _=>c
def parts:Con->List Con|mk _ _ _ _ _ _ p=>p
def cells (c:Con):List Value:=[.int .i64 c.kind,str c.name,.int .i64 c.lo,.int .i64 c.hi,.slice c.ad c.parts.length c.cap]
def val (c:Con):Value:=.agg c.cells.toArray
theorem cells_len (c:Con):c.cells.length=5:=rfl
def sz:Con->Nat
  | mk _ _ _ _ _ _ ps=>1+szs ps
where szs:List Con->Nat
  | []=>0
  | p::ps=>sz p+szs ps
theorem sz_pos (c:Con):0<c.sz:=by cases c;grind[sz]
theorem sz_mem {p:Con}:∀ {ps:List Con},p∈ps->p.sz<=sz.szs ps
 | q::ps,h=>by
   rcases yar_.1 h with rfl|h
   . grind[sz.szs]
   . have:=sz_mem h;grind[sz.szs]
theorem sz_part {c p:Con} (h:p∈c.parts):p.sz<c.sz:=by
  cases c with
  | mk k n l hi a cp ps=>have:=sz_mem (ps:=ps) h;grind[sz]
def mem:Con->Vw->Prop
  | mk _ _ _ _ a _ ps,v=>bW_ v a (ps.flatMap cells)/\mems ps v
where mems:List Con->Vw->Prop
  | [],_=>True
  | p::ps,v=>mem p v/\mems ps v
theorem mems_iff {v:Vw}:∀ {ps:List Con},mem.mems ps v↔∀ p∈ps,p.mem v
  | []=>by simp[mem.mems]
  | p::ps=>by simp[mem.mems,mems_iff (ps:=ps)]
theorem mem_iff (c:Con) (v:Vw):c.mem v↔bW_ v c.ad (c.parts.flatMap cells)/\∀ p∈c.parts,p.mem v:=by
  cases c<;>grind[mem,mems_iff,ad,parts]
theorem mem_mono:∀ (n:Nat) (c:Con),c.sz<=n->∀ v e,v.le e->c.mem v->c.mem e
  | 0,c,h=>by grind[sz_pos]
  | n+1,c,h=>λv e hl hm=>by
    rw[mem_iff]at hm ⊢;exact⟨(O_ c.ad (c.parts.flatMap cells)).mono v e hl hm.1,λp k=>mem_mono n p zbT_ v e hl (hm.2 p k)⟩
def memF (c:Con):Fct:=⟨c.mem,mem_mono c.sz c (yab_ _)⟩
def ok:Con->Prop
  | mk k n l h _ c ps=>-9223372036854775808<=k/\k<=9223372036854775807/\n.length<=140737488351232/\-9223372036854775808<=l/\l<=9223372036854775807/\-9223372036854775808<=h/\h<=9223372036854775807/\ps.length<=c/\ps.length<=2199023255488/\oks ps
where oks:List Con->Prop
  | []=>True
  | p::ps=>ok p/\oks ps
theorem oks_iff:∀ {ps:List Con},ok.oks ps↔∀ p∈ps,p.ok
  | []=>by simp[ok.oks]
  | p::ps=>by simp[ok.oks,oks_iff (ps:=ps)]
theorem ok_part {c p:Con} (h:c.ok) (e:p∈c.parts):p.ok:=by
  cases c with
  | mk k n l hi a cp ps=>exact oks_iff.1 h.2.2.2.2.2.2.2.2.2 p e
theorem ok_name {c:Con} (h:c.ok):c.name.length<=140737488351232:=by cases c;exact h.2.2.1
theorem ok_len {c:Con} (h:c.ok):c.parts.length<=c.cap/\c.parts.length<=2199023255488:=by cases c;exact⟨h.2.2.2.2.2.2.2.1,h.2.2.2.2.2.2.2.2.1⟩
theorem part_cells {c p:Con} {i:Nat} (h:c.parts[i]? = some p):∀ j y,p.cells[j]? = some y->(c.parts.flatMap cells)[i*5+j]? = some y:=by
  intro j y k
  have e:j<5:=by
    grind[cells_len]
  rw[mN_ cells 5 cells_len c.parts i j p h e];exact k
theorem row_addr {v:Vw} {c p:Con} {i:Nat} (h:c.mem v) (k:c.parts[i]? = some p):∃ b off,c.ad=some ⟨b,off,none⟩:=by
  have:=((mem_iff c v).1 h).1;refine this.addr λe=>?_;have o:=part_cells k 0 _ (yaa_ (by grind[cells_len]))
  grind
theorem mem_part {v:Vw} {c p:Con} (h:c.mem v) (e:p∈c.parts):p.mem v:=by grind[mem_iff]
def fits:Con->Nat->Nat->Bool×Nat
  | mk _ _ _ _ _ _ ps,d,n=>if 8<d||64<n+1 then (false,n+1) else fitss ps (d+1) (n+1)
where fitss:List Con->Nat->Nat->Bool×Nat
  | [],_,n=>(true,n)
  | p::ps,d,n=>match fits p d n with
    | (true,m)=>fitss ps d m
    | (false,m)=>(false,m)
theorem fits_eq (c:Con) (d n:Nat):c.fits d n=if 8<d||64<n+1 then (false,n+1) else fits.fitss c.parts (d+1) (n+1):=by cases c;rfl
end Con
end Go.Vs
namespace Go.Sx
section
variable {P:Program} {N:Nf} {v0:Vw} {H0:Hp} {R:Exit->Act->World->Prop} {K:List Kt} {fr:Fr} {H:Hp} {Γ:List Fct}
variable {ops:Array Oper} {l:List Oper} {d:Nat} {ty:TypeId} {ps:String} {af:Array Edge}
open Go Go.Vs
theorem tU_ (c:List Value):tV_ c 0 c.length=some c:=by
  have key:∀ (n off:Nat) (c:List Value),off+n=c.length->tV_ c off n=some (c.drop off):=by
    intro n
    induction n<;>grind[tV_,lg_eq,List.drop_eq_getElem_cons]
  grind
theorem dD_ {t:TypeId} {x:Operand} {b:Nat} (i:Nat) {T:TypeId} {fz:Nat×Nat} {c:Con} (e:∀ w,(isAgg t).run P w=.ok true w) (h:∀ w,(sizeOf t).run P w=.ok 5 w)
    (k:Fr.ev fr x=some (.pointer (some ⟨b,0,none⟩))) (hi:H[i]? = some (b,.cells c.cells.toArray T fz)):Yld P N fr H Γ (.load t x) ty c.val :=
  cx_ i e h k hi (by grind[tU_,Con.cells_len])
theorem sG_ (c:Con):c.cells.all Value.oneCell'=true:=rfl
theorem fR_ {t:TypeId} {x y:Operand} {b:Nat} (i:Nat) {cur:Array Value} {T:TypeId} {c:Con} (h:∀ w,(sizeOf t).run P w=.ok 5 w)
    (k:Fr.ev fr x=some (.pointer (some ⟨b,0,none⟩))) (e:Fr.ev fr y=some c.val) (hi:H[i]? = some (b,.cells cur T (0,0))) (o:cur.size=5)
    (u:Ops P R N v0 H0 ops l K fr (H.set i (b,.cells c.cells.toArray T (0,0))) Γ) :
    Ops P R N v0 H0 ops (⟨none,.store t x y,ty,ps,af,none⟩::l) K fr H Γ:=by
  refine o_ i h k e hi (by grind[Con.val,Value.cells,Con.cells_len]) (by simp[o]) (sG_ c) ?_
  grind[Con.val,Value.cells,List.drop_of_length_le]
end
end Go.Sx
namespace Go.Vs.Con
theorem iv_:∀ (xs ys:List Con) (d n m:Nat),fits.fitss xs d n=(true,m)->fits.fitss (xs++ys) d n=fits.fitss ys d m
 | [],ys,d,n,m,h=>by grind[fits.fitss]
 | x::xs,ys,d,n,m,h=>by
   simp only[fits.fitss,yaL_]at h ⊢
   split at h
   . rename_i q e;exact iv_ xs ys d q m h
   . cases h
theorem sy_:∀ (k:Nat) (c:Con),c.sz<=k->∀ d n,(c.fits d n).1=true->(c.fits d n).2<=64
 | 0,c,h=>by grind[sz_pos]
 | k+1,c,h=>λd n e=>by
   rw[fits_eq]at e ⊢
   split at e
   . cases e
   . rename_i u
     rw[yam_ u];simp only[ybj_,yaY_,not_or,Nat.not_lt]at u
     have key:∀ (ps:List Con),(∀ p∈ps,p.sz<=k)->∀ n,n<=64->(fits.fitss ps (d+1) n).1=true->(fits.fitss ps (d+1) n).2<=64:=by
       intro ps
       induction ps with
       | nil=>grind[fits.fitss]
       | cons p ps ih =>
         intro o n v e;simp only[fits.fitss]at e ⊢
         split at e
         . rename_i m hm
           have:=sy_ k p (o p zak_) (d+1) n (by rw[hm])
           grind
         . cases e
     exact key c.parts (λp o=>by have:=sz_part o;omega) (n+1) zaa_ e
theorem take_snoc {ps:List Con} {p:Con} {i:Nat} (e:ps[i]? = some p):ps.take (i+1)=ps.take i++[p]:=by grind[List.take_add_one]
theorem fitss_step {ps:List Con} {p:Con} {i d n m:Nat} (e:ps[i]? = some p) (h:fits.fitss (ps.take i) d n=(true,m)) (k:(p.fits d m).1=true) :
    fits.fitss (ps.take (i+1)) d n=(true,(p.fits d m).2)/\(p.fits d m).2<=64:=by
  refine⟨?_,sy_ _ p (yab_ _) d m k⟩;rw[take_snoc e,iv_ _ _ _ _ _ h]
  grind[fits.fitss]
theorem fits_no {k lo hi:Int} {nm:Str} {ad:Ao} {cap:Nat} {ps:List Con} {p:Con} {i d n m:Nat} (v:¬ (8<d\/64<n+1)) (o:ps[i]? = some p) (h:fits.fitss (ps.take i) (d+1) (n+1)=(true,m)) (u:(p.fits (d+1) m).1=false) :
    (mk k nm lo hi ad cap ps).fits d n=(false,(p.fits (d+1) m).2):=by
  rw[fits_eq,yam_ zap_]
  have e:ps=ps.take i++p::ps.drop (i+1):=by
    grind[List.getElem_cons_drop,List.take_append_drop]
  show fits.fitss ps (d+1) (n+1)=_
  rw[e,iv_ _ _ _ _ _ h]
  grind[fits.fitss]
theorem fits_yes {k lo e:Int} {nm:Str} {ad:Ao} {cap:Nat} {ps:List Con} {i d n m:Nat} (o:¬ (8<d\/64<n+1)) (hi:ps.length<=i) (h:fits.fitss (ps.take i) (d+1) (n+1)=(true,m)) :
    (mk k nm lo e ad cap ps).fits d n=(true,m):=by
  rw[fits_eq,yam_ zap_];rw[yac_ hi]at h;exact h
end Go.Vs.Con
namespace Go.Vs
open Go Go.Sx
def dC_:List (Int×Int×Int×Bool):=[(0,0,0,false),(0,0,0,false),(0,0,0,false),(1,0,0,false),(2,0,0,false),(0,2,8,false),(1,1,1,false),(1,0,0,true)]
def wx_ (x:Int×Int×Int×Bool):List Value:=[.int .i64 x.1,.int .i64 x.2.1,.int .i64 x.2.2.1,.bool x.2.2.2]
theorem mG_ (x:Int×Int×Int×Bool):(wx_ x).length=4:=rfl
def nd (k:Int):Int×Int×Int×Bool:=(dC_[k.toNat]?).getD (0,0,0,false)
namespace Con
def fieldErr (c:Con):Int :=
  if c.kind<1\/7<c.kind then 21
  else if (c.parts.length:Int)<(nd c.kind).2.1\/(nd c.kind).2.2.1<(c.parts.length:Int)\/((nd c.kind).1=0/\c.name≠[]) then 21
  else if (nd c.kind).2.2.2=true/\(c.lo < -1099511627776\/c.hi<c.lo\/1099511627776<c.hi) then 21
  else if (nd c.kind).2.2.2=false/\(c.lo≠0\/c.hi≠0) then 21
  else if (nd c.kind).1=0\/bO_ c.name=true\/((nd c.kind).1=2/\cl_ c.name=true) then 0
  else 20
def firstErr:Con->Int
  | c@(mk _ _ _ _ _ _ ps)=>if c.fieldErr=0 then firstErrs ps else c.fieldErr
where firstErrs:List Con->Int
  | []=>0
  | p::ps=>if firstErr p=0 then firstErrs ps else firstErr p
theorem firstErr_eq (c:Con):c.firstErr=if c.fieldErr=0 then firstErr.firstErrs c.parts else c.fieldErr:=by cases c;grind[firstErr,parts]
def check (c:Con):Int:=if (c.fits 0 0).1 then c.firstErr else 21
end Con
end Go.Vs
namespace Go.Sx
open Go Go.Vs
section
variable {P:Program} {N:Nat} {v0:Vw} {H0:Hp} {R:Exit->Act->World->Prop} {K:List Kt} {fr:Fr} {H:Hp} {Γ:List Fct}
theorem ret0 {fn:Func} {ι:Type} {F:Hp} {ret:ι->Value} {H':ι->Hp} {Γ':ι->List Fct} (A:fn.results=#[]) (x:ι) (B:.tuple #[]=ret x) (k:H.Perm (H' x++F))
    (e:∀ v,v.sat H->aC_ Γ v->aC_ (Γ' x) v):Ok N v0 H0 (bodyPost P fn (lm_ v0 H0 ret H' Γ') .ret) fr H Γ :=
  em_ k e λa v u h y o=>⟨u.defers,ret x,by grind[results_none],x,v,rfl,rfl,h,o,y⟩
theorem end0 {fn:Func} {ι:Type} {F:Hp} {e:ι->Value} {H':ι->Hp} {Γ':ι->List Fct} (o:fn.results=#[]) (x:ι) (u:.tuple #[]=e x) (k:H.Perm (H' x++F))
    (h:∀ v,v.sat H->aC_ Γ v->aC_ (Γ' x) v):Ok N v0 H0 (bodyPost P fn (lm_ v0 H0 e H' Γ') .normal) fr H Γ :=
  ret0 o x u k h
theorem pi_ {fn:Func} {t b:Nat} {ty T:TypeId} {u:Value} (i:Nat) (o:fn.results=#[.cell t ty]) (h:∀ w,(isAgg ty).run P w=.ok false w) (A:Fr.get fr t=some (.pointer (some ⟨b,0,none⟩))) (hi:H[i]? = some (b,.cells #[u] T (0,0))) (a:Act) (v:Vw) (x:Fr.sat N fr a) (k:v.sat H) :
    (results fn a.tmps).run P v.w=.ok u v.w:=by
  have e:=x.val t _ A;have y:v.w.cell? ⟨b,0,none⟩=some u:=by rw[eZ_ k hi];rfl
  have hl:=cF_ (t:=ty) (w:=v.w) h y;simp[results,o,e,asAddr,hl]
variable {F:Fence} {n:Nat} {D:List Deferred} {ops:Array Oper} {l:List Oper} {d:Nat} {ty:TypeId} {ps:String} {af:Array Edge}
theorem du_ {k:Act->World->Prop} {H' F:Hp} {Γ':List Fct} (x:H.Perm (H'++F)) (o:∀ v,v.sat H->aC_ Γ v->aC_ Γ' v) (h:OkD N D v0 H0 k fr H' Γ'):OkD N D v0 H0 k fr H Γ :=
  λa v y e A u=>h a v y (e.perm x).sub (A.subR λb B=>by
    grind) (o v e u)
theorem tM_ {t:TypeId} {x y:Operand} {b:Nat} (u:Opn F) (i:Nat) {cur:Array Value} {T:TypeId} {c:Con} (h:∀ w,(sizeOf t).run P w=.ok 5 w)
    (k:Fr.ev fr x=some (.pointer (some ⟨b,0,none⟩))) (e:Fr.ev fr y=some c.val) (hi:H[i]? = some (b,.cells cur T (0,0))) (o:cur.size=5)
    (v:fH_ F n P R N D v0 H0 ops l K fr (H.set i (b,.cells c.cells.toArray T (0,0))) Γ) :
    fH_ F n P R N D v0 H0 ops (⟨none,.store t x y,ty,ps,af,none⟩::l) K fr H Γ:=by
  refine eD_ u i h k e hi (by grind[Con.val,Value.cells,Con.cells_len]) (by simp[o]) (sG_ c) ?_
  grind[Con.val,Value.cells,List.drop_of_length_le]
theorem fP_ {σ τ:Type} {Hj:σ->Hp} {Hx:τ->Hp} {h G:Hp} {res:σ ⊕ τ} (e:σ) (u:res=.inl e) (o:H.Perm (Hj e++h++G)):OkD N [] v0 H0 (vR_ v0 H0 Hj Hx h res .normal) fr H Γ :=
  du_ (Γ':=[]) o (λ_ _ _=>trivial) λa v y k x _=>⟨e,v,u,rfl,k,x⟩
theorem xD_ {σ τ:Type} {Hj:σ->Hp} {Hx:τ->Hp} {e G:Hp} {res:σ ⊕ τ} (t:τ) (o:res=.inr t) (k:H.Perm (Hx t++e++G)):OkD N [] v0 H0 (vR_ v0 H0 Hj Hx e res .ret) fr H Γ :=
  du_ (Γ':=[]) k (λ_ _ _=>trivial) λa v x h u _=>⟨t,v,o,rfl,h,u⟩
theorem eg_ {ι:Type} {e:ι->Fr} {o:ι->Hp} {k:ι->List Fct} (i:ι) {F:Hp} (h:Fr.le (e i) fr) (x:H.Perm (o i++F)) (u:∀ v,v.sat H->aC_ Γ v->aC_ (k i) v) :
    OkD N [] v0 H0 (Mid N v0 H0 e o k .normal) fr H Γ:=ef_.2 (aA_ i h x u)
end
end Go.Sx
namespace Go.Vs.Con
def fold {σ τ:Type} (f:Con->σ->σ ⊕ τ):Con->σ->σ ⊕ τ
  | c@(mk _ _ _ _ _ _ ps),s=>match f c s with|.inl s'=>folds f ps s'|.inr t=>.inr t
where folds {σ τ:Type} (f:Con->σ->σ ⊕ τ):List Con->σ->σ ⊕ τ
  | [],s=>.inl s
  | p::ps,s=>match fold f p s with|.inl s'=>folds f ps s'|.inr t=>.inr t
section
variable {σ τ:Type} {f:Con->σ->σ ⊕ τ}
theorem fold_eq (c:Con) (s:σ):fold f c s=match f c s with|.inl s'=>fold.folds f c.parts s'|.inr t=>.inr t:=by cases c;rw[fold];rfl
theorem it_:∀ (xs ys:List Con) (s m:σ),fold.folds f xs s=.inl m->fold.folds f (xs++ys) s=fold.folds f ys m
 | [],ys,s,m,h=>by grind[fold.folds]
 | x::xs,ys,s,m,h=>by
   simp only[fold.folds,yaL_]at h ⊢
   split at h
   . rename_i q e;exact it_ xs ys q m h
   . cases h
theorem folds_step {ps:List Con} {p:Con} {i:Nat} {s m e:σ} (k:ps[i]? = some p) (h:fold.folds f (ps.take i) s=.inl m) (o:fold f p m=.inl e):fold.folds f (ps.take (i+1)) s=.inl e:=by
  rw[take_snoc k,it_ _ _ _ _ h]
  grind[fold.folds]
theorem folds_no {ps:List Con} {p:Con} {i:Nat} {s m:σ} {t:τ} (k:ps[i]? = some p) (h:fold.folds f (ps.take i) s=.inl m) (o:fold f p m=.inr t):fold.folds f ps s=.inr t:=by
  have e:ps=ps.take i++p::ps.drop (i+1):=by
    grind[List.getElem_cons_drop,List.take_append_drop]
  rw[e,it_ _ _ _ _ h]
  grind[fold.folds]
theorem folds_yes {ps:List Con} {i:Nat} {s m:σ} (hi:ps.length<=i) (h:fold.folds f (ps.take i) s=.inl m):fold.folds f ps s=.inl m:=by
  grind[List.take_of_length_le]
end
def chk (c:Con) (_:Unit):Unit ⊕ Int:=if c.fieldErr=0 then .inl () else .inr c.fieldErr
theorem fold_chk:∀ (m:Nat) (c:Con),c.sz<=m->fold chk c ()=if c.firstErr=0 then .inl () else .inr c.firstErr
 | 0,c,h=>by grind[sz_pos]
 | m+1,c,h=>by
   rw[fold_eq,firstErr_eq,chk]
   have key:∀ (ps:List Con),(∀ p∈ps,p.sz<=m)->fold.folds chk ps ()=if firstErr.firstErrs ps=0 then .inl () else .inr (firstErr.firstErrs ps):=by
     intro ps
     induction ps with
     | nil=>grind[fold.folds,firstErr.firstErrs]
     | cons p ps ih =>
       intro k;simp only[fold.folds,firstErr.firstErrs];rw[fold_chk m p (k p zak_)]
       grind
   by_cases e:c.fieldErr=0
   . simp only[e,ycu_]
     exact key c.parts λp k=>by have:=sz_part k;omega
   . simp[e]
def cnt (_:Con) (n:Nat):Nat ⊕ Empty:=.inl (n+1)
end Go.Vs.Con
namespace Go.Sx
open Go
theorem jaf {A B:Bool} (h:A=false):false=(A&&B):=by rw[h];rfl
theorem jat {A B r:Bool} (h:A=true) (d:B=r):r=(A&&B):=by grind
theorem jot {A B:Bool} (h:A=true):true=(A||B):=by rw[h];rfl
theorem jof {A B r:Bool} (h:A=false) (d:B=r):r=(A||B):=by grind
theorem jn {A r:Bool} (h:A=r):(!A)=(!r):=by rw[h]
section
variable {P:Program} {N:Nf} {v0:Vw} {H0:Hp} {R:Exit->Act->World->Prop} {K:List Kt} {fr:Fr} {H:Hp} {Γ:List Fct}
variable {ops:Array Oper} {l:List Oper}
theorem qC_ {Q k:Exit->Act->World->Prop} {o:Oper} {a:Act} {w:World} {u y:Act->World->Prop} (h:∀ a w,u a w->y a w) (E:∀ c a w,Q (.panic c) a w->k (.panic c) a w) (A:∀ a w,Q .outgrown a w->k .outgrown a w)
    (d:o.wp P a w u Q):o.wp P a w y k:=by
  unfold Oper.wp at *;generalize (execOp a.eval o).run P w=r at *
  cases r with
  | ok n w' =>
    cases n<;>simp only[Oper.upon]at d ⊢ <;>
      first
        | grind
        | exact Calls.mono d (λe C B=>by
            cases e with
            | returned v=>grind
            | panicked c=>grind
            | outgrown=>obtain⟨a,w,q⟩:=B;exact⟨a,w,A _ _ q⟩)
        | grind[Rows.mono]
  | halt x w'=>cases x<;>simp only[Oper.upon]at d ⊢<;>first|grind|exact d
theorem kO_ {k:List Oper}:∀ (d:List Oper) (a:Act) (w:World),wpList P ops (post P R (.inv (wpList P ops (post P R K) k)::K)) d a w->wpList P ops (post P R K) (d++k) a w
 | [],a,w,h=>h
 | o::d,a,w,h=>by
   simp only[wpList,yaL_]at h ⊢
   split
   . rename_i e
     rw[yax_ e]at h;rcases h with h|⟨h,u,w',q⟩
     . exact .inl (qC_ (λa w q=>kO_ d a w q) (λc a w q=>q) (λa w q=>q) h)
     . exact .inr ⟨h,u,w',q⟩
   . rename_i e
     rw[yam_ e]at h;exact kO_ d _ _ h
def wF_:Nat->List Oper->List Oper
  | 0,_=>[]
  | _,[]=>[]
  | n+1,o::l=>o::wF_ n l
def wG_:Nat->List Oper->List Oper
  | 0,l=>l
  | _,[]=>[]
  | n+1,_::l=>wG_ n l
theorem pD_:∀ (n:Nat) (l:List Oper),wF_ n l++wG_ n l=l
  | 0,_=>rfl
  | n+1,[]=>rfl
  | n+1,o::l=>by show o::(wF_ n l++wG_ n l)=o::l;rw[pD_ n l]
def MetJ (N:Nf) (v0:Vw) (H0:Hp) (fr:Fr) (H:Hp) (Γ:List Fct) (a:Act) (w:World):Prop:=∃ v,v.w=w/\Fr.sat N fr a/\v.sat H/\v0.to H0 v H/\aC_ Γ v
theorem aB_ (n:Nat) (X:Bool) (d:Bool->Fr) (G:Ops P R N v0 H0 ops (wF_ n l) (.inv (MetJ N v0 H0 (d X) H Γ)::K) fr H Γ)
    (B:∀ r,X=r->Ops P R N v0 H0 ops (wG_ n l) K (d r) H Γ):Ops P R N v0 H0 ops l K fr H Γ:=by
  intro a v y E L x;rw[<-pD_ n l];refine kO_ _ _ _ ?_;have C:=G a v y E L x;refine wpL_mono ?_ _ _ _ C;rintro u w' ⟨A,rfl,k1,k2,F,I⟩;exact B X rfl u A k1 k2 F I
where wpL_mono {J J':Act->World->Prop} (hJ:∀ a w,J a w->J' a w):∀ (e:List Oper) (a:Act) (w:World),wpList P ops (post P R (.inv J::K)) e a w->wpList P ops (post P R (.inv J'::K)) e a w
  | [],a,w,h=>hJ _ _ h
  | o::e,a,w,h=>by
    simp only[wpList]at h ⊢
    split
    . rename_i k
      rw[yax_ k]at h;rcases h with h|⟨h,u,w',q⟩
      . exact .inl (qC_ (λa w q=>wpL_mono hJ e a w q) (λc a w q=>q) (λa w q=>q) h)
      . exact .inr ⟨h,u,w',q⟩
    . rename_i k
      rw[yam_ k]at h;exact wpL_mono hJ e _ _ h
theorem met {d:Fr} (e:Fr.le d fr):Ok N v0 H0 (MetJ N v0 H0 d H Γ) fr H Γ :=
  bc_ d e λ_ v o h u k=>⟨v,rfl,o,h,u,k⟩
end
end Go.Sx
namespace Go.Sx
open Go
theorem t_ {α:Type} {f:α->List Value} {n:Nat} (d:∀ x,(f x).length=n) {l:List α} {i:Nat} {x:α} (e:l[i]? = some x):∀ j y,(f x)[j]? = some y->(l.flatMap f)[i*n+j]? = some y:=by
  grind[mN_]
theorem az_ {α:Type} {f:α->List Value} {n:Nat} (d:∀ x,(f x).length=n) (o:0<n) {v:Vw} {ad:Ao} {l:List α} {i:Nat} {x:α} (h:bW_ v ad (l.flatMap f)) (k:l[i]? = some x):∃ b off,ad=some ⟨b,off,none⟩:=by
  refine h.addr λe=>?_;have u:=t_ d k 0 _ (yaa_ zap_)
  grind
def V_ (s:List UInt8):List Value:=[str s]
theorem au_ (s:List UInt8):(V_ s).length=1:=rfl
end Go.Sx
namespace Go.Vs
open Go Go.Sx
structure Ax where
  kind:Int
  opn:Bool
  left:Con
  right:Con
  ad:Ao
  cap:Nat
  roles:List Str
  role:Str
  a:Str
  b:Str
namespace Ax
def cells (x:Ax):List Value:=.int .i64 x.kind::.bool x.opn::(x.left.cells++(x.right.cells++[.slice x.ad x.roles.length x.cap,str x.role,str x.a,str x.b]))
def val (x:Ax):Value:=.agg x.cells.toArray
theorem cells_len (x:Ax):x.cells.length=16:=by simp[cells,Con.cells_len]
def mem (x:Ax) (v:Vw):Prop:=x.left.mem v/\x.right.mem v/\bW_ v x.ad (x.roles.flatMap V_)
def memF (x:Ax):Fct:=⟨x.mem,λv v' h hp=>⟨x.left.memF.mono v v' h hp.1,x.right.memF.mono v v' h hp.2.1,(O_ x.ad (x.roles.flatMap V_)).mono v v' h hp.2.2⟩⟩
structure ok (x:Ax):Prop where
  lo:-9223372036854775808<=x.kind
  hi:x.kind<=9223372036854775807
  left:x.left.ok
  right:x.right.ok
  len:x.roles.length<=x.cap
  cap:x.roles.length<=8796093021952
  roles:∀ r∈x.roles,r.length<=140737488351232
  role:x.role.length<=140737488351232
  a:x.a.length<=140737488351232
  b:x.b.length<=140737488351232
end Ax
def Con.empty (c:Con):Bool:=((((c.kind==0)&&(c.name==[]))&&(c.lo==0))&&(c.hi==0))&&((c.parts.length:Int)==0)
def Con.bare:Con->Bool
  | mk k _ _ _ _ _ ps=>(k==4)||((k==5)&&bares ps)
where bares:List Con->Bool
  | []=>false
  | p::ps=>bare p||bares ps
theorem Con.bares_any:∀ (ps:List Con),Con.bare.bares ps=ps.any Con.bare
  | []=>rfl
  | p::ps=>by simp[Con.bare.bares,Con.bares_any ps]
theorem Con.bare_eq (c:Con):c.bare=((c.kind==4)||((c.kind==5)&&c.parts.any Con.bare)):=by cases c;grind[bare,bares_any,kind,parts]
structure Use where
  left:Bool
  right:Bool
  role:Bool
  a:Bool
  b:Bool
  least:Int
  most:Int
def Use.cells (u:Use):List Value:=[.bool u.left,.bool u.right,.bool u.role,.bool u.a,.bool u.b,.int .i64 u.least,.int .i64 u.most]
theorem Use.cells_len (u:Use):u.cells.length=7:=rfl
def kQ_:List Use:=[⟨false,false,false,false,false,0,0⟩,⟨true,true,false,false,false,0,0⟩,⟨true,true,false,false,false,0,0⟩,⟨true,true,false,false,false,0,0⟩,⟨false,true,true,false,false,0,0⟩,
  ⟨false,false,true,false,false,1,1⟩,⟨false,false,true,false,false,2,4⟩,⟨false,false,true,false,false,0,0⟩,⟨false,true,false,true,false,0,0⟩,⟨false,false,true,true,true,0,0⟩]
def us (k:Int):Use:=(kQ_[k.toNat]?).getD ⟨false,false,false,false,false,0,0⟩
namespace Ax
def shaped (x:Ax):Bool :=
  if x.kind<1\/9<x.kind then false else
    let u:=us x.kind
    (((((((u.left||x.left.empty)&&(u.right||x.right.empty))&&(u.role||(x.role==[])))&&(u.a||(x.a==[])))&&(u.b||(x.b==[])))&&decide (u.least<=(x.roles.length:Int)))&&decide ((x.roles.length:Int)<=u.most))
def namedU (x:Ax) (u:Use):Bool:=!(u.role&&!bO_ x.role||u.a&&!bk_ x.a||u.b&&!bk_ x.b)&&x.roles.all bO_
def check (x:Ax):Int :=
  if x.shaped=false then 22
  else if x.namedU (us x.kind)=false then 20
  else if (us x.kind).left=true/\x.left.check≠0 then x.left.check
  else if (us x.kind).right=true/\x.right.check≠0 then x.right.check
  else if x.kind=2/\(x.left.bare=true\/x.right.bare=true) then 22
  else if (x.kind=1\/x.kind=4\/x.kind=8)/\x.right.bare=true then 22
  else 0
end Ax
structure NUse where
  a:Bool
  b:Bool
  c:Bool
  r:Bool
  s:Bool
  t:Bool
  numbers:Bool
def kD_:List NUse:=[⟨false,false,false,false,false,false,false⟩,⟨true,false,true,false,false,false,false⟩,⟨true,true,true,false,false,false,false⟩,⟨true,false,true,true,false,false,false⟩,⟨true,false,true,true,false,false,false⟩,
  ⟨false,false,false,true,false,true,false⟩,⟨false,false,false,true,true,true,false⟩,⟨false,false,false,true,false,false,false⟩,⟨true,false,false,true,false,false,true⟩,⟨false,false,true,true,false,false,true⟩]
def nus (k:Int):NUse:=(kD_[k.toNat]?).getD ⟨false,false,false,false,false,false,false⟩
end Go.Vs
namespace Go.Sx
open Go
def cv_ (b:Nat) (o:Obj):Fct where
  p:=λv=>v.im b/\v.w.heap[b]? = some o
  mono:=λv v' h hp=>⟨h.imUp b hp.1,by rw[h.block b hp.1];exact hp.2⟩
section
variable {P:Program} {N:Nf} {v0:Vw} {H0:Hp} {R:Exit->Act->World->Prop} {K:List Kt} {fr:Fr} {H:Hp} {Γ:List Fct}
variable {ops:Array Oper} {l:List Oper} {d:Nat} {ty:TypeId} {ps:String} {af:Array Edge}
theorem jF_ {k:Act->World->Prop} {b:Nat} {o:Obj} (i:Nat) (hi:H[i]? = some (b,o)) (h:Ok N v0 H0 k fr (H.eraseIdx i) (cv_ b o::Γ)):Ok N v0 H0 k fr H Γ :=
  fW_ (cv_ b o) (gC_ hi) (λ_ u e _=>⟨u,e⟩) h
theorem dm_ {t:TypeId} (h:Nat.blt d N.n=true) (e:∀ b,Ops P R N v0 H0 ops l K ((d,.map (some b))::fr) ((b,.map #[] 0)::H) Γ) :
    Ops P R N v0 H0 ops (⟨some d,.makeMap t none,ty,ps,af,none⟩::l) K fr H Γ :=
  in_ (x:=λb=>.map (some b)) h (λa v k _ _=>by simp[execOp,Instr.makeMap,newObj];rfl) e
def kH_ (P:Program) (k:TypeId) (key:Value):Prop:=∀ e w,(Instr.checkKey e 10000 k key).run P w=.ok () w
def ek_ (P:Program) (k:TypeId) (key:Value) (es:List MapEntry) (r:Option (Nat×Value)):Prop:=∀ w,(Instr.findKey k key es).run P w=.ok r w
theorem bR_ {k:TypeId} {i:IntKind} {n:Int} (h:P.underlying k=some (.int i)):kH_ P k (.int i n):=λe w=>by
  exact key (9999) e w
where key (m:Nat) (e:Bool) (w:World):(Instr.checkKey e (m+1) k (.int i n)).run P w=.ok () w:=by simp[Instr.checkKey,run_underlying h]
theorem bu_ {k:TypeId} {dd:TypeDesc} {key:Value} {es:List MapEntry} {r:Option (Nat×Value)} (e:P.underlying k=some dd) (h:Instr.findNow dd key es 0=some r):ek_ P k key es r:=λw=>by
  simp[Instr.findKey,run_underlying e,h]
theorem fL_ {t e I:TypeId} {x y:Operand} {b c i:Nat} {es:Array MapEntry} {key u:Value} (B:∀ w,(underlying t).run P w=.ok (.map e I) w) (E:Fr.ev fr x=some (.map (some b))) (o:Fr.ev fr y=some key)
    (hm:∀ v,v.sat H->aC_ Γ v->v.w.heap[b]? = some (.map es c)) (F:kH_ P e key) (k:ek_ P e key es.toList (some (i,u))):Yld P N fr H Γ (.lookup t x y false) ty u :=
  λa v h A G _ _ _=>by
    have C:=MapKept.run_getObj_map (P:=P) (hm v A G);simp[execOp,h.ev E,h.ev o,Instr.lookup,B,C,F _ _,k _]
theorem gx_ {t e k:TypeId} {x y:Operand} {b c:Nat} {es:Array MapEntry} {key z:Value} (B:∀ w,(underlying t).run P w=.ok (.map e k) w) (I:∀ w,(zeroValue k).run P w=.ok z w) (E:Fr.ev fr x=some (.map (some b))) (u:Fr.ev fr y=some key)
    (hm:∀ v,v.sat H->aC_ Γ v->v.w.heap[b]? = some (.map es c)) (F:kH_ P e key) (o:ek_ P e key es.toList none):Yld P N fr H Γ (.lookup t x y false) ty z :=
  λa v h A G _ _ _=>by
    have C:=MapKept.run_getObj_map (P:=P) (hm v A G);simp[execOp,h.ev E,h.ev u,Instr.lookup,B,C,F _ _,o _,I]
theorem bG_ {o:Op} {t E X:TypeId} {x y z:Operand} {b c:Nat} (i:Nat) {es:Array MapEntry} {key u:Value} (J:o=.insert t x y z\/o=.mapUpdate t x y z) (O:∀ w,(underlying t).run P w=.ok (.map E X) w)
    (U:Fr.ev fr x=some (.map (some b))) (M:Fr.ev fr y=some key) (Y:Fr.ev fr z=some u) (hi:H[i]? = some (b,.map es c)) (C:kH_ P E key) (I:ek_ P E key es.toList none)
    (B:Ops P R N v0 H0 ops l K fr (H.set i (b,.map (es.push ⟨key,u,c⟩) (c+1))) Γ):Ops P R N v0 H0 ops (⟨none,o,ty,ps,af,none⟩::l) K fr H Γ :=
  dl_ rfl λa v e h Q W=>by
    have A:=(h.own _ (yad_ hi)).1;have T:=MapKept.run_getObj_map (P:=P) A;have S:=MapKept.run_setObj_map (P:=P) (.map (es.push ⟨key,u,c⟩) (c+1)) A
    have V:(execOp a.eval ⟨none,o,ty,ps,af,none⟩).run P v.w=.ok .skip { v.w with heap:=v.w.heap.setIfInBounds b (.map (es.push ⟨key,u,c⟩) (c+1)) }:=by
      rcases J with rfl|rfl<;>simp[execOp,e.ev U,e.ev M,e.ev Y,Instr.mapUpdate,O,T,C _ _,I _,S]
    unfold Oper.wp;rw[V];have F:=MapKept.heap_set (o':=.map (es.push ⟨key,u,c⟩) (c+1)) A;obtain⟨L,G⟩:=fw_ (w':={ v.w with heap:=v.w.heap.setIfInBounds b (.map (es.push ⟨key,u,c⟩) (c+1)) }) h hi rfl rfl rfl (yab_ _) zak_ F.1 (λk C=>F.2 k C);exact B a _ e L (Q.trans G) (ba_ (G.le h) W)
theorem dT_ {f:FuncId} {args:Array Value} {r:Value} (F:gp_ P f) (h:∀ v:Vw,v.sat H->aC_ Γ v->Calls P f args v.w λe w'=>e=.returned r/\RowKit.Below v.w.heap.size v.w w'/\(v.sl\/v.w.drawn<=w'.drawn)):Tri P f args H Γ (λ_:Unit=>r) (λ_=>H) (λ_=>[]) :=
  ⟨F,λv u C=>(h v u C).mono λe w' ⟨E,o,B⟩=>by
    have y:v.w.heap.size<=w'.heap.size:=o.size;have A:∀ p∈H,p.1<v.w.heap.size:=λp x=>(yaC_.1 (u.own p x).1).1
    refine⟨(),⟨v.im,w',v.sl⟩,E,rfl,⟨λp x=>⟨?_,(u.own p x).2⟩,u.nodup,λb k=>ybO_ (u.lt b k) y⟩,trivial,⟨o.os,o.tape,o.output,y,λb k _=>o.block b k,λ_ h=>h,λ_ h=>.inl h,λ_ h=>.inl h,rfl,B⟩⟩;show w'.heap[p.1]? = _
    rw[o.block p.1 (A p x)];exact (u.own p x).1⟩
theorem vL_ (w:World) (k:Nat) (os:Array Obj):RowKit.Below w.heap.size w (Go.Sort.grow (w.drewN k) os) :=
  ⟨rfl,rfl,rfl,by simp[Go.Sort.grow],λb e=>by grind[Sort.grow,World.heap_drewN]⟩
theorem gn_ {t e:TypeId} {sz by':Nat} {z:Value} (o:P.underlying t=some (.slice e)) (hi:(P.info? e).map (λi=>(i.zero,i.size,i.bytes))=some (some z,sz,by')) (u:z.cells.size=sz) (k:0<sz):Elt P t e sz by':=by
  refine⟨o,?_,k⟩;cases h:P.info? e<;>grind
theorem aO_ {b:Nat} {cs:List Value} {T:TypeId} {fz:Nat×Nat} (i:Nat) (hi:H[i]? = some (b,.cells cs.toArray T fz)):∀ v:Vw,v.sat H->aC_ Γ v->∀ j u,cs[j]? = some u->v.w.cell? ((⟨b,0,none⟩:Addr).add j)=some u:=by
  intro v e _ j u h;rw[da_,ybP_,eZ_ e hi];omega
theorem cs_ {N:Nat} {fn:Func} {ι:Type} {F:Hp} {ret:ι->Value} {H':ι->Hp} {Γ':ι->List Fct} (x:ι) (y:∀ (a:Act) (v:Vw),Fr.sat N fr a->v.sat H->(results fn a.tmps).run P v.w=.ok (ret x) v.w) (o:H.Perm (H' x++F))
    (k:∀ v,v.sat H->aC_ Γ v->aC_ (Γ' x) v):Ok N v0 H0 (bodyPost P fn (lm_ v0 H0 ret H' Γ') .ret) fr H Γ :=
  λa v h e u A=>⟨h.defers,ret x,y a v h e,x,v,rfl,rfl,(e.perm o).sub,k v e A,u.subR λb B=>by
    grind⟩
theorem db_ {fn:Func} {t b n:Nat} {ty T:TypeId} {us:List Value} (i:Nat) (k:fn.results=#[.cell t ty]) (A:∀ w,(isAgg ty).run P w=.ok true w) (o:∀ w,(sizeOf ty).run P w=.ok n w) (x:us.length=n) (u:Fr.get fr t=some (.pointer (some ⟨b,0,none⟩)))
    (hi:H[i]? = some (b,.cells us.toArray T (0,0))) (a:Act) (v:Vw) (B:Fr.sat N fr a) (h:v.sat H):(results fn a.tmps).run P v.w=.ok (.agg us.toArray) v.w:=by
  have e:=B.val t _ u;have hl:=ep_ (t:=ty) (w:=v.w) (b:=b) (off:=0) A o x (λj y C=>by rw[ybP_,eZ_ h hi];omega);simp[results,k,e,asAddr,hl]
theorem jV_ {C:Hp} {E:List Fct} {k:Nat} {e:Array Bool} (B:List Nat) (G:Region.ready .any ops e=B) (A:B≠[])
    (h:∀ i,i∈B->∃ o,ops[i]? = some o/\Ops P R N v0 H0 ops [o] (.inv (Nx P R ops C E k (e.setIfInBounds i true) K)::K) fr H Γ):Any P R N v0 H0 ops C E (k+1) e K fr H Γ:=by
  intro a v M F I L;refine wpAnyH_all G A λj J=>?_;obtain⟨o,hi,h⟩:=h j J;have:=h a v M F I L;unfold wpOp;simp only[hi];unfold wpList at this
  split
  . rename_i y
    rw[yax_ y]at this;rcases this with q|q
    . left
      unfold Oper.wp at q ⊢;generalize (execOp a.eval o).run P v.w=r at q ⊢
      cases r with
      | ok n w' =>
        cases n<;>simp only[Oper.upon]at q ⊢<;>exact q
      | halt x w' =>
        cases x<;>simp only[Oper.upon]at q ⊢
        case panic u=>exact q
    . exact .inr q
  . rename_i y
    rw[yam_ y]at this;exact this
theorem bx_ {x:Hp} {v:List Fct} {u:Nat} {e:Array Bool} (i j:Nat) {o o':Oper} (hi:ops[i]? = some o) (C:ops[j]? = some o') (y:Region.ready .any ops e=[i,j])
    (h:Ops P R N v0 H0 ops [o] (.inv (Nx P R ops x v u (e.setIfInBounds i true) K)::K) fr H Γ) (B:Ops P R N v0 H0 ops [o'] (.inv (Nx P R ops x v u (e.setIfInBounds j true) K)::K) fr H Γ):Any P R N v0 H0 ops x v (u+1) e K fr H Γ :=
  jV_ [i,j] y zak_ λk A=>by
    grind
theorem av_.some {e:TypeId} {sz n:Nat} {sv:Value} {xs:List Value} {Hr:Hp} (h:av_ e sz sv n xs Hr) (o:n≠0) :
    ∃ g cap cur,sv=.slice (some ⟨g,0,none⟩) n cap/\Hr=[(g,.cells cur e (0,0))]/\n<=cap/\cap<=maxLen/\cur.size=cap*sz/\cur.toList.take (n*sz)=xs:=by
  rcases h.2 with⟨_,k,_⟩|k
  all_goals grind
theorem dn_ {us:List Value} (h:us.all Value.oneCell'=true):∀ u∈us,u.oneCell'=true:=by grind
theorem aW_ {k:Nat} (e:Hp) (hm:P.follows .mixedOrders=true) (h:Any P R N v0 H0 ops e Γ ops.size (Array.replicate ops.size false) K fr H Γ):Run P R N v0 H0 (.region k ops true) K fr H Γ:=tm_ e Γ hm h
theorem retG {N:Nat} {fn:Func} {ι:Type} {F:Hp} {ret:ι->Value} {H':ι->Hp} {Γ':ι->List Fct} (x:ι) (A:∀ (a:Act) (v:Vw),Fr.sat N fr a->v.sat H->aC_ Γ v->(results fn a.tmps).run P v.w=.ok (ret x) v.w) (u:H.Perm (H' x++F))
    (o:∀ v,v.sat H->aC_ Γ v->aC_ (Γ' x) v):Ok N v0 H0 (bodyPost P fn (lm_ v0 H0 ret H' Γ') .ret) fr H Γ :=
  λa v k e y h=>⟨k.defers,ret x,A a v k e h,x,v,rfl,rfl,(e.perm u).sub,o v e h,y.subR λb B=>by
    grind⟩
theorem BK_ {fn:Func} {s t:Nat} {ad k:Addr} {ty h:TypeId} {u u':Value} {a:Act} {w:World} (y:fn.results=#[.cell s ty,.cell t h]) (C:∀ w,(isAgg ty).run P w=.ok false w) (v:∀ w,(isAgg h).run P w=.ok false w) (x:Fr.sat N fr a) (B:Fr.get fr s=some (.pointer (some ad))) (A:Fr.get fr t=some (.pointer (some k)))
    (E:w.cell? ad=some u) (o:w.cell? k=some u'):(results fn a.tmps).run P w=.ok (.tuple #[u,u']) w:=by
  have e:=x.val s _ B;have F:=x.val t _ A;simp[results,y,e,F,asAddr,cF_ C E,cF_ v o]
theorem py_ {b:Nat} {cs:List Value} {T:TypeId} {fz:Nat×Nat} {v:Vw} (j:Nat) {u:Value} (h:(cv_ b (.cells cs.toArray T fz)).p v) (e:cs[j]? = some u):v.w.cell? ⟨b,j,none⟩=some u:=by
  simp[World.cell?,h.2,e]
theorem cT_ {t:TypeId} {x:Operand} {b off:Nat} {cs:List Value} {T:TypeId} {fz:Nat×Nat} {u:Value} {ty:TypeId} (h:∀ w,(isAgg t).run P w=.ok false w) (o:Fr.ev fr x=some (.pointer (some ⟨b,off,none⟩))) (e:∀ v,v.sat H->aC_ Γ v->(cv_ b (.cells cs.toArray T fz)).p v) (k:cs[off]? = some u):Yld P N fr H Γ (.load t x) ty u :=
  by grind[hB_,cF_,py_]
end
end Go.Sx
namespace Go.Vs
open Go Go.Sx
namespace Con
def text:Con->Str
  | mk k nm lo hi _ _ ps =>
    if k=1 then [101,118,101,114,121,116,104,105,110,103]
    else if k=2 then [110,111,116,104,105,110,103]
    else if k=3 then nm
    else if k=4 then [123]++nm++[125]
    else if k=5 then Lib.join (operands ps) [32,97,110,100,32]
    else if k=6 then Lib.join [[115,111,109,101],nm,(operands ps).headD []] [32]
    else Lib.join [nm,[105,110],Lib.itoa lo,[116,111],Lib.itoa hi] [32]
where operands:List Con->List Str
  | []=>[]
  | p::ps=>(if p.kind=5 then [40]++text p++[41] else text p)::operands ps
def operand (c:Con):Str:=if c.kind=5 then [40]++c.text++[41] else c.text
theorem oi_:∀ (ps:List Con),text.operands ps=ps.map operand
  | []=>rfl
  | p::ps=>by simp only[text.operands,yaE_,oi_ ps,operand]
theorem text_eq (c:Con):c.text =
    if c.kind=1 then [101,118,101,114,121,116,104,105,110,103]
    else if c.kind=2 then [110,111,116,104,105,110,103]
    else if c.kind=3 then c.name
    else if c.kind=4 then [123]++c.name++[125]
    else if c.kind=5 then Lib.join (c.parts.map operand) [32,97,110,100,32]
    else if c.kind=6 then Lib.join [[115,111,109,101],c.name,(c.parts.map operand).headD []] [32]
    else Lib.join [c.name,[105,110],Lib.itoa c.lo,[116,111],Lib.itoa c.hi] [32]:=by
  cases c;simp only[text,oi_];rfl
theorem jJ_ (sep:Str):∀ (xs:List Str),(Lib.join xs sep).length<=(xs.map λx=>x.length+sep.length).sum
  | []=>by grind[Lib.join_nil]
  | [x]=>by grind[Lib.join_one]
  | x::y::r=>by
    have h:=jJ_ sep (y::r);have e:Lib.join (x::y::r) sep=x++sep++Lib.join (y::r) sep:=by simp[Lib.join,List.intercalate]
    grind
def fine (c:Con):Prop:=c.firstErr=0
theorem fD_:∀ {ps:List Con},firstErr.firstErrs ps=0↔∀ p∈ps,p.firstErr=0
 | []=>by simp[firstErr.firstErrs]
 | p::ps=>by
   simp only[firstErr.firstErrs,yar_,forall_eq_or_imp]
   by_cases h:p.firstErr=0
   . simp[h,fD_ (ps:=ps)]
   . simp[h]
theorem fine_iff (c:Con):c.fine↔c.fieldErr=0/\∀ p∈c.parts,p.fine:=by
  grind[fine,firstErr_eq,fD_]
theorem fine_part {c p:Con} (h:c.fine) (d:p∈c.parts):p.fine:=by grind[fine_iff]
structure Fields (c:Con):Prop where
  k1:1<=c.kind
  k7:c.kind<=7
  nm:c.name.length<=24
  le:(nd c.kind).2.1<=c.parts.length
  mo:c.parts.length<=(nd c.kind).2.2.1
theorem plain_len {s:Str} (h:bO_ s=true):s.length<=24:=by
  grind[bO_]
theorem reserved_len {s:Str} (h:cl_ s=true):s.length<=24:=by
  grind[cl_]
theorem fields_of {c:Con} (h:c.fieldErr=0):Fields c:=by
 unfold fieldErr at h
 split at h
 .cases h
 rename_i d
 split at h
 .cases h
 rename_i e
 split at h
 .cases h
 split at h
 .cases h
 split at h
 .rename_i k
  simp only[not_or,not_and]at d e;refine⟨by omega,by omega,?_,by omega,by omega⟩
  grind[plain_len,reserved_len]
 cases h
theorem fields {c:Con} (h:c.fine):Fields c:=fields_of ((fine_iff c).1 h).1
theorem text_len:∀ (m:Nat) (c:Con),c.sz<=m->c.ok->c.fine->c.text.length+10<=100*c.sz
 | 0,c,h=>by grind[sz_pos]
 | m+1,c,h=>λd u=>by
   have F:=fields u;have H:=c.sz_pos
   have k:∀ p∈c.parts,p.operand.length+8<=100*p.sz:=λp o=>by
     have:=text_len m p (by have:=sz_part o;omega) (ok_part d o) (fine_part u o)
     grind[operand]
   have v:(c.parts.map λp=>p.operand.length+5).sum<=100*(c.sz - 1):=by
     have key:∀ ps:List Con,(∀ p∈ps,p.operand.length+8<=100*p.sz)->(ps.map λp=>p.operand.length+5).sum<=100*sz.szs ps:=by
       intro ps
       induction ps<;>grind[sz.szs]
     have:=key c.parts k;cases c<;>grind[sz,parts]
   rw[text_eq];have A:(Lib.itoa c.lo).length<=21:=by cases c;exact Lib.itoa_length_le _ d.2.2.2.1 d.2.2.2.2.1
   have E:(Lib.itoa c.hi).length<=21:=by cases c;exact Lib.itoa_length_le _ d.2.2.2.2.2.1 d.2.2.2.2.2.2.1
   have B:=F.nm
   split
   . simp;omega
   . split
     . simp;omega
     . split
       . omega
       . split
         . simp;omega
         . split
           . have:=jJ_ [32,97,110,100,32] (c.parts.map operand)
             simp only[ydg_,yap_,yaw_]at this;have e:(c.parts.map ((λx:Str=>x.length+(0+1+1+1+1+1)) ∘ operand)).sum=(c.parts.map λp=>p.operand.length+5).sum:=rfl
             grind
           . split
             . rename_i G
               have C:1<=c.parts.length:=by have:=F.le;grind[nd,dC_]
               obtain⟨p,ps,y⟩:=ybt_ C
               grind[jJ_]
             grind[jJ_]
theorem sx_:∀ (m:Nat) (c:Con),c.sz<=m->∀ d n,(c.fits d n).1=true->(c.fits d n).2=n+c.sz
 | 0,c,h=>by grind[sz_pos]
 | m+1,c,h=>λd n e=>by
   rw[fits_eq]at e ⊢
   split at e
   . cases e
   . rename_i u
     rw[yam_ u]
     have key:∀ ps:List Con,(∀ p∈ps,p.sz<=m)->∀ n,(fits.fitss ps (d+1) n).1=true->(fits.fitss ps (d+1) n).2=n+sz.szs ps:=by
       intro ps
       induction ps with
       | nil=>grind[fits.fitss,sz.szs]
       | cons p ps ih =>
         intro k n e;simp only[fits.fitss]at e ⊢
         split at e
         . rename_i q o
           have v:=sx_ m p (k p zak_) (d+1) n (by rw[o])
           grind[sz.szs]
         . cases e
     have:=key c.parts (λp k=>by have:=sz_part k;omega) (n+1) e;rw[this];cases c<;>grind[sz,parts]
theorem check_zero {c:Con} (h:c.check=0):c.fine/\c.sz<=64:=by
 unfold check at h
 split at h
 .rename_i d
  have e:=sx_ _ c (yab_ _) 0 0 d;have k:=sy_ _ c (yab_ _) 0 0 d;exact⟨h,by omega⟩
 cases h
def textN (c:Con):Str:=if c.check=0 then c.text else []
theorem textN_len {c:Con} (d:c.ok):c.textN.length<=6400:=by
 unfold textN
 split
 .rename_i h
  obtain⟨e,k⟩:=check_zero h;have:=text_len _ c (yab_ _) d e;omega
 simp
def operandN (c:Con):Str:=if c.kind=5 then [40]++c.textN++[41] else c.textN
def atom (c:Con):Str :=
  if c.kind=1 then [42] else if c.kind=2 then [33] else if c.kind=3 then c.name else if c.kind=4 then [123]++c.name++[125] else [60]++c.textN++[62]
end Con
theorem qF_ {cur:Array Value} {n:Nat} {xs:List Str} (h:cur.toList.take (n*1)=xs.flatMap V_):∀ (j:Nat) (x:Str),xs[j]? = some x->cur[j]? = some (str x):=by
  intro j x d;have e:=t_ au_ d 0 (str x) rfl
  grind
theorem wc_ (xs:List Str):∀ (j:Nat) (x:Str),xs[j]? = some x->(xs.map str).toArray[j]? = some (str x):=by
  grind
end Go.Vs
namespace Go.Sx
open Go
section
variable {P:Program}
theorem wS_ {d:Nat} {xs ys:Array Value} (w:World):(Op.eqFields d xs ys []).run P w=.ok true w:=by simp[Op.eqFields]
theorem es_ {d : Nat} {xs ys : Array Value} {f : Field} {h : List Field} {a b : Value} {r s : Bool} {w : World} (y : (f.name == "_") = false) (o : ∀ w, (isAgg f.type).run P w = .ok false w) (v : xs[f.offset]? = some a) (k : ys[f.offset]? = some b)
    (u:(Op.equalIn d f.type a b).run P w=.ok r w) (x:(Op.eqFields d xs ys h).run P w=.ok s w):(Op.eqFields d xs ys (f::h)).run P w=.ok (r&&s) w:=by
  have e : f.name ≠ "_" := by grind
  simp only[Op.eqFields,e,ne_eq,not_false_eq_true,ycu_,part,Sem.run_bind,o,Result.andThen_ok,ybs_,ycm_,v,k,Sem.run_pure,u];cases r
  . simp
  grind
theorem eqI {d:Nat} {t:TypeId} {k:IntKind} {a b:Int} (h:P.underlying t=some (.int k)) (w:World):(Op.equalIn (d+1) t (.int k a) (.int k b)).run P w=.ok (a==b) w:=by grind[run_equalIn_int]
theorem eqS {d:Nat} {t:TypeId} {a b:List UInt8} (h:P.underlying t=some .string) (w:World):(Op.equalIn (d+1) t (str a) (str b)).run P w=.ok (a==b) w:=by
  have:=run_equalIn_string w d t ⟨a.toArray⟩ ⟨b.toArray⟩ h;simp only[ByteArray.toList_eq]at this;exact this
theorem ckF {e : Bool} {n : Nat} {t : TypeId} {k : Array Field} {xs : Array Value} {w : World} (x : P.underlying t = some (.struct k)) (h : ∀ f ∈ k.toList, (f.name == "_") = false/\(∀ w, (isAgg f.type).run P w = .ok false w)/\∃ a, xs[f.offset]? = some a/\(∀ w, (Instr.checkKey e n f.type a).run P w = .ok () w)) :
    (Instr.checkKey e (n+1) t (.agg xs)).run P w=.ok () w:=by
  simp only[Instr.checkKey,Sem.run_bind,run_underlying x,Result.andThen_ok];rw[<-Array.forIn_toList];generalize k.toList=l at h
  induction l with
  | nil=>simp
  | cons f l ih =>
    obtain⟨A,o,a,y,u⟩:=h f (by simp);have d : f.name ≠ "_" := by grind
    simp only[List.forIn_cons,d,ne_eq,not_false_eq_true,ycu_,part,Sem.run_bind,o,Result.andThen_ok,ybs_,ycm_,y,Sem.run_pure,u];exact ih λg v=>h g (by simp[v])
theorem mj_ {α:Type} [DecidableEq α] {k:TypeId} {A:Array Field} {val:α->Value} (y:P.underlying k=some (.struct A)) (d:∀ p q w,(Op.equal k (val p) (val q)).run P w=.ok (decide (p=q)) w) (p:α) :
    ∀ (l:List α) (es:List MapEntry) (i:Nat),es.map (·.key)=l.map val->(p ∉ l->∀ w,(Instr.findAsking k (val p) es i).run P w=.ok none w)/\(p∈l->(∀ x∈es,x.val=.bool true)->∃ j,∀ w,(Instr.findAsking k (val p) es i).run P w=.ok (some (j,.bool true)) w)
  | [],es,i,h=>by
    have:es=[]:=by simpa using h
    subst this;simp[Instr.findAsking]
  | q::l,[],i,h=>by simp at h
  | q::l,e::es,i,h=>by
    simp only[yaE_,ybv_]at h;have C:=mj_ y d p l es (i+1) h.2
    by_cases o:p=q
    . subst o
      refine⟨λv=>absurd yaq_ v,λ_ u=>⟨i,λw=>?_⟩⟩;simp only[Instr.findAsking,Sem.run_bind,h.1,d,Result.andThen_ok,decide_true,ycu_,Sem.run_pure,u e zak_]
    . refine⟨λv w=>?_,λhm u=>?_⟩
      . grind[Instr.findAsking,Sem.run_bind,Result.andThen_ok]
      . obtain⟨j,E⟩:=C.2 zap_ λx B=>u x (by simp[B])
        refine⟨j,λw=>?_⟩
        grind[Instr.findAsking,Sem.run_bind,Result.andThen_ok]
theorem iw_ {α:Type} [DecidableEq α] {k:TypeId} {v:Array Field} {val:α->Value} (o:P.underlying k=some (.struct v)) (u:∀ p q w,(Op.equal k (val p) (val q)).run P w=.ok (decide (p=q)) w) (p:α) (l:List α) (es:List MapEntry) (h:es.map (·.key)=l.map val) :
    (p ∉ l->ek_ P k (val p) es none)/\(p∈l->(∀ x∈es,x.val=.bool true)->∃ j,ek_ P k (val p) es (some (j,.bool true))):=by
  have B:=mj_ o u p l es 0 h;have d:∀ (e:MapEntry) (r:List MapEntry),Instr.findNow (.struct v) (val p) (e::r) 0=none:=λe r=>by grind[Instr.findNow,Instr.sameNow]
  cases es with
  | nil =>
    have:l=[]:=by simpa using h.symm
    subst this;exact⟨λ_ w=>by simp[Instr.findKey,run_underlying o,Instr.findNow],λh=>by simp at h⟩
  | cons e r =>
    refine⟨λC w=>?_,λhm y=>?_⟩
    . simp only[Instr.findKey,Sem.run_bind,run_underlying o,Result.andThen_ok,d]
      grind
    . obtain⟨j,A⟩:=B.2 hm y
      refine⟨j,λw=>?_⟩;simp only[Instr.findKey,Sem.run_bind,run_underlying o,Result.andThen_ok,d];exact A w
end
end Go.Sx
namespace Go.Vs
open Go Go.Sx
structure Pc where
  kind:Int
  a:Str
  b:Str
  c:Str
  r:Str
  s:Str
  t:Str
  lo:Int
  hi:Int
  frm:Int
  deriving DecidableEq
namespace Pc
def cells (p:Pc):List Value:=[.int .i64 p.kind,str p.a,str p.b,str p.c,str p.r,str p.s,str p.t,.int .i64 p.lo,.int .i64 p.hi,.int .i64 p.frm]
def val (p:Pc):Value:=.agg p.cells.toArray
theorem cells_len (p:Pc):p.cells.length=10:=rfl
theorem cells_one (p:Pc):p.cells.all Value.oneCell'=true:=rfl
def eqb (p q:Pc):Bool:=(p.kind==q.kind)&&((p.a==q.a)&&((p.b==q.b)&&((p.c==q.c)&&((p.r==q.r)&&((p.s==q.s)&&((p.t==q.t)&&((p.lo==q.lo)&&((p.hi==q.hi)&&((p.frm==q.frm)&&true)))))))))
theorem eqb_eq (p q:Pc):p.eqb q=decide (p=q):=by
  rw[ybu_];cases p;cases q;simp[eqb]
end Pc
def ins (frm:Int) (l:List Pc) (p:Pc):List Pc:=if { p with frm:=frm }∈l then l else l++[{ p with frm:=frm }]
theorem cX_ (frm:Int) (l:List Pc) (p:Pc):(ins frm l p).length<=l.length+1:=by grind[ins]
structure Fc where
  kind:Int
  a:Str
  b:Str
  r:Str
  lo:Int
  hi:Int
  deriving DecidableEq
namespace Fc
def cells (p:Fc):List Value:=[.int .i64 p.kind,str p.a,str p.b,str p.r,.int .i64 p.lo,.int .i64 p.hi]
def val (p:Fc):Value:=.agg p.cells.toArray
end Fc
end Go.Vs
namespace Go.Sx
open Go
theorem aD_ {P:Program} {N:Nf} {fr:Fr} {H:Hp} {Γ:List Fct} {d:Op} {ty:TypeId} {x y:Value} (h:Yld P N fr H Γ d ty x) (e:x=y):Yld P N fr H Γ d ty y:=e▸h
theorem wL_ {α:Type} (f:α->List Value) (n:Nat) (d:∀ x,(f x).length=n):∀ (l:List α) (i:Nat),(l.flatMap f).drop (i*n)=(l.drop i).flatMap f
  | l,0=>by simp
  | [],i+1=>by simp
  | x::l,i+1=>by
    simp only[yaR_,ycs_];rw[<-wL_ f n d l i,List.drop_append,d,yaO_ zap_,ycQ_]
    grind
theorem oH_ {α:Type} (f:α->List Value) (n:Nat) (d:∀ x,(f x).length=n):∀ (l:List α) (i:Nat),(l.flatMap f).take (i*n)=(l.take i).flatMap f
  | l,0=>by simp
  | [],i+1=>by simp
  | x::l,i+1=>by
    simp only[yaR_,ycb_];rw[<-oH_ f n d l i,ydc_,d,yac_ zap_]
    grind
theorem bW_.slice {α:Type} {f:α->List Value} {n:Nat} (d:∀ x,(f x).length=n) {v:Vw} {ad:Ao} {l:List α} {cap:Nat} (h:bW_ v ad (l.flatMap f)) (o:l.length<=cap) (i k:Nat):bW_ v (Sx.sad ad cap i n) (((l.drop i).take k).flatMap f):=by
  refine h.sad _ (λj x e=>?_) (by rw[bV_ f n d];exact ybc_ _ o);rw[<-oH_ f n d,<-wL_ f n d,ybM_]at e
  grind
end Go.Sx
namespace Go.Vs
open Go Go.Sx
namespace Con
def pre (c:Con) (j:Nat):Con:=.mk 5 [] 0 0 (sad c.ad c.cap 0 5) (c.cap - 0) (c.parts.take j)
theorem pre_mem {c:Con} (d:c.ok) {v:Vw} (h:c.mem v) (j:Nat):(c.pre j).mem v:=by
  rw[mem_iff]at h ⊢;refine⟨?_,λp e=>h.2 p (yaS_ e)⟩;have:=h.1.slice cells_len (ok_len d).1 0 j;exact this
theorem pre_ok {c:Con} (d:c.ok) (j:Nat):(c.pre j).ok:=by
  have h:=ok_len d;refine⟨by decide,by decide,by simp,by decide,by decide,by decide,by decide,?_,?_,oks_iff.2 λp e=>ok_part d (yaS_ e)⟩
  all_goals grind
def andP (frm:Int) (c:Con):List Con->Nat->Str->List Pc->List Pc
  | [],_,_,l=>l
  | p::r,j,f,l=>andP frm c r (j+1) (c.pre (j+1)).atom (ins frm l ⟨2,f,p.atom,(c.pre (j+1)).atom,[],[],[],0,0,0⟩)
theorem uF_ (frm:Int) (c:Con):∀ (r:List Con) (j:Nat) (f:Str) (l:List Pc),(andP frm c r j f l).length<=l.length+r.length
  | [],_,_,l=>by simp[andP]
  | p::r,j,f,l=>by
    have d:=uF_ frm c r (j+1) (c.pre (j+1)).atom (ins frm l ⟨2,f,p.atom,(c.pre (j+1)).atom,[],[],[],0,0,0⟩)
    grind[cX_,andP]
def leftP (frm:Int):Con->List Pc->List Pc
  | c@(mk k nm lo hi _ _ ps),l =>
    if k=5 then andP frm c (ps.drop 1) 1 ((ps.map atom).headD []) (lefts frm ps l)
    else if k=6 then ins frm (lefts frm ps l) ⟨4,(ps.map atom).headD [],[],c.atom,nm,[],[],0,0,0⟩
    else if k=7 then ins frm l ⟨9,[],[],c.atom,nm,[],[],lo,hi,0⟩
    else l
where lefts (frm:Int):List Con->List Pc->List Pc
  | [],l=>l
  | p::ps,l=>lefts frm ps (leftP frm p l)
theorem leftP_eq (frm:Int) (c:Con) (l:List Pc):c.leftP frm l =
    if c.kind=5 then andP frm c (c.parts.drop 1) 1 ((c.parts.map atom).headD []) (leftP.lefts frm c.parts l)
    else if c.kind=6 then ins frm (leftP.lefts frm c.parts l) ⟨4,(c.parts.map atom).headD [],[],c.atom,c.name,[],[],0,0,0⟩
    else if c.kind=7 then ins frm l ⟨9,[],[],c.atom,c.name,[],[],c.lo,c.hi,0⟩
    else l:=by cases c;simp only[leftP];rfl
theorem mf_ (frm:Int):∀ (xs ys:List Con) (l:List Pc),leftP.lefts frm (xs++ys) l=leftP.lefts frm ys (leftP.lefts frm xs l)
  | [],_,_=>rfl
  | x::xs,ys,l=>by simp only[yaL_,leftP.lefts];exact mf_ frm xs ys _
theorem lefts_step (frm:Int) {ps:List Con} {p:Con} {i:Nat} (d:ps[i]? = some p) (l:List Pc):leftP.lefts frm (ps.take (i+1)) l=p.leftP frm (leftP.lefts frm (ps.take i) l):=by
  rw[take_snoc d,mf_];rfl
theorem szs_len:∀ ps:List Con,ps.length<=sz.szs ps
  | []=>by grind
  | p::ps=>by have:=szs_len ps;grind[sz_pos,sz.szs]
theorem leftP_len (frm:Int):∀ (m:Nat) (c:Con),c.sz<=m->∀ l,(c.leftP frm l).length+2<=l.length+2*c.sz+0+1
  | 0,c,h=>by grind[sz_pos]
  | m+1,c,h=>λl=>by
    have key:∀ ps:List Con,(∀ p∈ps,p.sz<=m)->∀ l,(leftP.lefts frm ps l).length+ps.length<=l.length+2*sz.szs ps:=by
      intro ps
      induction ps with
      | nil=>grind[leftP.lefts]
      | cons p ps ih =>
        intro d l;have o:=leftP_len frm m p (d p zak_) l
        grind[leftP.lefts,sz.szs]
    have k:=key c.parts (λp d=>by have:=sz_part d;omega) l;have e:c.sz=1+sz.szs c.parts:=by cases c;grind[sz,parts]
    grind[leftP_eq,uF_,cX_]
def rightP (frm:Int):Con->List Pc->List Pc
  | c@(mk k nm lo hi _ _ ps),l =>
    if k=5 then rights frm c.atom ps l
    else if k=6 then righty frm ps (ins frm l ⟨3,c.atom,[],(ps.map atom).headD [],nm,[],[],0,0,0⟩)
    else if k=7 then ins frm l ⟨8,c.atom,[],[],nm,[],[],lo,hi,0⟩
    else l
where
  rights (frm:Int) (a:Str):List Con->List Pc->List Pc
  | [],l=>l
  | p::ps,l=>rights frm a ps (rightP frm p (ins frm l ⟨1,a,[],p.atom,[],[],[],0,0,0⟩))
  righty (frm:Int):List Con->List Pc->List Pc
  | [],l=>l
  | p::ps,l=>righty frm ps (rightP frm p l)
theorem rightP_eq (frm:Int) (c:Con) (l:List Pc):c.rightP frm l =
    if c.kind=5 then rightP.rights frm c.atom c.parts l
    else if c.kind=6 then rightP.righty frm c.parts (ins frm l ⟨3,c.atom,[],(c.parts.map atom).headD [],c.name,[],[],0,0,0⟩)
    else if c.kind=7 then ins frm l ⟨8,c.atom,[],[],c.name,[],[],c.lo,c.hi,0⟩
    else l:=by cases c;simp only[rightP];rfl
theorem kA_ (frm:Int) (a:Str):∀ (xs ys:List Con) (l:List Pc),rightP.rights frm a (xs++ys) l=rightP.rights frm a ys (rightP.rights frm a xs l)
  | [],_,_=>rfl
  | x::xs,ys,l=>by simp only[yaL_,rightP.rights];exact kA_ frm a xs ys _
theorem rights_step (frm:Int) (a:Str) {ps:List Con} {p:Con} {i:Nat} (d:ps[i]? = some p) (l:List Pc):rightP.rights frm a (ps.take (i+1)) l=p.rightP frm (ins frm (rightP.rights frm a (ps.take i) l) ⟨1,a,[],p.atom,[],[],[],0,0,0⟩):=by
  rw[take_snoc d,kA_];rfl
theorem rightP_len (frm:Int):∀ (m:Nat) (c:Con),c.sz<=m->∀ l,(c.rightP frm l).length+1<=l.length+2*c.sz
  | 0,c,h=>by grind[sz_pos]
  | m+1,c,h=>λl=>by
    have key:∀ ps:List Con,(∀ p∈ps,p.sz<=m)->∀ a l,(rightP.rights frm a ps l).length<=l.length+2*sz.szs ps:=by
      intro ps
      induction ps with
      | nil=>grind[rightP.rights]
      | cons p ps ih =>
        intro d a l;have v:=cX_ frm l ⟨1,a,[],p.atom,[],[],[],0,0,0⟩;have o:=rightP_len frm m p (d p zak_) (ins frm l ⟨1,a,[],p.atom,[],[],[],0,0,0⟩)
        grind[rightP.rights,sz.szs]
    have e:∀ ps:List Con,(∀ p∈ps,p.sz<=m)->∀ l,(rightP.righty frm ps l).length<=l.length+2*sz.szs ps:=by
      intro ps
      induction ps with
      | nil=>grind[rightP.righty]
      | cons p ps ih =>
        intro d l;have o:=rightP_len frm m p (d p zak_) l
        grind[rightP.righty,sz.szs]
    have k:∀ p∈c.parts,p.sz<=m:=λp d=>by have:=sz_part d;omega
    have u:c.sz=1+sz.szs c.parts:=by cases c;grind[sz,parts]
    grind[rightP_eq,ins]
end Con
end Go.Vs
namespace Go.Sx
open Go
theorem bW_.rest {α:Type} {f:α->List Value} {n:Nat} (d:∀ x,(f x).length=n) {v:Vw} {ad:Ao} {l:List α} {cap:Nat} (h:bW_ v ad (l.flatMap f)) (e:l.length<=cap) (i:Nat):bW_ v (Sx.sad ad cap i n) ((l.drop i).flatMap f):=by
  have:=h.slice d e i l.length
  grind[List.take_of_length_le]
theorem fd_ {α:Type} {l:List α} {x:α} {i:Nat} (d:l[i]? = some x):l.drop i=x::l.drop (i+1):=by
  grind[List.drop_eq_getElem_cons]
theorem hQ_ {α:Type} {l:List α} {x d:α} (e:l[0]? = some x):l.headD d=x:=by cases l<;>simp_all
end Go.Sx
namespace Go.Vs
open Go Go.Sx
namespace Ax
def chainP (frm:Int) (role:Str):List Str->Str->List Pc->List Pc
  | [],_,l=>l
  | r::t,f,l =>
    let all:=if t=[] then role else f++[46]++r
    chainP frm role t all (ins frm l ⟨6,[],[],[],f,r,all,0,0,0⟩)
def pieces (frm:Int) (x:Ax):List Pc :=
  if x.kind=1 then ins frm (x.right.rightP frm (x.left.leftP frm [])) ⟨1,x.left.atom,[],x.right.atom,[],[],[],0,0,0⟩
  else if x.kind=2 then
    ins frm (x.left.rightP frm (x.right.leftP frm (ins frm (x.right.rightP frm (x.left.leftP frm [])) ⟨1,x.left.atom,[],x.right.atom,[],[],[],0,0,0⟩))) ⟨1,x.right.atom,[],x.left.atom,[],[],[],0,0,0⟩
  else if x.kind=3 then ins frm (x.right.leftP frm (x.left.leftP frm [])) ⟨2,x.left.atom,x.right.atom,[33],[],[],[],0,0,0⟩
  else if x.kind=4 then ins frm (x.right.rightP frm []) ⟨4,[42],[],x.right.atom,x.role,[],[],0,0,0⟩
  else if x.kind=5 then ins frm [] ⟨5,[],[],[],x.roles.headD [],[],x.role,0,0,0⟩
  else if x.kind=6 then chainP frm x.role (x.roles.drop 1) (x.roles.headD []) []
  else if x.kind=7 then ins frm [] ⟨7,[],[],[],x.role,[],[],0,0,0⟩
  else if x.kind=8 then ins frm (x.right.rightP frm []) ⟨1,[123]++x.a++[125],[],x.right.atom,[],[],[],0,0,0⟩
  else ins frm [] ⟨3,[123]++x.a++[125],[],[123]++x.b++[125],x.role,[],[],0,0,0⟩
structure Good (x:Ax):Prop where
  k1:1<=x.kind
  k9:x.kind<=9
  left:x.kind<=3->x.left.check=0
  right:x.kind<=4\/x.kind=8->x.right.check=0
  role:x.kind=4\/x.kind=5\/x.kind=6\/x.kind=7\/x.kind=9->bO_ x.role=true
  roles:∀ r∈x.roles,bO_ r=true
  one:x.kind=5->x.roles.length=1
  chain:x.kind=6->2<=x.roles.length/\x.roles.length<=4
  a:x.kind=8\/x.kind=9->bk_ x.a=true
  b:x.kind=9->bk_ x.b=true
theorem good_of {x:Ax} (h:x.check=0):Good x:=by
 unfold check at h
 split at h
 .cases h
 rename_i d
 split at h
 .cases h
 rename_i k
 split at h
 .grind
 rename_i y
 split at h
 .grind
 rename_i u
 clear h;simp only[ycW_]at d k
 have A:1<=x.kind/\x.kind<=9:=by
   grind[shaped]
 have o:x.kind=1\/x.kind=2\/x.kind=3\/x.kind=4\/x.kind=5\/x.kind=6\/x.kind=7\/x.kind=8\/x.kind=9:=by omega
 unfold shaped at d;rw[yam_ zaa_]at d
 have v:∀ r∈x.roles,bO_ r=true:=by
   grind[namedU]
 unfold namedU at k
 rcases o with e|e|e|e|e|e|e|e|e<;>simp[us,kQ_,e]at d k y u <;>
   refine⟨by omega,by omega,λ_=>?_,λ_=>?_,λ_=>?_,v,λ_=>?_,λ_=>?_,λ_=>?_,λ_=>?_⟩ <;>
   first|omega|assumption|exact k.1|grind|grind|grind|(exact⟨by omega,by omega⟩)
end Ax
def Clw {α:Type} (E:α->α->Bool->Prop) (n:Nat) (f:Nat->α) (c:Nat->Bool):Prop :=
  0<n/\f n=f 0/\(∀ m,m<n->E (f m) (f (m+1)) (c m))/\∃ m,m<n/\c m=true
def Clo {α:Type} (E:α->α->Bool->Prop) (n:Nat):Prop:=∃ (f:Nat->α) (c:Nat->Bool),Clw E n f c
theorem tT_ {p:Nat->Prop} {n:Nat} (h:p n):∃ m,p m/\m<=n/\∀ k,p k->m<=k:=by
  induction n using Nat.strongRecOn<;>grind
theorem Clw.inj {α:Type} {E:α->α->Bool->Prop} {n:Nat} {f:Nat->α} {c:Nat->Bool} (h:Clw E n f c) (hm:∀ k,Clo E k->n<=k):∀ a b,a<b->b<n->f a≠f b:=by
 intro a b u v e;obtain⟨_,y,hE,d,x,B⟩:=h
 by_cases g:a<=d/\d<b
 .have:=hm (b - a) ⟨λm=>f (a+m),λm=>c (a+m),by omega,by grind,λm o=>by
    grind,d - a,by omega,by grind⟩
  omega
 have:=hm (n - (b - a)) ⟨λm=>if m<a then f m else f (m+(b - a)),λm=>if m<a then c m else c (m+(b - a)),by omega,?_,?_,?_⟩
 .omega
 .grind
 .grind
 by_cases A:d<a
 .grind
 exact⟨d - (b - a),by omega,by grind⟩
def sig (c:Nat->Bool):Nat->Bool
  | 0=>false
  | n+1=>sig c n||c n
theorem jv_ {c:Nat->Bool}:∀ {n:Nat},sig c n=true↔∃ m,m<n/\c m=true
  | 0=>by simp[sig]
  | n+1=>by
    simp only[sig,ybj_,jv_ (n:=n)]
    grind
theorem mz_ {c d:Nat->Bool}:∀ {n:Nat},(∀ m,m<n->c m=d m)->sig c n=sig d n
  | 0,_=>rfl
  | n+1,h=>by simp only[sig];rw[mz_ (n:=n) λm hm=>h m zaa_,h n zaa_]
def Wlk {α:Type} (E:α->α->Bool->Prop) (x y:α) (b:Bool) (n:Nat):Prop :=
  ∃ (f:Nat->α) (c:Nat->Bool),f 0=x/\f n=y/\(∀ m,m<n->E (f m) (f (m+1)) (c m))/\sig c n=b
theorem Wlk.nil {α:Type} {E:α->α->Bool->Prop} (x:α):Wlk E x x false 0:=⟨λ_=>x,λ_=>false,rfl,rfl,λm h=>absurd h zaa_,rfl⟩
theorem Wlk.snoc {α:Type} {E:α->α->Bool->Prop} {x y z:α} {b d:Bool} {n:Nat} (h:Wlk E x y b n) (e:E y z d):Wlk E x z (b||d) (n+1):=by
  obtain⟨f,c,u,k,v,o⟩:=h;refine⟨λm=>if m<=n then f m else z,λm=>if m<n then c m else d,?_,?_,?_,?_⟩
  all_goals grind[sig,mz_]
theorem Wlk.clo {α:Type} {E:α->α->Bool->Prop} {x:α} {n:Nat} (h:Wlk E x x true n):Clo E n:=by
  obtain⟨f,c,k,d,o,e⟩:=h;obtain⟨m,hm,u⟩:=jv_.1 e;exact⟨f,c,by omega,by rw[k,d],o,m,hm,u⟩
theorem Clw.subst {α:Type} {E:α->α->Bool->Prop} {n j:Nat} {f:Nat->α} {c:Nat->Bool} (h:Clw E n f c) (A:j<n) {g:Nat->α} {d:Nat->Bool} (x:g 0=f 0) (B:g j=f j) (hE:∀ m,m<j->E (g m) (g (m+1)) (d m)) (y:sig d j=sig c j) :
    Clw E n (λm=>if m<=j then g m else f m) (λm=>if m<j then d m else c m):=by
  obtain⟨o,e,k,v,u,C⟩:=h;refine⟨o,?_,λm hm=>?_,?_⟩
  all_goals grind[jv_]
structure Wy where
  role:Nat
  strict:Bool
  before:Nat
  many:Nat
def gE (G:List (List (Nat×Bool))) (i j:Nat) (c:Bool):Prop:=∃ l,G[i]? = some l/\(j,c)∈l
def pK_ (W:List Wy) (r:Nat) (b:Bool):Bool:=W.any λw=>w.role==r&&w.strict==b
theorem rq_ {W:List Wy} {r:Nat} {b:Bool}:pK_ W r b=true↔∃ w∈W,w.role=r/\w.strict=b:=by
  grind[pK_]
def Dn (start:Nat) (W:List Wy) (w:Wy) (s:Nat×Bool):Prop :=
  ¬(s.1=start/\(w.strict||s.2)=true)/\∃ w'∈W,w'.role=s.1/\w'.strict=(w.strict||s.2)/\w'.many<=w.many+1
theorem Dn.mono {start:Nat} {W V:List Wy} {w:Wy} {s:Nat×Bool} (h:Dn start W w s) (o:∀ x∈W,x∈V):Dn start V w s:=by
  obtain⟨e,w',d,k⟩:=h;exact⟨e,w',o _ d,k⟩
structure BI (G:List (List (Nat×Bool))) (start:Nat) (W:List Wy) (a k:Nat):Prop where
  z:W[0]? = some ⟨start,false,0,0⟩
  role:∀ (i:Nat) (w:Wy),W[i]? = some w->w.role<G.length
  bef:∀ (i:Nat) (w:Wy),W[i]? = some w->0<i->w.before<i
  wlk:∀ (i:Nat) (w:Wy),W[i]? = some w->Wlk (gE G) start w.role w.strict w.many
  mono:∀ (i j:Nat) (w x:Wy),i<=j->W[i]? = some w->W[j]? = some x->w.many<=x.many
  top:∀ (j:Nat) (w x:Wy),W[a]? = some w->W[j]? = some x->x.many<=w.many+1
  done:∀ (i:Nat) (w:Wy) (l:List (Nat×Bool)),i<a->W[i]? = some w->G[w.role]? = some l->∀ s∈l,Dn start W w s
  cur:∀ (w:Wy) (l:List (Nat×Bool)),W[a]? = some w->G[w.role]? = some l->∀ s∈l.take k,Dn start W w s
  nd:∀ (i j:Nat) (w x:Wy),i<j->W[i]? = some w->W[j]? = some x->¬(w.role=x.role/\w.strict=x.strict)
  many:∀ (i:Nat) (w:Wy),W[i]? = some w->w.many<=i
theorem BI.init {G:List (List (Nat×Bool))} {start:Nat} (h:start<G.length):BI G start [⟨start,false,0,0⟩] 0 0:=by
  have key:∀ (i:Nat) (w:Wy),[(⟨start,false,0,0⟩:Wy)][i]? = some w->i=0/\w=⟨start,false,0,0⟩:=λi w d=>by
    grind
  refine⟨rfl,λi w d=>?_,λi w d hi=>?_,λi w d=>?_,λi j w x _ d e=>?_,λj w x d e=>?_,λi w l hi=>by omega,λw l _ _ s k=>by simp at k,λi j w x o d e=>?_,λi w d=>?_⟩
  all_goals grind[Wlk.nil]
theorem BI.found {G:List (List (Nat×Bool))} {start a k:Nat} {W:List Wy} (h:BI G start W a k) {w:Wy} {l:List (Nat×Bool)} {s:Nat×Bool} (e:W[a]? = some w) (hl:G[w.role]? = some l) (o:l[k]? = some s) (v:s.1=start) (u:(w.strict||s.2)=true):Clo (gE G) (w.many+1):=by
  have:=(h.wlk a w e).snoc (z:=s.1) (d:=s.2) ⟨l,hl,yad_ o⟩
  grind[Wlk.clo]
theorem oZ_ {α:Type} {l:List α} {k:Nat} {x:α} (h:l[k]? = some x):l.take (k+1)=l.take k++[x]:=by grind[List.take_add_one]
theorem BI.skip {G:List (List (Nat×Bool))} {start a k:Nat} {W:List Wy} (h:BI G start W a k) {w:Wy} {l:List (Nat×Bool)} {s:Nat×Bool} (u:W[a]? = some w) (hl:G[w.role]? = some l) (A:l[k]? = some s) (E:¬(s.1=start/\(w.strict||s.2)=true)) (x:pK_ W s.1 (w.strict||s.2)=true):BI G start W a (k+1):=by
 refine { h with cur:=λw' F d o v e=>?_ };rw[u]at d;simp only[yai_]at d;subst d;rw[hl]at o;simp only[yai_]at o;subst o;rw[oZ_ A,yaj_,yal_]at e;rcases e with e|rfl
 .exact h.cur w l u hl v e
 obtain⟨w',d,B,y⟩:=rq_.1 x;obtain⟨j,C⟩:=yaA_ d;exact⟨E,w',d,B,y,h.top j w w' u C⟩
theorem BI.push {G:List (List (Nat×Bool))} {start a k:Nat} {W:List Wy} (h:BI G start W a k) {w:Wy} {l:List (Nat×Bool)} {s:Nat×Bool} (A:W[a]? = some w) (hl:G[w.role]? = some l) (E:l[k]? = some s) (I:s.1<G.length) (H:¬(s.1=start/\(w.strict||s.2)=true)) (K:pK_ W s.1 (w.strict||s.2)=false):BI G start (W++[⟨s.1,w.strict||s.2,a,w.many+1⟩]) a (k+1):=by
 have J:a<W.length:=(yaf_.1 A).1
 have key:∀ (i:Nat) (x:Wy),(W++[(⟨s.1,w.strict||s.2,a,w.many+1⟩:Wy)])[i]? = some x->W[i]? = some x\/(i=W.length/\x=⟨s.1,w.strict||s.2,a,w.many+1⟩):=λi x d=>by
   grind
 have C:∀ x:Wy,(W++[(⟨s.1,w.strict||s.2,a,w.many+1⟩:Wy)])[a]? = some x->x=w:=λx d=>by
   grind
 have sub:∀ x∈W,x∈W++[(⟨s.1,w.strict||s.2,a,w.many+1⟩:Wy)]:=λx d=>yaG_ _ d
 refine⟨by grind[z],λi x d=>?_,λi x d hi=>?_,λi x d=>?_,λi j x y v d o=>?_,λj x y d o=>?_,λi x F hi d u B e=>?_,λx F d u B e=>?_,λi j x y v d o=>?_,λi x d=>?_⟩
 .rcases key i x d with d|⟨_,rfl⟩
  .exact h.role i x d
  exact I
 .rcases key i x d with d|⟨rfl,rfl⟩
  .exact h.bef i x d hi
  exact J
 .rcases key i x d with d|⟨_,rfl⟩
  .exact h.wlk i x d
  exact (h.wlk a w A).snoc ⟨l,hl,yad_ E⟩
 .rcases key j y o with o|⟨rfl,rfl⟩
  .rcases key i x d with d|⟨rfl,rfl⟩
   .exact h.mono i j x y v d o
   grind
  rcases key i x d with d|⟨rfl,rfl⟩
  .exact h.top i w x A d
  grind
 .obtain rfl:=C x d
  rcases key j y o with o|⟨rfl,rfl⟩
  .exact h.top j x y A o
  grind
 .rw[ybw_ zaa_]at d
  exact (h.done i x F hi d u B e).mono sub
 .obtain rfl:=C x d
  rw[hl]at u;simp only[yai_]at u;subst u;rw[oZ_ E,yaj_,yal_]at e;rcases e with e|rfl
  .exact (h.cur x l A hl B e).mono sub
  exact⟨H,⟨B.1,x.strict||B.2,a,x.many+1⟩,by simp,rfl,rfl,yab_ _⟩
 .rcases key i x d with d|⟨rfl,rfl⟩
  .rcases key j y o with o|⟨rfl,rfl⟩
   .exact h.nd i j x y v d o
   grind[rq_]
  grind
 rcases key i x d with d|⟨rfl,rfl⟩
 .exact h.many i x d
 have:=h.many a w A;grind
theorem BI.next {G:List (List (Nat×Bool))} {start a k:Nat} {W:List Wy} (h:BI G start W a k) {w:Wy} {l:List (Nat×Bool)} (u:W[a]? = some w) (hl:G[w.role]? = some l) (E:l.length<=k):BI G start W (a+1) 0:=by
 refine { h with top:=λj x y o B=>?_,done:=λi x A hi o d s v=>?_,cur:=λx A _ _ s v=>by simp at v }
 .have F:=h.top j w y u B
  have C:=h.mono a (a+1) w x zaa_ u o;omega
 by_cases e:i=a
 .subst e
  rw[u]at o;simp only[yai_]at o;subst o;rw[hl]at d;simp only[yai_]at d;subst d;exact h.cur w l u hl s (by grind[List.take_of_length_le])
 exact h.done i x A zaa_ o d s v
theorem BI.none {G:List (List (Nat×Bool))} {start a most:Nat} {W:List Wy} (h:BI G start W a 0) (k:∀ w:Wy,W[a]? = some w->most<=w.many+1) (V:∀ (i:Nat) (l:List (Nat×Bool)),G[i]? = some l->∀ s∈l,s.1<G.length)
    {n:Nat} {f:Nat->Nat} {c:Nat->Bool} (R:Clw (gE G) n f c) (K:f 0=start):most<=n:=by
  apply Nat.not_lt.1
  intro X;obtain⟨T,P,hE,U,J,F⟩:=R
  -- where a way with few steps stands,it is done
  have o:∀ (i:Nat) (w:Wy),W[i]? = some w->w.many+1<most->i<a:=λi w d hm=>by
    apply Nat.not_le.1
    intro A;have E:=(yaf_.1 d).1;obtain⟨x,C⟩:∃ x,W[a]? = some x:=⟨_,yaa_ (show a<W.length by omega)⟩;have I:=k x C;have S:=h.mono a i x w A C d;omega
  have e:∀ j,j<n->∃ (i:Nat) (w:Wy),W[i]? = some w/\w.role=f j/\w.strict=sig c j/\w.many<=j:=by
    intro j
    induction j with
    | zero=>intro _;exact⟨0,_,h.z,K.symm,rfl,yab_ _⟩
    | succ j ih =>
      intro Y;obtain⟨i,w,d,M,B,O⟩:=ih zaa_;obtain⟨l,hl,y⟩:=hE j zaa_;obtain⟨_,w',u,L,H,Z⟩:=h.done i w l (o i w d zaa_) d zap_ _ y;obtain⟨Q,v⟩:=yaA_ u;exact⟨Q,w',v,L,by rw[H,B];rfl,by omega⟩
  obtain⟨i,w,d,M,B,O⟩:=e (n - 1) zaa_;obtain⟨l,hl,y⟩:=hE (n - 1) zaa_;obtain⟨I,_⟩:=h.done i w l (o i w d zaa_) d zap_ _ y
  grind[jv_]
theorem BI.len {G:List (List (Nat×Bool))} {start a k:Nat} {W:List Wy} (h:BI G start W a k):W.length<=2*G.length:=by
  have u:(W.map λw=>2*w.role+w.strict.toNat).Nodup:=by
    unfold List.Nodup;rw[ybQ_,yaK_];intro i j hi B v e;refine h.nd i j _ _ v (yaa_ hi) (yaa_ B) ?_;generalize W[i]=x at e
    generalize W[j]=y at e
    obtain⟨r,b,_,_⟩:=x;obtain⟨q,d,_,_⟩:=y;cases b<;>cases d<;>simp only[Bool.toNat_false,Bool.toNat_true]at e ⊢<;>simp<;>omega
  have o:(W.map λw=>2*w.role+w.strict.toNat) ⊆ List.range (2*G.length):=by
    intro z C;obtain⟨w,A,rfl⟩:=yaM_.1 C;obtain⟨i,hi⟩:=yaA_ A;have:=h.role i w hi
    grind[Bool.toNat]
  have:=u.length_le_of_subset o
  grind
theorem Clw.short {G:List (List (Nat×Bool))} {n:Nat} {f:Nat->Nat} {c:Nat->Bool} (h:Clw (gE G) n f c) (hm:∀ k,Clo (gE G) k->n<=k):n<=G.length:=by
  have o:((List.range n).map f).Nodup:=by
    unfold List.Nodup;rw[ybQ_,yaK_];intro i j hi x u;simp only[List.getElem_range];exact h.inj hm i j u zap_
  have d:((List.range n).map f) ⊆ List.range G.length:=by
    intro z v;obtain⟨m,e,rfl⟩:=yaM_.1 v;obtain⟨l,hl,_⟩:=h.2.2.1 m (ycq_.1 e)
    grind
  have:=o.length_le_of_subset d
  grind
theorem AR_ {G:List (List (Nat×Bool))} (h:∀ (n:Nat) (f:Nat->Nat) (c:Nat->Bool),Clw (gE G) n f c->f 0<G.length->G.length+1<=n):∀ n,¬ Clo (gE G) n:=by
  intro n k;obtain⟨m,⟨f,c,e⟩,_,d⟩:=tT_ k;have o:=e.short d;obtain⟨l,hl,_⟩:=e.2.2.1 0 e.1
  grind
end Go.Vs
namespace Go.Sx
open Go
section
variable {P:Program} {N:Nf} {v0:Vw} {H0:Hp} {R:Exit->Act->World->Prop} {K:List Kt} {fr:Fr} {H:Hp} {Γ:List Fct}
variable {ops:Array Oper} {l:List Oper} {d:Nat} {ty:TypeId} {ps:String} {af:Array Edge}
theorem qv_ {t:TypeId} {x:Operand} {b n:Nat} (i:Nat) {T:TypeId} {fz:Nat×Nat} {us:List Value} (e:∀ w,(isAgg t).run P w=.ok true w) (h:∀ w,(sizeOf t).run P w=.ok n w) (o:us.length=n)
    (k:Fr.ev fr x=some (.pointer (some ⟨b,0,none⟩))) (hi:H[i]? = some (b,.cells us.toArray T fz)):Yld P N fr H Γ (.load t x) ty (.agg us.toArray) :=
  cx_ i e h k hi (by grind[tU_])
theorem pr_ {t:TypeId} {x y:Operand} {b n:Nat} (i:Nat) {cur:Array Value} {T:TypeId} {us:List Value} (h:∀ w,(sizeOf t).run P w=.ok n w) (v:us.length=n) (o:us.all Value.oneCell'=true)
    (k:Fr.ev fr x=some (.pointer (some ⟨b,0,none⟩))) (e:Fr.ev fr y=some (.agg us.toArray)) (hi:H[i]? = some (b,.cells cur T (0,0))) (u:cur.size=n)
    (A:Ops P R N v0 H0 ops l K fr (H.set i (b,.cells us.toArray T (0,0))) Γ) :
    Ops P R N v0 H0 ops (⟨none,.store t x y,ty,ps,af,none⟩::l) K fr H Γ:=by
  refine o_ i h k e hi (by grind[Value.cells]) (by simp[u]) o ?_
  grind[Value.cells,List.drop_of_length_le]
theorem yc_ {b k:Nat} {cur:Array Value} {T:TypeId} {fz:Nat×Nat} {cs:List Value} (i:Nat) (hi:H[i]? = some (b,.cells cur T fz)) (e:cur.toList.take k=cs):∀ v:Vw,v.sat H->aC_ Γ v->∀ j u,cs[j]? = some u->v.w.cell? ((⟨b,0,none⟩:Addr).add j)=some u:=by
  grind[da_,eZ_]
theorem dI_ {k:Act->World->Prop} {e:TypeId} {sz n:Nat} {sv:Value} {xs:List Value} {Hr F:Hp} (B:av_ e sz sv n xs Hr) (A:H.Perm (Hr++F))
    (h:∀ ad cap,sv=.slice ad n cap->n<=cap->cap<=maxLen->Ok N v0 H0 k fr F (O_ ad xs::Γ)):Ok N v0 H0 k fr H Γ:=by
  rcases B.2 with⟨y,o,u⟩|⟨g,cap,cur,y,o,u,J,O,L⟩
  . subst y o u
    have G:xs=[]:=yau_ (by simpa using B.1);refine s_ A (fC_ (Γ':=O_ none xs::Γ) (λv _ E=>⟨.inl G,E⟩) (h none 0 rfl (yab_ _) (yaV_ _)))
  . subst y o
    refine fW_ (O_ (some ⟨g,0,none⟩) xs) A (λv I C _=>.inr ⟨g,0,cur,e,(0,0),rfl,I,C,λj x M=>?_⟩) (h _ cap rfl u J)
    grind
end
end Go.Sx
namespace Go.Vs
open Go Go.Sx
theorem Con.one_cells (c:Con):c.cells.all Value.oneCell'=true:=sG_ c
theorem Ax.one_cells (x:Ax):x.cells.all Value.oneCell'=true:=by
  simp only[Ax.cells,ycj_,ydf_,Con.one_cells];rfl
def bA_ (ad:Ao) (l:List Ax):Fct where
  p:=λv=>bW_ v ad (l.flatMap Ax.cells)/\∀ x∈l,x.mem v
  mono:=λv v' h hp=>⟨(O_ ad _).mono v v' h hp.1,λx hx=>x.memF.mono v v' h (hp.2 x hx)⟩
theorem Aq_ (frm:Int) (l:List Pc) (p:Pc):ins frm l p≠[]:=by
 unfold ins
 split
 .grind
 simp
theorem Ax.chainP_ne (frm:Int) (k:Str):∀ (e:List Str) (f:Str) (l:List Pc),e≠[]\/l≠[]->Ax.chainP frm k e f l≠[]
  | [],f,l,h=>by rcases h with h|h;exact absurd rfl h;exact h
  | r::t,f,l,_=>by simp only[Ax.chainP];exact Ax.chainP_ne frm k t _ _ (.inr (Aq_ _ _ _))
theorem Ax.pieces_ne (frm:Int) {x:Ax} (G:x.Good):x.pieces frm≠[]:=by
  unfold Ax.pieces
  repeat' split
  all_goals first|exact Aq_ _ _ _|skip
  rename_i h
  have:=G.chain h;exact Ax.chainP_ne _ _ _ _ _ (.inl (by intro e;rw[ycM_]at e;omega))
def dv_:List Ax->Int
  | []=>0
  | x::l=>if x.check=0 then dv_ l else x.check
def gX_:Nat->List Ax->List Pc->Option (List Pc)
  | _,[],p=>some p
  | i,x::l,p=>if 16384<(p++x.pieces i).length then none else gX_ (i+1) l (p++x.pieces i)
def aX_ (l:List Ax):List Pc×Int :=
  if 1024<l.length then ([],2) else if dv_ l≠0 then ([],dv_ l) else match gX_ 0 l [] with|some p=>(p,0)|none=>([],2)
theorem iG_:∀ (xs ys:List Ax),(∀ x∈xs,x.check=0)->dv_ (xs++ys)=dv_ ys
  | [],_,_=>rfl
  | x::xs,ys,h=>by simp only[yaL_,dv_,h x zak_,ycu_];exact iG_ xs ys λy e=>h y zcb_
theorem ev_:∀ {l:List Ax},(∀ x∈l,x.check=0)->dv_ l=0
  | [],_=>rfl
  | x::l,h=>by simp only[dv_,h x zak_,ycu_];exact ev_ λy e=>h y zcb_
theorem hu_ {l:List Ax} {x:Ax} {i:Nat} (k:l[i]? = some x) (h:∀ y∈l.take i,y.check=0) (o:x.check≠0):dv_ l=x.check:=by
  have e:l=l.take i++x::l.drop (i+1):=by grind[fd_,List.take_append_drop]
  grind[iG_,dv_]
theorem im_ (frm:Int) {x:Ax} (G:x.Good):(x.pieces frm).length<=1000:=by
 have hl:x.kind<=3->x.left.sz<=64:=λh=>(Con.check_zero (G.left h)).2
 have u:x.kind<=4\/x.kind=8->x.right.sz<=64:=λh=>(Con.check_zero (G.right h)).2
 have y:∀ (k:Str) (e:List Str) (f:Str) (l:List Pc),(Ax.chainP frm k e f l).length<=l.length+e.length:=by
   intro k e
   induction e<;>grind[Ax.chainP,cX_]
 have L:=λ(c:Con) l=>Con.leftP_len frm _ c (yab_ _) l
 have A:=λ(c:Con) l=>Con.rightP_len frm _ c (yab_ _) l
 have v:([]:List Pc).length=0:=rfl;unfold Ax.pieces
 split
 .grind[cX_]
 split
 .grind[ins]
 split
 .grind[cX_]
 split
 .grind[cX_]
 split
 .grind[cX_]
 split
 .rename_i o
  have:=G.chain o
  grind
 grind[cX_]
def dM_ (c:UInt8):Str->List Str
  | []=>[[]]
  | b::s=>if b=c then []::dM_ c s else match dM_ c s with
    | h::t=>(b::h)::t
    | []=>[[b]]
theorem xt_ (c:UInt8):∀ s,dM_ c s≠[]
  | []=>by grind[dM_]
  | b::s=>by
    grind[dM_]
theorem od_ {c:UInt8}:∀ {s:Str},ixS c s=none->dM_ c s=[s]
 | [],_=>rfl
 | b::s,h=>by
   simp only[ixS]at h
   split at h
   . cases h
   . rename_i e
     have d:ixS c s=none:=by simpa using h
     simp only[dM_,e,ycm_,od_ d]
def cD_ (s:Str):Bool :=
  if s=[42]\/s=[33] then true
  else if 2<=s.length/\s[0]? = some 123/\s[s.length - 1]? = some 125 then bk_ ((s.drop 1).take (s.length - 1 - 1))
  else if 3<=s.length/\s[0]? = some 60/\s[s.length - 1]? = some 62 then true
  else bk_ s
def fz_ (s:Str):Bool:=decide ((dM_ 46 s).length<=4)&&!((dM_ 46 s).any λr=>!bk_ r)
def jK_ (used:Bool) (s:Str) (q:Str->Bool):Bool:=(used&&q s)||(!used&&(s==[]))
def Pc.valid (p:Pc):Bool :=
  if p.kind<1\/9<p.kind\/p.frm < -1\/1024<=p.frm then false
  else if (nus p.kind).numbers=true/\(p.lo < -1099511627776\/p.hi<p.lo\/1099511627776<p.hi) then false
  else if (nus p.kind).numbers=false/\(p.lo≠0\/p.hi≠0) then false
  else ((((jK_ (nus p.kind).a p.a cD_&&jK_ (nus p.kind).b p.b cD_)&&jK_ (nus p.kind).c p.c cD_)&&jK_ (nus p.kind).r p.r (if (nus p.kind).numbers then bk_ else fz_))&&jK_ (nus p.kind).s p.s fz_)&&jK_ (nus p.kind).t p.t fz_
structure Pc.sm (p:Pc):Prop where
  a:p.a.length<=17592186044414
  b:p.b.length<=17592186044414
  c:p.c.length<=17592186044414
  r:p.r.length<=17592186044414
  s:p.s.length<=17592186044414
  t:p.t.length<=17592186044414
end Go.Vs
namespace Go.Sx
open Go
section
variable {H r r' d t:Hp} {b:Nat×Obj} {O:Hp}
theorem e_:H.Perm ([]++H):=.refl _
theorem f_:(b::r).Perm ([b]++r):=.refl _
theorem ag_:(O++r).Perm (O++r):=.refl _
theorem g_ (h:H.Perm (t++r)):(b::H).Perm (t++(b::r)):=(h.cons b).trans ybo_.symm
theorem ae_ (h:H.Perm (t++r)):(O++H).Perm (t++(O++r)):=(ybh_ O h).trans (by
  grind[List.Perm.append_right,List.perm_append_comm])
theorem E_ (e:H.Perm ([b]++r)) (h:r.Perm (d++r')):H.Perm ((b::d)++r'):=e.trans (h.cons b)
theorem bP_ (e:H.Perm (O++r)) (h:r.Perm (d++r')):H.Perm ((O++d)++r'):=by
  rw[yak_];exact e.trans (ybh_ O h)
theorem an_:H.Perm (H++[]):=by simp
end
theorem pd_:∀ xs:List (List UInt8),xs.flatMap V_=xs.map str
  | []=>rfl
  | x::xs=>by simp only[yaR_,pd_ xs,yaE_];rfl
def cS_ (n:Int):List Value:=[.int .i64 n]
theorem er_ (n:Int):(cS_ n).length=1:=rfl
section
variable {P:Program} {N:Nf} {v0:Vw} {H0:Hp} {R:Exit->Act->World->Prop} {K:List Kt} {fr:Fr} {H:Hp} {Γ:List Fct}
theorem R_ {k:Act->World->Prop} {b:Nat} {cs:List Value} {T:TypeId} {fz:Nat×Nat} {F:Hp} (xs:List Value) (o:H.Perm ([(b,.cells cs.toArray T fz)]++F)) (A:cs=xs) (h:Ok N v0 H0 k fr F (O_ (some ⟨b,0,none⟩) xs::Γ)):Ok N v0 H0 k fr H Γ :=
  fW_ (O_ (some ⟨b,0,none⟩) xs) o (λv u e _=>.inr ⟨b,0,cs.toArray,T,fz,rfl,u,e,λj x y=>by grind⟩) h
theorem satNil {v:Vw} (h:v.sat H):v.sat []:=⟨(λ_ h=>by cases h),zak_,h.lt⟩
variable {ops:Array Oper} {l:List Oper} {d:Nat} {ty:TypeId} {ps:String} {af:Array Edge}
theorem Bj_ {x y:Operand} {t k:TypeId} {m n:Int} (o:Fr.ev fr x=some (.int .i64 m)) (h:Fr.ev fr y=some (.int .i64 n)) :
    Yld P N fr H Γ (.call ⟨.builtin .max,#[x,y],#[t,k]⟩) ty (.int .i64 (if m<n then n else m)) :=
  λa v e u _ _ _ _=>by simp[execOp,resolve,invoke,builtin,Builtin.max_,Builtin.max2,e.ev o,e.ev h]
theorem rK_ {t o:TypeId} {x y:Operand} {m n:Int} (u:Fr.ev fr x=some (.int .i64 m)) (k:Fr.ev fr y=some (.int .i64 n)) (A:n≠0) (h:IntKind.wrap .i64 (m.tdiv n)=m.tdiv n) :
    Yld P N fr H Γ (.binOp .quo t x y o) ty (.int .i64 (m.tdiv n)) :=
  λa v e _ _ _ _ _=>by simp[execOp,e.ev u,e.ev k,eqGuard,binOp,Op.intDiv,A,h]
theorem zq_ {b cap n:Nat}:sad (some ⟨b,0,none⟩) cap 0 n=some ⟨b,0,none⟩:=by grind[sad,da_]
end
theorem xo_ {cs us e:List Value} {k:Nat} (off:Nat) (h:∀ j y,us[j]? = some y->cs[k+j]? = some y) (o:∀ (j:Nat) y,e[j]? = some y->us[off+j]? = some y):∀ j y,e[j]? = some y->cs[k+off+j]? = some y:=by grind
end Go.Sx
namespace Go.Sx
open Go
section
variable {P:Program} {N:Nf} {v0:Vw} {H0:Hp} {R:Exit->Act->World->Prop} {K:List Kt} {fr:Fr} {H:Hp} {Γ:List Fct}
variable {ops:Array Oper} {l:List Oper} {d:Nat} {ty:TypeId} {ps:String} {af:Array Edge}
theorem aY_ {x y:Operand} {t e:TypeId} {sz by' n m c:Nat} {sv:Value} {xs news:List Value} {Hr F:Hp} {ad:Ao} (J:Elt P t e sz by') (k:av_ e sz sv n xs Hr)
    (S:Fr.ev fr x=some sv) (O:Fr.ev fr y=some (.slice ad m c)) (M:ad=none->c=0) (W:m<=c) (I:H.Perm (Hr++F)) (hl:news.length=m*sz) (o:∀ v,v.sat H->aC_ Γ v->bW_ v ad news) (G:∀ u∈news,u.oneCell'=true)
    (E:n+m<=maxLen) (V:(n+m)*by'<=140737488355328) (U:Nat.blt d N.n=true)
    (L:∀ sv' Hr',av_ e sz sv' (n+m) (xs++news) Hr'->Ops P R N v0 H0 ops l K ((d,sv')::fr) (Hr'++F) Γ) :
    Ops P R N v0 H0 ops (⟨some d,.call ⟨.builtin .append,#[x,y],#[t,t]⟩,ty,ps,af,none⟩::l) K fr H Γ:=by
  cases ad with
  | none =>
    obtain rfl:=M rfl;obtain rfl:m=0:=by omega
    obtain rfl:news=[]:=yau_ zap_;refine dl_ rfl λa v A B Q C=>?_;obtain⟨i,z,hi,M,es,eb,ez⟩:=J.info;have g:=B.perm I;have X:=k.owns g;have Y:=run_append_owned_none (P:=P) (w:=v.w) 0 t ty e i sz J.und hi sv n xs X;unfold Oper.wp execOp;simp only[resolve,invoke,builtin,Sem.run_bind,Sem.run_pure,Result.andThen_ok,ybd_,yaE_,ybz_,A.ev S,A.ev O,Y];have T:v.to H v (Hr++F):=(Vw.to.refl v (Hr++F)).permL I.symm;exact L sv Hr zap_ _ v (A.put U) g (Q.trans T) C
  | some a0 =>
    refine am_ J k S O I hl (λv B C j u hj=>?_) G E V U L;rcases o v B C with h|⟨b,off,Z,T,fz,A,_,Q,h5⟩
    all_goals grind[da_,World.cell?]
theorem dc_ {t e:TypeId} {sz:Nat} (k:∀ w,(underlying t).run P w=.ok (.slice e) w) (o:∀ w,(sizeOf e).run P w=.ok sz w) (u:Nat.blt d N.n=true)
    (h:∀ b,Ops P R N v0 H0 ops l K ((d,.slice (some ⟨b,0,none⟩) 0 0)::fr) ((b,.cells #[] e (0,0))::H) Γ):Ops P R N v0 H0 ops (⟨some d,.buildSlice t 0 #[],ty,ps,af,none⟩::l) K fr H Γ :=
  in_ (x:=λb=>.slice (some ⟨b,0,none⟩) 0 0) u (λa v B y A=>by
    simp only[execOp,Instr.buildSlice,Sem.run_bind,k,Result.andThen_ok,o,ybd_];rw[yam_ zaa_,yax_ zaa_,Nat.zero_mul,show Array.range 0=#[] by simp];simp only[Sem.run_bind,Sem.run_pure,Result.andThen_ok,ybz_,ybd_,ycR_,Instr.fill];rfl) h
theorem I_ {k:Act->World->Prop} {e:TypeId} {sz n:Nat} {sv:Value} {xs:List Value} {Hr F:Hp} (o:av_ e sz sv n xs Hr) (u:H.Perm (Hr++F))
    (h:∀ ad cap,sv=.slice ad n cap->n<=cap->cap<=maxLen->(ad=none->cap=0)->Ok N v0 H0 k fr F (O_ ad xs::Γ)):Ok N v0 H0 k fr H Γ:=by
  refine dI_ o u λad cap v A x=>h ad cap v A x λB=>?_;rcases o.2 with⟨y,_,_⟩|⟨g,c,cur,y,_⟩
  all_goals grind
theorem eW_ {cap i n:Nat} {ad:Ao} (h:sad ad cap i n=none):ad=none:=by
 unfold sad at h
 split at h
 .exact h
 simpa using h
end
end Go.Sx
namespace Go.Sx
open Go
section
variable {P:Program} {N:Nf} {fr:Fr} {H:Hp} {Γ:List Fct} {ty:TypeId} {e:TypeId} {sz n:Nat} {sv:Value} {xs:List Value} {Hr F:Hp}
theorem fB_ {O:Hp}:List.Perm (O++[]) O:=by simp
theorem bS_ {O Q:Hp}:List.Perm (Q++O) (O++Q):=yah_
theorem ah_ {O:Hp} {b:Nat×Obj}:List.Perm (b::O) (O++[b]):=by grind[List.perm_append_comm]
theorem zK_ {H:Hp}:List.Perm ([]++H) H:=.refl _
def svB:Value->Nat
  | .slice (some a) _ _=>a.block
  | _=>0
theorem dF_ {x:Operand} {t u:TypeId} (h:av_ e sz sv n xs Hr) (k:∀ w,(underlying t).run P w=.ok (.slice u) w) (o:Fr.ev fr x=some sv):Yld P N fr H Γ (.call ⟨.builtin .len,#[x],#[t]⟩) ty (.int .i64 (n:Int)):=by
 rcases h.2 with⟨rfl,rfl,_⟩|⟨g,cap,cur,rfl,_⟩
 .exact dS_ k o
 exact dS_ k o
theorem bJ_ {x y:Operand} {t o:TypeId} {k:IntKind} {i:Int} (h:av_ e sz sv n xs Hr) (v:∀ w,(underlying t).run P w=.ok (.slice o) w) (B:∀ w,(sizeOf o).run P w=.ok sz w) (C:Fr.ev fr x=some sv) (u:Fr.ev fr y=some (.int k i)) (A:0<=i) (hl:i<n) :
    Yld P N fr H Γ (.indexAddr t x y) ty (.pointer (some ⟨svB sv,i.toNat*sz,none⟩)):=by
  rcases h.2 with⟨_,E,_⟩|⟨g,cap,cur,rfl,_⟩
  . omega
  . have:=ka_ (P:=P) (N:=N) (H:=H) (Γ:=Γ) (ty:=ty) v B C u A hl
    rw[ybP_]at this;exact this
theorem fn_ {x:Operand} {t:TypeId} {k m:Nat} {us:List Value} (h:av_ e sz sv n xs Hr) (u:H.Perm (Hr++F)) (G:∀ w,(isAgg t).run P w=.ok true w) (B:∀ w,(sizeOf t).run P w=.ok m w) (C:Fr.ev fr x=some (.pointer (some ⟨svB sv,k,none⟩)))
    (E:us.length=m) (I:0<m) (A:∀ j y,us[j]? = some y->xs[k+j]? = some y):Yld P N fr H Γ (.load t x) ty (.agg us.toArray):=by
  rcases h.2 with⟨_,o,_⟩|⟨g,cap,cur,rfl,rfl,J,Q,T,M⟩
  . subst o
    have S:=h.1;have:xs=[]:=yau_ zap_;subst this;have:=A 0 us[0] (yaa_ zaa_)
    grind
  . refine hB_ C λv o _=>ep_ G B E λj y O=>?_
    have L:=((o.perm u).own _ (yaG_ _ yaq_)).1
    grind[svB,World.cell?]
end
end Go.Sx
namespace Go.Sx
open Go
section
variable {P:Program} {N:Nf} {fr:Fr} {H:Hp} {Γ:List Fct} {ty:TypeId} {e:TypeId} {sz n:Nat} {sv:Value} {xs:List Value} {Hr F:Hp}
theorem cH_ {x:Operand} {t:TypeId} {k:Nat} {u:Value} (h:av_ e sz sv n xs Hr) (y:H.Perm (Hr++F)) (B:∀ w,(isAgg t).run P w=.ok false w) (A:Fr.ev fr x=some (.pointer (some ⟨svB sv,k,none⟩)))
    (C:xs[k]? = some u):Yld P N fr H Γ (.load t x) ty u:=by
  rcases h.2 with⟨_,o,_⟩|⟨g,cap,cur,rfl,rfl,E,J,L,I⟩
  . subst o
    have:xs=[]:=yau_ (by simpa using h.1)
    grind
  . refine hB_ A λv o _=>cF_ B ?_
    have G:=((o.perm y).own _ (yaG_ _ yaq_)).1
    grind[svB,World.cell?]
theorem en_ (h:av_ e sz sv n xs Hr):sv.cells=#[sv]/\sv.oneCell'=true:=by
  rcases h.2 with⟨rfl,_⟩|⟨g,cap,cur,rfl,_⟩<;>exact⟨rfl,rfl⟩
theorem dy_ {v0:Vw} {H0:Hp} {R:Exit->Act->World->Prop} {K:List Kt} {ops:Array Oper} {l:List Oper} {ps:String} {af:Array Edge} {t:TypeId} {x y:Operand} {b off:Nat} (i:Nat) {cur:Array Value} {T:TypeId} (h:av_ e sz sv n xs Hr) (u:∀ w,(sizeOf t).run P w=.ok 1 w)
    (v:Fr.ev fr x=some (.pointer (some ⟨b,off,none⟩))) (o:Fr.ev fr y=some sv) (hi:H[i]? = some (b,.cells cur T (0,0))) (k:Nat.ble (off+1) cur.size=true)
    (A:Ops P R N v0 H0 ops l K fr (H.set i (b,.cells (cur.toList.take off++[sv]++cur.toList.drop (off+1)).toArray T (0,0))) Γ):Ops P R N v0 H0 ops (⟨none,.store t x y,ty,ps,af,none⟩::l) K fr H Γ :=
  by grind[o_,en_]
theorem fQ_ {b:Nat} {cs:List Value} {T:TypeId} {fz:Nat×Nat} (h:H.Perm ([(b,.cells cs.toArray T fz)]++F)):∀ v:Vw,v.sat H->aC_ Γ v->∀ j u,cs[j]? = some u->v.w.cell? ((⟨b,0,none⟩:Addr).add j)=some u:=by
  intro v x o j u k;exact aO_ (Γ:=Γ) 0 rfl v (x.perm h) o j u k
theorem lL_ {t o:TypeId} {x y:Operand} {m n:Bool} (u:P.underlying t=some .bool) (A:Fr.ev fr x=some (.bool m)) (k:Fr.ev fr y=some (.bool n)):Yld P N fr H Γ (.binOp .eql t x y o) ty (.bool (m==n)) :=
  λa v h _ _ _ _ _=>by simp[execOp,h.ev A,h.ev k,eqGuard,binOp,run_equal_bool v.w t m n u]
theorem aF_ {α:Type} {f:α->List Value} (k:∀ x,(f x).all Value.oneCell'=true) {l:List α} {u:Value} (h:u∈l.flatMap f):u.oneCell'=true:=by
  grind
end
end Go.Sx
namespace Go.Vs
open Go Go.Sx
structure RevI (L M:List Int) (k:Nat):Prop where
  len:M.length=L.length
  k2:2*k<=L.length+1
  get:∀ i:Nat,i<L.length->M[i]? = if i<k\/L.length<=i+k then L[L.length - 1 - i]? else L[i]?
theorem RevI.zero (L:List Int):RevI L L 0:=⟨rfl,by omega,λi hi=>by grind⟩
theorem RevI.step {L M:List Int} {k:Nat} {a b:Int} (h:RevI L M k) (v:(k:Int)<(L.length:Int) - 1 - (k:Int)) (x:M[L.length - 1 - k]? = some a) (y:M[k]? = some b):RevI L ((M.set k a).set (L.length - 1 - k) b) (k+1):=by
 have hl:=h.len;refine⟨by simp[hl],by omega,λi hi=>?_⟩;have d:=h.get (L.length - 1 - k) zaa_;have u:=h.get k zaa_;rw[yam_ zaa_]at d u;rw[yck_,yck_,yaZ_]
 by_cases e:L.length - 1 - k=i
 .grind
 rw[yam_ e]
 by_cases o:k=i
 .grind
 rw[yam_ o,h.get i hi]
 grind
theorem RevI.done {L M:List Int} {k:Nat} (h:RevI L M k) (d:¬ (k:Int)<(L.length:Int) - 1 - (k:Int)):M=L.reverse:=by
 apply yaT_
 intro i
 by_cases hi:i<L.length
 .rw[h.get i hi,List.getElem?_reverse hi]
  grind
 grind[len]
end Go.Vs
