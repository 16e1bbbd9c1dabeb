/-
  Lemmas for the law ModuleTypes (no condition).
-/
import Derived.Test.YthmjeabeoodghaaGreatDoorQModuleTypes1
import Derived.RangeFuncRecord
import Derived.Lib.Bytealg
import Derived.Below
import Derived.MapKept
import Derived.Deep.Draws
import Derived.Sort.Grow
import Derived.Lib.Join
import Derived.Lib.ItoaLen
import Derived.Laws.StructEq
set_option linter.unusedVariables false
set_option linter.unusedSimpArgs false
set_option linter.unusedSectionVars false
set_option maxHeartbeats 1000000
namespace Go.Sx
open Go
section
variable {P:Program} {N:Nat} {v0:Vw} {H0:Hp} {R:Exit→Act→World→Prop} {K:List Kt} {fr:Fr} {H F:Hp} {Γ:List Fct}
theorem eZ_ {v:Vw} {l:Nat} {o o':Obj} (h:v.sat ((l,o)::F)):(⟨v.im,v.w.putObj l o',v.sl⟩:Vw).sat ((l,o')::F)∧v.to ((l,o)::F) ⟨v.im,v.w.putObj l o',v.sl⟩ ((l,o')::F):=by
  have hl:=(h.own (l,o) List.mem_cons_self).1;have:=eY_ (i:=0) (o':=o') (w':=v.w.putObj l o') h rfl rfl rfl rfl (Nat.le_refl _) zaf_ (World.putObj_heap_same (Array.getElem?_eq_some_iff.1 hl).1) (fun k d=>World.putObj_heap_other d);simpa using this
theorem hu_ {ι:Type} {c:Code} (d:ι→Fr) (Hs:ι→Hp) (h:ι→List Fct) (A:it_ Fence.wide 0 P (Mid N v0 H0 d Hs h) N [] v0 H0 c [] fr H Γ) (C:∀ i,Fin P R N v0 H0 K (d i) (Hs i) (h i)):Run P R N v0 H0 c K fr H Γ:=by
  intro a v I x y G;refine wp_mono (wpIn_wide.1 (dA_.1 A a v I x y G)) ?_;rintro e a' w' ⟨rfl,i,B,rfl,k1,k2,E,m⟩;exact C i a' B k1 k2 E m
def vA_ {σ τ:Type} (v0:Vw) (H0:Hp) (Hj:σ→Hp) (Hx:τ→Hp) (HL:Hp) (res:σ ⊕ τ):Exit→Act→World→Prop
  | .normal,_,w=>∃ s' v,res=.inl s'∧v.w=w∧v.sat (Hj s'++HL)∧v0.to H0 v (Hj s'++HL)
  | .ret,_,w=>∃ t v,res=.inr t∧v.w=w∧v.sat (Hx t++HL)∧v0.to H0 v (Hx t++HL)
  | _,_,_=>False
def pb_ {σ τ:Type} (Gj:σ→Hp) (Gx:τ→Hp):σ ⊕ τ→Hp
  | .inl s=>Gj s
  | .inr t=>Gx t
def HLp (l D:Nat) (r:Loop):Hp:=[(l,.loop r),(D,.deferred (some []))]
theorem kf_ {σ τ ι:Type} {l D:Nat} {d:Loop} {E:Nat} {x:Value} {Hj:σ→Hp} {Hx:τ→Hp} {s:σ} {res:σ ⊕ τ} (J:ι→Fr) (M:ι→Hp)
    (hp:d.params=#[E]) (hst:d.state=.ready) (hpe:d.pending=none) (ht:Fr.sat N fr ⟨d.tmps,[]⟩) (hpm:Nat.blt E N=true)
    (y:∀ n v0 H0 HL,it_ (Fence.wide.inRound l) n P (Mid N v0 H0 J (fun i=>M i++HL) (fun _=>Γ)) N [] v0 H0 d.assign [] ((E,x)::fr) (Hj s++HL) Γ)
    (C:∀ n v0 H0 HL i,it_ (Fence.wide.inRound l) n P (vA_ v0 H0 Hj Hx HL res) N [] v0 H0 d.body [] (J i) (M i++HL) Γ) :
    jr_ P l x (Hj s++HLp l D d) Γ (fun _:Unit=>.bool res.isLeft) (fun _=>pb_ (fun T=>Hj T++HLp l D d) (fun t=>Hx t++HLp l D { d with state:=.done,pending:=some .ret }) res) (fun _=>[]):=by
  intro v hs hΓ
  have h:∀ (X:Hp) r,(X++HLp l D r).Perm ((l,.loop r)::(X++[(D,.deferred (some []))])):=fun X r=>by
    unfold HLp;exact List.perm_middle
  have hl:v.w.heap[l]? = some (.loop d):=((hs.perm (h _ _)).own _ List.mem_cons_self).1;refine⟨d.fn,_,d.assign,d.body,run_yield hl (by simp[hp]),fun n=>roundIn_of_wpIn trivial ?_⟩;have W:(d.params.zip #[x]).foldl (fun tmps (t,a)=>tmps.setIfInBounds t a) d.tmps=d.tmps.setIfInBounds E x:=by simp[hp]
  rw[W];have L:Fr.sat N ((E,x)::fr) ⟨d.tmps.setIfInBounds E x,[]⟩:=ht.put hpm;refine wpIn_mono (dA_.1 (y n v (Hj s++HLp l D d) (HLp l D d)) ⟨d.tmps.setIfInBounds E x,[]⟩ v L hs (Vw.to.refl _ _) hΓ) ?_;rintro e a1 w1 ⟨rfl,i,Q,rfl,k1,k2,k3,k4⟩;have G:=k2.perm (h _ _);have Z:=(G.own _ List.mem_cons_self).1;obtain⟨m1,m2⟩:=eZ_ (o':=.loop { d with state:=.busy }) G;refine⟨_,run_beginRound Z hst,?_⟩;have m3:=m1.perm (h (M i) { d with state:=.busy }).symm
  have m4:v.to (Hj s++HLp l D d) ⟨Q.im,Q.w.putObj l (.loop { d with state:=.busy }),Q.sl⟩ (M i++HLp l D { d with state:=.busy }) :=
    (k3.trans ((m2.permL (h _ _).symm).subR fun b O=>((h (M i) { d with state:=.busy }).map Prod.fst).mem_iff.1 O))
  have V:=aD_ (m2.le G) k4;refine wpIn_mono (dA_.1 (C n v (Hj s++HLp l D d) (HLp l D { d with state:=.busy }) i) a1 ⟨Q.im,_,Q.sl⟩ k1 m3 m4 V) ?_;intro e2 a2 w2 I;cases e2 with
  | normal =>
    obtain⟨T,B,rfl,rfl,Y,S⟩:=I;have m:=Y.perm (h _ _);have A:=(m.own _ List.mem_cons_self).1;obtain⟨z1,U⟩:=eZ_ (o':=.loop d) m;have er:({ d with state:=.ready,pending:=none }:Loop)=d:=by cases d;simp_all
    refine⟨_,_,run_endRound none A,(),⟨B.im,B.w.putObj l (.loop d),B.sl⟩,rfl,?_,z1.perm (h _ _).symm,trivial,S.trans ((U.permL (h _ _).symm).subR fun b O=>((h (Hj T) d).map Prod.fst).mem_iff.1 O)⟩;simp[er]
  | ret =>
    obtain⟨t,B,rfl,rfl,Y,S⟩:=I;have m:=Y.perm (h _ _);have A:=(m.own _ List.mem_cons_self).1;obtain⟨z1,U⟩:=eZ_ (o':=.loop { d with state:=.done,pending:=some .ret }) m
    exact⟨_,_,run_endRound (some .ret) A,(),⟨B.im,B.w.putObj l (.loop { d with state:=.done,pending:=some .ret }),B.sl⟩,rfl,rfl,z1.perm (h _ _).symm,trivial,
      S.trans ((U.permL (h _ _).symm).subR fun b O=>((h (Hx t) { d with state:=.done,pending:=some .ret }).map Prod.fst).mem_iff.1 O)⟩
  | exit id=>exact I.elim
  | goto t=>exact I.elim
  | panic c=>exact I.elim
  | outgrown=>exact I.elim
theorem bx_ {n:Nat}:∀ (K:List Kt) (e:Exit) (a:Act) (w:World),et_ Fence.wide n P R K e a w→post P R K e a w
 | [],_,_,_,h=>h
 | .seq c::K,.normal,a,w,h=>wp_mono (wpIn_wide.1 h) (fun e a w d=>bx_ K e a w d)
 | .seq _::K,.exit _,a,w,h=>bx_ K _ a w h
 | .seq _::K,.goto _,a,w,h=>bx_ K _ a w h
 | .seq _::K,.ret,a,w,h=>bx_ K _ a w h
 | .seq _::K,.panic _,a,w,h=>bx_ K _ a w h
 | .seq _::K,.outgrown,a,w,h=>bx_ K _ a w h
 | .inv J::_,.normal,_,_,h=>h
 | .inv _::K,.exit _,a,w,h=>bx_ K _ a w h
 | .inv _::K,.goto _,a,w,h=>bx_ K _ a w h
 | .inv _::K,.ret,a,w,h=>bx_ K _ a w h
 | .inv _::K,.panic _,a,w,h=>bx_ K _ a w h
 | .inv _::K,.outgrown,a,w,h=>bx_ K _ a w h
 | .blk id::K,.exit id',a,w,h=>by
   simp only[et_,post]at h ⊢
   split
   · rename_i e;rw[if_pos e]at h;exact bx_ K _ a w h
   · rename_i e;rw[if_neg e]at h;exact bx_ K _ a w h
 | .blk _::K,.normal,a,w,h=>bx_ K _ a w h
 | .blk _::K,.goto _,a,w,h=>bx_ K _ a w h
 | .blk _::K,.ret,a,w,h=>bx_ K _ a w h
 | .blk _::K,.panic _,a,w,h=>bx_ K _ a w h
 | .blk _::K,.outgrown,a,w,h=>bx_ K _ a w h
def pH_ (D:Nat):List Deferred:=[{ target:=.collected D,args:=#[] }]
theorem qd_ {σ τ α:Type} {g:Operand} {pm:Nat} {assign body:Code} {W:FuncId} {caps:List Value} {Hj:σ→Hp} {Hx:τ→Hp} {Hc:Hp} {Γx:α→List Fct} {Γi:List Fct} {xv:α→Value} {good:α→Prop} {stp:α→σ→σ ⊕ τ}
    (s0:σ) (res:σ ⊕ τ) (hg:Fr.ev fr g=some (.func (.func W) #[] caps.toArray)) (hH:H.Perm (Hc++Hj s0)) (a4:∀ v,v.sat H→ad_ Γ v→ad_ Γi v)
    (B:∀ l D (d:Loop),d.params=#[pm]→d.state=.ready→d.pending=none→Fr.sat N fr ⟨d.tmps,[]⟩→d.assign=assign→d.body=body→∀ s x,good x →
      jr_ P l (xv x) (Hj s++HLp l D d) (Γx x) (fun _:Unit=>.bool (stp x s).isLeft) (fun _=>pb_ (fun s'=>Hj s'++HLp l D d) (fun t=>Hx t++HLp l D { d with state:=.done,pending:=some .ret }) (stp x s)) (fun _=>[]))
    (hit:∀ l (Gj:σ→Hp) (Gx:τ→Hp),(∀ s x,good x→jr_ P l (xv x) (Gj s) (Γx x) (fun _:Unit=>.bool (stp x s).isLeft) (fun _=>pb_ Gj Gx (stp x s)) (fun _=>[])) →
      Tri P W (.func (.yield l) #[] #[]::caps).toArray (Hc++Gj s0) Γi (fun _:Unit=>.tuple #[]) (fun _=>Hc++pb_ Gj Gx res) (fun _=>[]))
    (C:∀ s',res=.inl s'→∀ D l r,vB_ Fence.wide 0 P R N (pH_ D) v0 H0 K fr (Hc++Hj s'++HLp l D r) Γ)
    (I:∀ t,res=.inr t→∀ D l r,OkD N (pH_ D) v0 H0 (R .ret) fr (Hc++Hx t++HLp l D r) Γ) :
    Run P R N v0 H0 (.rangeFunc g #[pm] assign body) K fr H Γ:=by
  intro a v G Z h3 h4;refine wpIn_wide (n:=0) |>.1 (wpIn_mono (Q:=et_ Fence.wide 0 P R K) (wpIn_rangeFunc fun fn _=>?_) fun e a w hq=>bx_ K e a w hq)
  obtain⟨a1,a2⟩:=gd_ (w':=v.w.alloc (.deferred (some []))) (o:=.deferred (some [])) Z rfl rfl rfl rfl (Nat.le_refl _);obtain⟨d,m⟩:∃ d:Loop,d={ state:=.ready,pending:=none,fn,tmps:=a.tmps,params:=#[pm],assign,body,defers:=v.w.heap.size }:=⟨_,rfl⟩;obtain⟨b1,b2⟩:=gd_ (w':=(v.w.alloc (.deferred (some []))).alloc (.loop d)) (o:=.loop d) a1 rfl rfl rfl rfl (Nat.le_refl _);have U:(v.w.alloc (Obj.deferred (some []))).heap.size=v.w.heap.size+1:=by simp
  have a0:(⟨v.im,(v.w.alloc (.deferred (some []))).alloc (.loop d),v.sl⟩:Vw).sat ((v.w.heap.size+1,.loop d)::(v.w.heap.size,.deferred (some []))::H):=U▸b1;have J:v.to H ⟨v.im,(v.w.alloc (.deferred (some []))).alloc (.loop d),v.sl⟩ ((v.w.heap.size+1,.loop d)::(v.w.heap.size,.deferred (some []))::H):=a2.trans (U▸b2)
  have A:((v.w.heap.size+1,Obj.loop d)::(v.w.heap.size,.deferred (some []))::H).Perm (Hc++(Hj s0++HLp (v.w.heap.size+1) v.w.heap.size d)):=by
    rw[← List.append_assoc];exact (List.perm_append_comm (l₁:=HLp (v.w.heap.size+1) v.w.heap.size d) (l₂:=H)).trans (hH.append_right _)
  have hT:=hit (v.w.heap.size+1) (fun s=>Hj s++HLp (v.w.heap.size+1) v.w.heap.size d) (fun t=>Hx t++HLp (v.w.heap.size+1) v.w.heap.size { d with state:=.done,pending:=some .ret })
    (B _ _ d zbQ_ zbQ_ zbQ_ (by rw[m];exact⟨G.size,rfl,G.val⟩) zbQ_ zbQ_)
  have hΓ2:=aD_ (J.le Z) (a4 v Z h4);have he:=G.ev hg;refine⟨v.w.heap.size+1,pH_ v.w.heap.size,(v.w.alloc (.deferred (some []))).alloc (.loop d),⟨.fn (.func W) caps.toArray,#[.func (.yield (v.w.heap.size+1)) #[] #[]]⟩,(v.w.alloc (.deferred (some []))).alloc (.loop d),W,(.func (.yield (v.w.heap.size+1)) #[] #[]::caps).toArray,_,?_,?_,fun _ _=>trivial,?_,fun h=>(by cases h),callsIn_wide.2 ((hT.run ⟨v.im,_,v.sl⟩ (a0.perm A) hΓ2).mono ?_)⟩
  · rw[m];exact run_enterLoop_outer _ _ _ _ _
  · simp only[resolve,rangeCall,List.map_toArray,List.map_cons,List.map_nil,he,Deferred.ofValue]
    rfl
  · have:=hT.callable (.func (.yield (v.w.heap.size+1)) #[] #[]::caps).toArray ((v.w.alloc (.deferred (some []))).alloc (.loop d))
    simpa [invoke] using this
  · rintro e w' ⟨_,V,rfl,rfl,g1,g2,g3⟩
    have E:=J.trans (g3.permL A.symm);have M:=aD_ (E.le Z) h4;have T:∀ S,SatD N S fr { a with defers:=S++a.defers }:=fun S=>⟨⟨G.size,rfl,G.val⟩,by show S++a.defers=S;rw[G.defers];simp⟩
    have y:∀ (X Y:Hp) r,(Y++(X++HLp (v.w.heap.size+1) v.w.heap.size r)).Perm ((v.w.heap.size+1,.loop r)::(Y++X++[(v.w.heap.size,.deferred (some []))])):=fun X Y r=>by
      unfold HLp;rw[← List.append_assoc];exact List.perm_middle
    cases res with
    | inl s' =>
      have q:=g1.perm (y (Hj s') Hc d);have hl:=(q.own _ List.mem_cons_self).1;obtain⟨z1,O⟩:=eZ_ (o':=.loop { d with state:=.exhausted }) q
      have L:((v.w.heap.size+1,Obj.loop { d with state:=.exhausted })::(Hc++Hj s'++[(v.w.heap.size,.deferred (some []))])).Perm (Hc++Hj s'++HLp (v.w.heap.size+1) v.w.heap.size { d with state:=.exhausted }):=by
        have:=(y (Hj s') Hc { d with state:=.exhausted }).symm;rw[← List.append_assoc]at this;exact this
      refine⟨d.pending,_,run_endLoop hl (by rw[m];simp),?_⟩;have a3:d.pending=none:=by rw[m]
      split
      case h_2=>rename_i c hc;rw[a3]at hc;cases hc
      exact C s' rfl _ _ _ _ ⟨V.im,_,V.sl⟩ (T _) (z1.perm L) (h3.trans (E.trans ((O.permL (y _ _ _).symm).subR fun b hb=>(L.map Prod.fst).mem_iff.2 hb))) (aD_ (O.le q) M)
    | inr t =>
      have q:=g1.perm (y (Hx t) Hc _);have hl:=(q.own _ List.mem_cons_self).1;obtain⟨z1,O⟩:=eZ_ (o':=.loop { d with state:=.exhausted,pending:=some .ret }) q
      have L:((v.w.heap.size+1,Obj.loop { d with state:=.exhausted,pending:=some .ret })::(Hc++Hx t++[(v.w.heap.size,.deferred (some []))])).Perm (Hc++Hx t++HLp (v.w.heap.size+1) v.w.heap.size { d with state:=.exhausted,pending:=some .ret }):=by
        have:=(y (Hx t) Hc { d with state:=.exhausted,pending:=some .ret }).symm;rw[← List.append_assoc]at this;exact this
      refine⟨some .ret,_,run_endLoop hl zaf_,?_⟩;refine wpIn_ret (qm_ K _ _ (I t rfl _ _ _ _ ⟨V.im,_,V.sl⟩ (T _) (z1.perm L) (h3.trans (E.trans ((O.permL (y _ _ _).symm).subR fun b hb=>(L.map Prod.fst).mem_iff.2 hb))) (aD_ (O.le q) M)))
theorem em_ {f:FuncId} {fn:Func} {c:Code} {args:List Value} {ι:Type} {d:ι→Value} {H':ι→Hp} {Γ':ι→List Fct}
    (y : P.funcs[f]? = some fn) (A : fn.body = some c) (J : (fn.name == "runtime.NumGoroutine") = false) (C : fn.ntmps = N) (hl : Nat.ble args.length N = true)
    (h:∀ v0,Run P (bodyPostM Fence.wide 0 P fn (lx_ v0 H d H' Γ')) N v0 H c [] (lU_ 0 args) H Γ):Tri P f args.toArray H Γ d H' Γ':=by
  refine⟨callable y A J,fun v E I=>callsIn_wide.1 (callsIn_of_wp_marks (n:=0) y A trivial ?_)⟩;have B:args.length≤N:=Nat.le_of_ble_eq_true hl;have:=h v ⟨args.toArray++Array.replicate (fn.ntmps - args.toArray.size) undef,[]⟩ v ⟨by simp[C];omega,rfl,fun t x G=>?_⟩ E (Vw.to.refl _ _) I
  · exact wpIn_wide.2 this
  · obtain⟨_,e⟩:=kC_ args 0 t x G
    simp only[Nat.sub_zero]at e;have m:=(List.getElem?_eq_some_iff.1 e).1;rw[Array.getElem?_append_left zau_];simpa using e
theorem retM {fn:Func} {ι:Type} {G:Hp} {ret:ι→Value} {H':ι→Hp} {Γ':ι→List Fct} (x:ι) (C:∀ (a:Act) (v:Vw),Fr.sat N fr a→v.sat H→ad_ Γ v→(results fn a.tmps).run P v.w=.ok (ret x) v.w) (m:H.Perm (H' x++G))
    (B:∀ v,v.sat H→ad_ Γ v→ad_ (Γ' x) v):Ok N v0 H0 (bodyPostM Fence.wide 0 P fn (lx_ v0 H0 ret H' Γ') .ret) fr H Γ:=by
  intro a v e d A h;show LeavesInM Fence.wide 0 P fn a.tmps _ a.defers .returning v.w
  rw[e.defers]
  exact⟨ret x,C a v e d h,x,v,rfl,rfl,(d.perm m).sub,B v d h,A.subR fun b y=>by
    have:b∈(H' x++G).map Prod.fst:=by rw[List.map_append];exact List.mem_append_left _ y
    exact (m.map Prod.fst).mem_iff.2 this⟩
theorem sL_ {fn:Func} {ι:Type} {D:Nat} {G:Hp} {ret:ι→Value} {H':ι→Hp} {Γ':ι→List Fct} (x:ι) (C:∀ (a:Act) (v:Vw),Fr.sat N fr a→v.sat G→(results fn a.tmps).run P v.w=.ok (ret x) v.w) (A:H.Perm ((D,.deferred (some []))::(G)))
    (O:∃ h,G.Perm (H' x++h)) (B:Γ' x=[]):OkD N (pH_ D) v0 H0 (bodyPostM Fence.wide 0 P fn (lx_ v0 H0 ret H' Γ') .ret) fr H Γ:=by
  intro a v m J L Q;show LeavesInM Fence.wide 0 P fn a.tmps _ a.defers .returning v.w
  rw[m.defers];have q:=J.perm A;have hl:=(q.own _ List.mem_cons_self).1;obtain⟨e,M⟩:=eZ_ (o':=.deferred none) q;have y:(⟨v.im,v.w.putObj D (.deferred none),v.sl⟩:Vw).sat G:=⟨fun p I=>e.own p (List.mem_cons_of_mem _ I),by have:=e.nodup;rw[List.map_cons,List.nodup_cons]at this;exact this.2,e.lt⟩;obtain⟨h,d⟩:=O;refine⟨by simp,.inl ⟨D,_,rfl,run_takeDeferred hl,ret x,?_,x,⟨v.im,_,v.sl⟩,rfl,rfl,(y.perm d).sub,by rw[B];trivial,?_⟩⟩
  · exact C ⟨a.tmps,[]⟩ ⟨v.im,_,v.sl⟩ m.sat y
  · refine (L.trans (M.permL A.symm)).subR fun b E=>?_
    have:b∈(H' x++h).map Prod.fst:=by rw[List.map_append];exact List.mem_append_left _ E
    rw[List.map_cons];exact List.mem_cons_of_mem _ ((d.map Prod.fst).mem_iff.2 this)
end
end Go.Sx
namespace Go.Vs
abbrev Str:=List UInt8
def eG_ (c:UInt8):Bool:=(decide (97≤c.toNat)&&decide (c.toNat≤122))||(decide (65≤c.toNat)&&decide (c.toNat≤90))
def fX_ (c:UInt8):Bool:=eG_ c||decide (c.toNat=95)||(decide (48≤c.toNat)&&decide (c.toNat≤57))
def mT_ (s:Str):Bool:=s.all fX_
def kws:List Str:=[[97,110,100],[115,111,109,101],[105,110],[116,111],[110,111,116,104,105,110,103],[101,118,101,114,121,116,104,105,110,103],[111,110,101],[111,102],[111,112,101,110],[112,114,105,118,97,116,101],[115,117,98],[115,97,109,101],[100,105,115,106,111,105,110,116],[100,111,109,97,105,110],[114,111,108,101],[99,104,97,105,110],[114,101,102,108,101,120,105,118,101],[116,121,112,101],[108,105,110,107],[115,101,108,101,99,116],[119,104,101,114,101],[111,114]]
def bK_ (s:Str):Bool:=kws.contains s
def gX_ (s:Str):Bool:=!(s==[])&&eG_ (s.headD 0)&&mT_ s&&!bK_ s
def cQ_ (s:Str):Bool:=decide (2≤s.length)&&decide (s.length≤24)&&decide ((s.headD 0).toNat=95)&&mT_ s
def ixS (c:UInt8):Str→Option Nat
  | []=>none
  | b::s=>if b=c then some 0 else (ixS c s).map (·+1)
def bk_ (s:Str):Bool:=decide (s.length≤24)&&match ixS 58 s with
  | none=>gX_ s
  | some k=>gX_ (s.take k)&&gX_ (s.drop (k+1))
def aN_ (s:Str):Bool:=bk_ s||cQ_ s
theorem nF_ (c:UInt8):∀ s:Str,Lib.indexByte s c=match ixS c s with|none=>-1|some k=>(k:Int)
 | []=>rfl
 | b::s=>by
   have d:=nF_ c s;simp only[Lib.indexByte,ixS]
   by_cases h:b=c
   · simp[h]
   · simp only[beq_iff_eq,h,if_false]
     cases hx:ixS c s with
     | none=>rw[hx]at d;simp[d]
     | some k=>rw[hx]at d;simp only[d];rw[if_neg zaa_];simp
theorem vb_ {c:UInt8}:∀ {s:Str} {k:Nat},ixS c s=some k→k<s.length
 | [],k,h=>by simp[ixS]at h
 | b::s,k,h=>by
   simp only[ixS]at h
   split at h
   · simp at h;subst h;simp
   · cases hx:ixS c s with
     | none=>rw[hx]at h;simp at h
     | some j=>rw[hx]at h;simp at h;subst h;have:=vb_ hx;simp;omega
theorem hk_ (p:UInt8→Bool) (s:Str) (k:Nat) (c:UInt8) (d:s[k]? = some c) (h:(s.take k).all p=true) (e:p c=true):(s.take (k+1)).all p=true:=by
  rw[List.take_add_one,d];simp_all
theorem kP_ (p:UInt8→Bool) (s:Str) (k:Nat) (c:UInt8) (d:s[k]? = some c) (e:p c=false):s.all p=false:=by
  rw[List.all_eq_false];exact⟨c,List.mem_of_getElem? d,by simp[e]⟩
theorem rf_ (p:UInt8→Bool) (s:Str) (k:Nat) (d:s.length≤k) (h:(s.take k).all p=true):s.all p=true:=by
  rwa [List.take_of_length_le d]at h
theorem zM_ {m:Str} {r:List Value} {k:Nat} {c:UInt8} (h:m[k]? = some c):Sx.lg (Sx.bytesV m++r) k=some (.int .u8 (c.toNat:Int)):=by
  have d:k<m.length:=(List.getElem?_eq_some_iff.1 h).1;rw[Sx.lg_eq,List.getElem?_append_left (by simpa [Sx.bytesV] using d)];simp[Sx.bytesV,h]
end Go.Vs
namespace Go.Vs
open Go Go.Sx
inductive Con where
  | mk (kind:Int) (name:Str) (lo hi:Int) (ad:Ao) (cap:Nat) (parts:List Con)
namespace Con
def kind:Con→Int|mk k _ _ _ _ _ _=>k
def name:Con→Str|mk _ n _ _ _ _ _=>n
def lo:Con→Int|mk _ _ l _ _ _ _=>l
def hi:Con→Int|mk _ _ _ h _ _ _=>h
def ad:Con→Ao|mk _ _ _ _ a _ _=>a
def cap:Con→Nat|mk _ _ _ _ _ c _=>c
def parts:Con→List Con|mk _ _ _ _ _ _ p=>p
def cells (c:Con):List Value:=[.int .i64 c.kind,str c.name,.int .i64 c.lo,.int .i64 c.hi,.slice c.ad c.parts.length c.cap]
def val (c:Con):Value:=.agg c.cells.toArray
theorem cells_len (c:Con):c.cells.length=5:=rfl
def sz:Con→Nat
  | mk _ _ _ _ _ _ ps=>1+szs ps
where szs:List Con→Nat
  | []=>0
  | p::ps=>sz p+szs ps
theorem sz_pos (c:Con):0<c.sz:=by cases c;simp[sz];omega
theorem sz_mem {p:Con}:∀ {ps:List Con},p∈ps→p.sz≤sz.szs ps
 | q::ps,h=>by
   rcases List.mem_cons.1 h with rfl|h
   · simp[sz.szs]
   · have:=sz_mem h;simp[sz.szs];omega
theorem sz_part {c p:Con} (h:p∈c.parts):p.sz<c.sz:=by
  cases c with
  | mk k n l hi a cp ps=>have:=sz_mem (ps:=ps) h;simp only[sz];omega
def mem:Con→Vw→Prop
  | mk _ _ _ _ a _ ps,v=>bY_ v a (ps.flatMap cells)∧mems ps v
where mems:List Con→Vw→Prop
  | [],_=>True
  | p::ps,v=>mem p v∧mems ps v
theorem mems_iff {v:Vw}:∀ {ps:List Con},mem.mems ps v↔∀ p∈ps,p.mem v
  | []=>by simp[mem.mems]
  | p::ps=>by simp[mem.mems,mems_iff (ps:=ps)]
theorem mem_iff (c:Con) (v:Vw):c.mem v↔bY_ v c.ad (c.parts.flatMap cells)∧∀ p∈c.parts,p.mem v:=by
  cases c with
  | mk k n l hi a cp ps=>simp only[mem,mems_iff,ad,parts]
theorem mem_mono:∀ (n:Nat) (c:Con),c.sz≤n→∀ v e,v.le e→c.mem v→c.mem e
  | 0,c,h=>by have:=c.sz_pos;omega
  | n+1,c,h=>fun v e hl hm=>by
    rw[mem_iff]at hm ⊢;exact⟨(X_ c.ad (c.parts.flatMap cells)).mono v e hl hm.1,fun p m=>mem_mono n p (by have:=sz_part m;omega) v e hl (hm.2 p m)⟩
def memF (c:Con):Fct:=⟨c.mem,mem_mono c.sz c (Nat.le_refl _)⟩
def ok:Con→Prop
  | mk k n l h _ c ps=>-9223372036854775808≤k∧k≤9223372036854775807∧n.length≤140737488351232∧-9223372036854775808≤l∧l≤9223372036854775807∧-9223372036854775808≤h∧h≤9223372036854775807∧ps.length≤c∧ps.length≤2199023255488∧oks ps
where oks:List Con→Prop
  | []=>True
  | p::ps=>ok p∧oks ps
theorem oks_iff:∀ {ps:List Con},ok.oks ps↔∀ p∈ps,p.ok
  | []=>by simp[ok.oks]
  | p::ps=>by simp[ok.oks,oks_iff (ps:=ps)]
theorem ok_part {c p:Con} (h:c.ok) (e:p∈c.parts):p.ok:=by
  cases c with
  | mk k n l hi a cp ps=>exact oks_iff.1 h.2.2.2.2.2.2.2.2.2 p e
theorem ok_name {c:Con} (h:c.ok):c.name.length≤140737488351232:=by cases c;exact h.2.2.1
theorem ok_len {c:Con} (h:c.ok):c.parts.length≤c.cap∧c.parts.length≤2199023255488:=by cases c;exact⟨h.2.2.2.2.2.2.2.1,h.2.2.2.2.2.2.2.2.1⟩
theorem part_cells {c p:Con} {i:Nat} (m:c.parts[i]? = some p):∀ j y,p.cells[j]? = some y→(c.parts.flatMap cells)[i*5+j]? = some y:=by
  intro j y h
  have e:j<5:=by
    have:=(List.getElem?_eq_some_iff.1 h).1;rwa [cells_len]at this
  rw[kD_ cells 5 cells_len c.parts i j p m e];exact h
theorem row_addr {v:Vw} {c p:Con} {i:Nat} (h:c.mem v) (x:c.parts[i]? = some p):∃ b off,c.ad=some ⟨b,off,none⟩:=by
  have:=((mem_iff c v).1 h).1;refine this.addr fun e=>?_;have m:=part_cells x 0 _ (List.getElem?_eq_getElem (by rw[cells_len];omega));rw[e]at m;simp at m
theorem mem_part {v:Vw} {c p:Con} (h:c.mem v) (e:p∈c.parts):p.mem v:=((mem_iff c v).1 h).2 p e
def fits:Con→Nat→Nat→Bool×Nat
  | mk _ _ _ _ _ _ ps,d,n=>if 8<d||64<n+1 then (false,n+1) else fitss ps (d+1) (n+1)
where fitss:List Con→Nat→Nat→Bool×Nat
  | [],_,n=>(true,n)
  | p::ps,d,n=>match fits p d n with
    | (true,m)=>fitss ps d m
    | (false,m)=>(false,m)
theorem fits_eq (c:Con) (d n:Nat):c.fits d n=if 8<d||64<n+1 then (false,n+1) else fits.fitss c.parts (d+1) (n+1):=by cases c;rfl
end Con
end Go.Vs
namespace Go.Sx
section
variable {P:Program} {N:Nf} {v0:Vw} {H0:Hp} {R:Exit→Act→World→Prop} {K:List Kt} {fr:Fr} {H:Hp} {Γ:List Fct}
variable {ops:Array Oper} {l:List Oper} {d:Nat} {ty:TypeId} {ps:String} {af:Array Edge}
open Go Go.Vs
theorem to_ (c:List Value):rw_ c 0 c.length=some c:=by
  have m:∀ (n off:Nat) (c:List Value),off+n=c.length→rw_ c off n=some (c.drop off):=by
    intro n
    induction n with
    | zero=>intro off c h;simp only[rw_];rw[List.drop_of_length_le zaa_]
    | succ n ih =>
      intro off c h;have e:off<c.length:=by omega
      simp only[rw_,lg_eq,List.getElem?_eq_getElem e,ih (off+1) c zaa_];rw[List.drop_eq_getElem_cons e]
  have:=m c.length 0 c zaa_;simpa using this
theorem cP_ {t:TypeId} {x:Operand} {b:Nat} (i:Nat) {T:TypeId} {fz:Nat×Nat} {c:Con} (e:∀ w,(isAgg t).run P w=.ok true w) (m:∀ w,(sizeOf t).run P w=.ok 5 w)
    (h:Fr.ev fr x=some (.pointer (some ⟨b,0,none⟩))) (hi:H[i]? = some (b,.cells c.cells.toArray T fz)):Yld P N fr H Γ (.load t x) ty c.val :=
  cO_ i e m h hi (by have:=to_ c.cells;rw[c.cells_len]at this;exact this)
theorem rV_ (c:Con):c.cells.all Value.oneCell'=true:=rfl
theorem fz_ {t:TypeId} {x y:Operand} {b:Nat} (i:Nat) {cur:Array Value} {T:TypeId} {c:Con} (B:∀ w,(sizeOf t).run P w=.ok 5 w)
    (A:Fr.ev fr x=some (.pointer (some ⟨b,0,none⟩))) (m:Fr.ev fr y=some c.val) (hi:H[i]? = some (b,.cells cur T (0,0))) (h:cur.size=5)
    (v:Ops P R N v0 H0 ops l K fr (H.set i (b,.cells c.cells.toArray T (0,0))) Γ) :
    Ops P R N v0 H0 ops (⟨none,.store t x y,ty,ps,af,none⟩::l) K fr H Γ:=by
  refine o_ i B A m hi (by simp[Con.val,Value.cells,c.cells_len]) (by simp[h]) (rV_ c) ?_
  have e:(cur.toList.take 0++c.val.cells.toList++cur.toList.drop (0+5)).toArray=c.cells.toArray:=by
    have C:cur.toList.length=5:=by simp[h]
    simp[Con.val,Value.cells,List.drop_of_length_le (show cur.toList.length≤5 by omega)]
  rw[e];exact v
end
end Go.Sx
namespace Go.Vs.Con
theorem ik_:∀ (xs ys:List Con) (d n m:Nat),fits.fitss xs d n=(true,m)→fits.fitss (xs++ys) d n=fits.fitss ys d m
 | [],ys,d,n,m,h=>by simp only[fits.fitss,Prod.mk.injEq]at h;obtain⟨_,rfl⟩:=h;rfl
 | x::xs,ys,d,n,m,h=>by
   simp only[fits.fitss,List.cons_append]at h ⊢
   split at h
   · rename_i q e;exact ik_ xs ys d q m h
   · cases h
theorem rK_:∀ (k:Nat) (c:Con),c.sz≤k→∀ d n,(c.fits d n).1=true→(c.fits d n).2≤64
 | 0,c,h=>by have:=c.sz_pos;omega
 | k+1,c,h=>fun d n e=>by
   rw[fits_eq]at e ⊢
   split at e
   · cases e
   · rename_i y
     rw[if_neg y];simp only[Bool.or_eq_true,decide_eq_true_eq,not_or,Nat.not_lt]at y
     have x:∀ (ps:List Con),(∀ p∈ps,p.sz≤k)→∀ n,n≤64→(fits.fitss ps (d+1) n).1=true→(fits.fitss ps (d+1) n).2≤64:=by
       intro ps
       induction ps with
       | nil=>intro _ n A _;simpa [fits.fitss] using A
       | cons p ps ih =>
         intro v n A e;simp only[fits.fitss]at e ⊢
         split at e
         · rename_i m hm
           have:=rK_ k p (v p zaf_) (d+1) n (by rw[hm]);rw[hm]at this;exact ih (fun q B=>v q (by simp[B])) m this e
         · cases e
     exact x c.parts (fun p v=>by have:=sz_part v;omega) (n+1) zaa_ e
theorem take_snoc {ps:List Con} {p:Con} {i:Nat} (e:ps[i]? = some p):ps.take (i+1)=ps.take i++[p]:=by rw[List.take_add_one,e];rfl
theorem fitss_step {ps:List Con} {p:Con} {i d n m:Nat} (v:ps[i]? = some p) (h:fits.fitss (ps.take i) d n=(true,m)) (e:(p.fits d m).1=true) :
    fits.fitss (ps.take (i+1)) d n=(true,(p.fits d m).2)∧(p.fits d m).2≤64:=by
  refine⟨?_,rK_ _ p (Nat.le_refl _) d m e⟩;rw[take_snoc v,ik_ _ _ _ _ _ h];simp only[fits.fitss];rcases hq:p.fits d m with⟨b,q⟩
  rw[hq]at e;simp only at e;subst e;rfl
theorem fits_no {k lo hi:Int} {nm:Str} {ad:Ao} {cap:Nat} {ps:List Con} {p:Con} {i d n m:Nat} (y:¬ (8<d∨64<n+1)) (v:ps[i]? = some p) (h:fits.fitss (ps.take i) (d+1) (n+1)=(true,m)) (x:(p.fits (d+1) m).1=false) :
    (mk k nm lo hi ad cap ps).fits d n=(false,(p.fits (d+1) m).2):=by
  rw[fits_eq,if_neg (by simpa using y)]
  have e:ps=ps.take i++p::ps.drop (i+1):=by
    have hi:=(List.getElem?_eq_some_iff.1 v).1;rw[List.getElem?_eq_getElem hi]at v;simp only[Option.some.injEq]at v;subst v;rw[List.getElem_cons_drop hi,List.take_append_drop]
  show fits.fitss ps (d+1) (n+1)=_
  rw[e,ik_ _ _ _ _ _ h];simp only[fits.fitss];rcases hq:p.fits (d+1) m with⟨b,q⟩
  rw[hq]at x;simp only at x;subst x;rfl
theorem fits_yes {k lo v:Int} {nm:Str} {ad:Ao} {cap:Nat} {ps:List Con} {i d n m:Nat} (e:¬ (8<d∨64<n+1)) (hi:ps.length≤i) (h:fits.fitss (ps.take i) (d+1) (n+1)=(true,m)) :
    (mk k nm lo v ad cap ps).fits d n=(true,m):=by
  rw[fits_eq,if_neg zbc_];rw[List.take_of_length_le hi]at h;exact h
end Go.Vs.Con
namespace Go.Vs
open Go Go.Sx
def dF_:List (Int×Int×Int×Bool):=[(0,0,0,false),(0,0,0,false),(0,0,0,false),(1,0,0,false),(2,0,0,false),(0,2,8,false),(1,1,1,false),(1,0,0,true)]
def wa_ (x:Int×Int×Int×Bool):List Value:=[.int .i64 x.1,.int .i64 x.2.1,.int .i64 x.2.2.1,.bool x.2.2.2]
theorem lM_ (x:Int×Int×Int×Bool):(wa_ x).length=4:=rfl
def nd (k:Int):Int×Int×Int×Bool:=(dF_[k.toNat]?).getD (0,0,0,false)
namespace Con
def fieldErr (c:Con):Int :=
  if c.kind<1∨7<c.kind then 21
  else if (c.parts.length:Int)<(nd c.kind).2.1∨(nd c.kind).2.2.1<(c.parts.length:Int)∨((nd c.kind).1=0∧c.name≠[]) then 21
  else if (nd c.kind).2.2.2=true∧(c.lo < -1099511627776∨c.hi<c.lo∨1099511627776<c.hi) then 21
  else if (nd c.kind).2.2.2=false∧(c.lo≠0∨c.hi≠0) then 21
  else if (nd c.kind).1=0∨bk_ c.name=true∨((nd c.kind).1=2∧cQ_ c.name=true) then 0
  else 20
def firstErr:Con→Int
  | c@(mk _ _ _ _ _ _ ps)=>if c.fieldErr=0 then firstErrs ps else c.fieldErr
where firstErrs:List Con→Int
  | []=>0
  | p::ps=>if firstErr p=0 then firstErrs ps else firstErr p
theorem firstErr_eq (c:Con):c.firstErr=if c.fieldErr=0 then firstErr.firstErrs c.parts else c.fieldErr:=by cases c;simp only[firstErr,parts]
def check (c:Con):Int:=if (c.fits 0 0).1 then c.firstErr else 21
end Con
end Go.Vs
namespace Go.Sx
open Go Go.Vs
section
variable {P:Program} {N:Nat} {v0:Vw} {H0:Hp} {R:Exit→Act→World→Prop} {K:List Kt} {fr:Fr} {H:Hp} {Γ:List Fct}
theorem ret0 {fn:Func} {ι:Type} {F:Hp} {ret:ι→Value} {H':ι→Hp} {Γ':ι→List Fct} (h:fn.results=#[]) (x:ι) (C:.tuple #[]=ret x) (E:H.Perm (H' x++F))
    (y:∀ v,v.sat H→ad_ Γ v→ad_ (Γ' x) v):Ok N v0 H0 (bodyPost P fn (lx_ v0 H0 ret H' Γ') .ret) fr H Γ :=
  dk_ E y fun a v e m A B=>⟨e.defers,ret x,by rw[results_none h,C],x,v,rfl,rfl,m,B,A⟩
theorem ck_ {fn:Func} {ι:Type} {F:Hp} {e:ι→Value} {H':ι→Hp} {Γ':ι→List Fct} (h:fn.results=#[]) (x:ι) (y:.tuple #[]=e x) (A:H.Perm (H' x++F))
    (m:∀ v,v.sat H→ad_ Γ v→ad_ (Γ' x) v):Ok N v0 H0 (bodyPost P fn (lx_ v0 H0 e H' Γ') .normal) fr H Γ :=
  ret0 h x y A m
theorem oz_ {fn:Func} {t b:Nat} {ty T:TypeId} {u:Value} (i:Nat) (x:fn.results=#[.cell t ty]) (A:∀ w,(isAgg ty).run P w=.ok false w) (B:Fr.get fr t=some (.pointer (some ⟨b,0,none⟩))) (hi:H[i]? = some (b,.cells #[u] T (0,0))) (a:Act) (v:Vw) (h:Fr.sat N fr a) (y:v.sat H) :
    (results fn a.tmps).run P v.w=.ok u v.w:=by
  have e:=h.val t _ B;have m:v.w.cell? ⟨b,0,none⟩=some u:=by rw[fb_ y hi];rfl
  have hl:=cd_ (t:=ty) (w:=v.w) A m;simp[results,x,e,asAddr,hl]
variable {F:Fence} {n:Nat} {D:List Deferred} {ops:Array Oper} {l:List Oper} {d:Nat} {ty:TypeId} {ps:String} {af:Array Edge}
theorem cI_ {k:Act→World→Prop} {H' F:Hp} {Γ':List Fct} (m:H.Perm (H'++F)) (B:∀ v,v.sat H→ad_ Γ v→ad_ Γ' v) (h:OkD N D v0 H0 k fr H' Γ'):OkD N D v0 H0 k fr H Γ :=
  fun a v x e A C=>h a v x (e.perm m).sub (A.subR fun b y=>by
    have:b∈(H'++F).map Prod.fst:=by rw[List.map_append];exact List.mem_append_left _ y
    exact (m.map Prod.fst).mem_iff.2 this) (B v e C)
theorem te_ {t:TypeId} {x y:Operand} {b:Nat} (A:Opn F) (i:Nat) {cur:Array Value} {T:TypeId} {c:Con} (C:∀ w,(sizeOf t).run P w=.ok 5 w)
    (B:Fr.ev fr x=some (.pointer (some ⟨b,0,none⟩))) (m:Fr.ev fr y=some c.val) (hi:H[i]? = some (b,.cells cur T (0,0))) (h:cur.size=5)
    (v:fi_ F n P R N D v0 H0 ops l K fr (H.set i (b,.cells c.cells.toArray T (0,0))) Γ) :
    fi_ F n P R N D v0 H0 ops (⟨none,.store t x y,ty,ps,af,none⟩::l) K fr H Γ:=by
  refine ef_ A i C B m hi (by simp[Con.val,Value.cells,c.cells_len]) (by simp[h]) (rV_ c) ?_
  have e:(cur.toList.take 0++c.val.cells.toList++cur.toList.drop (0+5)).toArray=c.cells.toArray:=by
    have E:cur.toList.length=5:=by simp[h]
    simp[Con.val,Value.cells,List.drop_of_length_le (show cur.toList.length≤5 by omega)]
  rw[e];exact v
theorem fu_ {σ τ:Type} {Hj:σ→Hp} {Hx:τ→Hp} {h G:Hp} {res:σ ⊕ τ} (e:σ) (m:res=.inl e) (A:H.Perm (Hj e++h++G)):OkD N [] v0 H0 (vA_ v0 H0 Hj Hx h res .normal) fr H Γ :=
  cI_ (Γ':=[]) A (fun _ _ _=>trivial) fun a v B x y _=>⟨e,v,m,rfl,x,y⟩
theorem xd_ {σ τ:Type} {Hj:σ→Hp} {Hx:τ→Hp} {e G:Hp} {res:σ ⊕ τ} (t:τ) (h:res=.inr t) (y:H.Perm (Hx t++e++G)):OkD N [] v0 H0 (vA_ v0 H0 Hj Hx e res .ret) fr H Γ :=
  cI_ (Γ':=[]) y (fun _ _ _=>trivial) fun a v A m x _=>⟨t,v,h,rfl,m,x⟩
theorem dB_ {ι:Type} {e:ι→Fr} {Hs:ι→Hp} {m:ι→List Fct} (i:ι) {F:Hp} (h:Fr.le (e i) fr) (y:H.Perm (Hs i++F)) (x:∀ v,v.sat H→ad_ Γ v→ad_ (m i) v) :
    OkD N [] v0 H0 (Mid N v0 H0 e Hs m .normal) fr H Γ:=dA_.2 (dl_ i h y x)
end
end Go.Sx
namespace Go.Vs.Con
def fold {σ τ:Type} (f:Con→σ→σ ⊕ τ):Con→σ→σ ⊕ τ
  | c@(mk _ _ _ _ _ _ ps),s=>match f c s with|.inl s'=>folds f ps s'|.inr t=>.inr t
where folds {σ τ:Type} (f:Con→σ→σ ⊕ τ):List Con→σ→σ ⊕ τ
  | [],s=>.inl s
  | p::ps,s=>match fold f p s with|.inl s'=>folds f ps s'|.inr t=>.inr t
section
variable {σ τ:Type} {f:Con→σ→σ ⊕ τ}
theorem fold_eq (c:Con) (s:σ):fold f c s=match f c s with|.inl s'=>fold.folds f c.parts s'|.inr t=>.inr t:=by cases c;rw[fold];rfl
theorem ih_:∀ (xs ys:List Con) (s m:σ),fold.folds f xs s=.inl m→fold.folds f (xs++ys) s=fold.folds f ys m
 | [],ys,s,m,h=>by simp only[fold.folds,Sum.inl.injEq]at h;subst h;rfl
 | x::xs,ys,s,m,h=>by
   simp only[fold.folds,List.cons_append]at h ⊢
   split at h
   · rename_i q e;exact ih_ xs ys q m h
   · cases h
theorem folds_step {ps:List Con} {p:Con} {i:Nat} {s m e:σ} (v:ps[i]? = some p) (h:fold.folds f (ps.take i) s=.inl m) (x:fold f p m=.inl e):fold.folds f (ps.take (i+1)) s=.inl e:=by
  rw[take_snoc v,ih_ _ _ _ _ h];simp only[fold.folds,x]
theorem folds_no {ps:List Con} {p:Con} {i:Nat} {s m:σ} {t:τ} (v:ps[i]? = some p) (h:fold.folds f (ps.take i) s=.inl m) (x:fold f p m=.inr t):fold.folds f ps s=.inr t:=by
  have e:ps=ps.take i++p::ps.drop (i+1):=by
    have hi:=(List.getElem?_eq_some_iff.1 v).1;rw[List.getElem?_eq_getElem hi]at v;simp only[Option.some.injEq]at v;subst v;rw[List.getElem_cons_drop hi,List.take_append_drop]
  rw[e,ih_ _ _ _ _ h];simp only[fold.folds,x]
theorem folds_yes {ps:List Con} {i:Nat} {s m:σ} (hi:ps.length≤i) (h:fold.folds f (ps.take i) s=.inl m):fold.folds f ps s=.inl m:=by
  rwa [List.take_of_length_le hi]at h
end
def chk (c:Con) (_:Unit):Unit ⊕ Int:=if c.fieldErr=0 then .inl () else .inr c.fieldErr
theorem fold_chk:∀ (m:Nat) (c:Con),c.sz≤m→fold chk c ()=if c.firstErr=0 then .inl () else .inr c.firstErr
 | 0,c,h=>by have:=c.sz_pos;omega
 | m+1,c,h=>by
   rw[fold_eq,firstErr_eq,chk]
   have x:∀ (ps:List Con),(∀ p∈ps,p.sz≤m)→fold.folds chk ps ()=if firstErr.firstErrs ps=0 then .inl () else .inr (firstErr.firstErrs ps):=by
     intro ps
     induction ps with
     | nil=>intro _;simp[fold.folds,firstErr.firstErrs]
     | cons p ps ih =>
       intro v;simp only[fold.folds,firstErr.firstErrs];rw[fold_chk m p (v p zaf_)]
       by_cases e:p.firstErr=0
       · simp only[e,if_true]
         exact ih fun q y=>v q zbD_
       · simp[e]
   by_cases e:c.fieldErr=0
   · simp only[e,if_true]
     exact x c.parts fun p v=>by have:=sz_part v;omega
   · simp[e]
def cnt (_:Con) (n:Nat):Nat ⊕ Empty:=.inl (n+1)
end Go.Vs.Con
namespace Go.Sx
open Go
theorem jaf {A B:Bool} (h:A=false):false=(A&&B):=by rw[h];rfl
theorem jat {A B r:Bool} (h:A=true) (d:B=r):r=(A&&B):=by rw[h,← d];rfl
theorem jot {A B:Bool} (h:A=true):true=(A||B):=by rw[h];rfl
theorem jof {A B r:Bool} (h:A=false) (d:B=r):r=(A||B):=by rw[h,← d];rfl
theorem jn {A r:Bool} (h:A=r):(!A)=(!r):=by rw[h]
section
variable {P:Program} {N:Nf} {v0:Vw} {H0:Hp} {R:Exit→Act→World→Prop} {K:List Kt} {fr:Fr} {H:Hp} {Γ:List Fct}
variable {ops:Array Oper} {l:List Oper}
theorem pV_ {Q y:Exit→Act→World→Prop} {o:Oper} {a:Act} {w:World} {B C:Act→World→Prop} (h:∀ a w,B a w→C a w) (A:∀ c a w,Q (.panic c) a w→y (.panic c) a w) (E:∀ a w,Q .outgrown a w→y .outgrown a w)
    (d:o.wp P a w B Q):o.wp P a w C y:=by
  unfold Oper.wp at *;generalize (execOp a.eval o).run P w=r at *
  cases r with
  | ok n w' =>
    cases n<;>simp only[Oper.upon]at d ⊢ <;>
      first
        | exact h _ _ d
        | exact Calls.mono d (fun e F m=>by
            cases e with
            | returned v=>exact h _ _ m
            | panicked c=>exact A _ _ _ m
            | outgrown=>obtain⟨a,w,q⟩:=m;exact⟨a,w,E _ _ q⟩)
        | exact Rows.mono d (fun _ _ m=>h _ _ m)
  | halt x w'=>cases x<;>simp only[Oper.upon]at d ⊢<;>first|exact A _ _ _ d|exact d
theorem kh_ {m:List Oper}:∀ (d:List Oper) (a:Act) (w:World),wpList P ops (post P R (.inv (wpList P ops (post P R K) m)::K)) d a w→wpList P ops (post P R K) (d++m) a w
 | [],a,w,h=>h
 | o::d,a,w,h=>by
   simp only[wpList,List.cons_append]at h ⊢
   split
   · rename_i e
     rw[if_pos e]at h;rcases h with h|⟨h,a',w',q⟩
     · exact .inl (pV_ (fun a w q=>kh_ d a w q) (fun c a w q=>q) (fun a w q=>q) h)
     · exact .inr ⟨h,a',w',q⟩
   · rename_i e
     rw[if_neg e]at h;exact kh_ d _ _ h
def we_:Nat→List Oper→List Oper
  | 0,_=>[]
  | _,[]=>[]
  | n+1,o::l=>o::we_ n l
def wf_:Nat→List Oper→List Oper
  | 0,l=>l
  | _,[]=>[]
  | n+1,_::l=>wf_ n l
theorem oR_:∀ (n:Nat) (l:List Oper),we_ n l++wf_ n l=l
  | 0,_=>rfl
  | n+1,[]=>rfl
  | n+1,o::l=>by show o::(we_ n l++wf_ n l)=o::l;rw[oR_ n l]
def MetJ (N:Nf) (v0:Vw) (H0:Hp) (fr:Fr) (H:Hp) (Γ:List Fct) (a:Act) (w:World):Prop:=∃ v,v.w=w∧Fr.sat N fr a∧v.sat H∧v0.to H0 v H∧ad_ Γ v
theorem aB_ (n:Nat) (X:Bool) (d:Bool→Fr) (B:Ops P R N v0 H0 ops (we_ n l) (.inv (MetJ N v0 H0 (d X) H Γ)::K) fr H Γ)
    (E:∀ r,X=r→Ops P R N v0 H0 ops (wf_ n l) K (d r) H Γ):Ops P R N v0 H0 ops l K fr H Γ:=by
  intro a v L y A I;rw[← oR_ n l];refine kh_ _ _ _ ?_;have G:=B a v L y A I;refine wpL_mono ?_ _ _ _ G;rintro a' w' ⟨C,rfl,k1,k2,F,x⟩;exact E X rfl a' C k1 k2 F x
where wpL_mono {J J':Act→World→Prop} (hJ:∀ a w,J a w→J' a w):∀ (e:List Oper) (a:Act) (w:World),wpList P ops (post P R (.inv J::K)) e a w→wpList P ops (post P R (.inv J'::K)) e a w
  | [],a,w,h=>hJ _ _ h
  | o::e,a,w,h=>by
    simp only[wpList]at h ⊢
    split
    · rename_i m
      rw[if_pos m]at h;rcases h with h|⟨h,a',w',q⟩
      · exact .inl (pV_ (fun a w q=>wpL_mono hJ e a w q) (fun c a w q=>q) (fun a w q=>q) h)
      · exact .inr ⟨h,a',w',q⟩
    · rename_i m
      rw[if_neg m]at h;exact wpL_mono hJ e _ _ h
theorem met {d:Fr} (e:Fr.le d fr):Ok N v0 H0 (MetJ N v0 H0 d H Γ) fr H Γ :=
  bt_ d e fun _ v h m x y=>⟨v,rfl,h,m,x,y⟩
end
end Go.Sx
namespace Go.Sx
open Go
theorem z_ {α:Type} {f:α→List Value} {n:Nat} (h:∀ x,(f x).length=n) {l:List α} {i:Nat} {x:α} (m:l[i]? = some x):∀ j y,(f x)[j]? = some y→(l.flatMap f)[i*n+j]? = some y:=by
  intro j y e
  have d:j<n:=by
    have:=(List.getElem?_eq_some_iff.1 e).1;rwa [h]at this
  rw[kD_ f n h l i j x m d];exact e
theorem aK_ {α:Type} {f:α→List Value} {n:Nat} (m:∀ x,(f x).length=n) (A:0<n) {v:Vw} {ad:Ao} {l:List α} {i:Nat} {x:α} (h:bY_ v ad (l.flatMap f)) (y:l[i]? = some x):∃ b off,ad=some ⟨b,off,none⟩:=by
  refine h.addr fun e=>?_;have d:=z_ m y 0 _ (List.getElem?_eq_getElem (by rw[m];exact A));rw[e]at d;simp at d
def au_ (s:List UInt8):List Value:=[str s]
theorem aY_ (s:List UInt8):(au_ s).length=1:=rfl
end Go.Sx
namespace Go.Vs
open Go Go.Sx
structure Ax where
  kind:Int
  opn:Bool
  left:Con
  right:Con
  ad:Ao
  cap:Nat
  roles:List Str
  role:Str
  a:Str
  b:Str
namespace Ax
def cells (x:Ax):List Value:=.int .i64 x.kind::.bool x.opn::(x.left.cells++(x.right.cells++[.slice x.ad x.roles.length x.cap,str x.role,str x.a,str x.b]))
def val (x:Ax):Value:=.agg x.cells.toArray
theorem cells_len (x:Ax):x.cells.length=16:=by simp[cells,Con.cells_len]
def mem (x:Ax) (v:Vw):Prop:=x.left.mem v∧x.right.mem v∧bY_ v x.ad (x.roles.flatMap au_)
def memF (x:Ax):Fct:=⟨x.mem,fun v v' h hp=>⟨x.left.memF.mono v v' h hp.1,x.right.memF.mono v v' h hp.2.1,(X_ x.ad (x.roles.flatMap au_)).mono v v' h hp.2.2⟩⟩
structure ok (x:Ax):Prop where
  lo:-9223372036854775808≤x.kind
  hi:x.kind≤9223372036854775807
  left:x.left.ok
  right:x.right.ok
  len:x.roles.length≤x.cap
  cap:x.roles.length≤8796093021952
  roles:∀ r∈x.roles,r.length≤140737488351232
  role:x.role.length≤140737488351232
  a:x.a.length≤140737488351232
  b:x.b.length≤140737488351232
end Ax
def Con.empty (c:Con):Bool:=((((c.kind==0)&&(c.name==[]))&&(c.lo==0))&&(c.hi==0))&&((c.parts.length:Int)==0)
def Con.bare:Con→Bool
  | mk k _ _ _ _ _ ps=>(k==4)||((k==5)&&bares ps)
where bares:List Con→Bool
  | []=>false
  | p::ps=>bare p||bares ps
theorem Con.bares_any:∀ (ps:List Con),Con.bare.bares ps=ps.any Con.bare
  | []=>rfl
  | p::ps=>by simp[Con.bare.bares,Con.bares_any ps]
theorem Con.bare_eq (c:Con):c.bare=((c.kind==4)||((c.kind==5)&&c.parts.any Con.bare)):=by cases c;simp only[Con.bare,Con.bares_any,kind,parts]
structure Use where
  left:Bool
  right:Bool
  role:Bool
  a:Bool
  b:Bool
  least:Int
  most:Int
def Use.cells (u:Use):List Value:=[.bool u.left,.bool u.right,.bool u.role,.bool u.a,.bool u.b,.int .i64 u.least,.int .i64 u.most]
theorem Use.cells_len (u:Use):u.cells.length=7:=rfl
def pE_:List Use:=[⟨false,false,false,false,false,0,0⟩,⟨true,true,false,false,false,0,0⟩,⟨true,true,false,false,false,0,0⟩,⟨true,true,false,false,false,0,0⟩,⟨false,true,true,false,false,0,0⟩,
  ⟨false,false,true,false,false,1,1⟩,⟨false,false,true,false,false,2,4⟩,⟨false,false,true,false,false,0,0⟩,⟨false,true,false,true,false,0,0⟩,⟨false,false,true,true,true,0,0⟩]
def us (k:Int):Use:=(pE_[k.toNat]?).getD ⟨false,false,false,false,false,0,0⟩
namespace Ax
def shaped (x:Ax):Bool :=
  if x.kind<1∨9<x.kind then false else
    let u:=us x.kind
    (((((((u.left||x.left.empty)&&(u.right||x.right.empty))&&(u.role||(x.role==[])))&&(u.a||(x.a==[])))&&(u.b||(x.b==[])))&&decide (u.least≤(x.roles.length:Int)))&&decide ((x.roles.length:Int)≤u.most))
def namedU (x:Ax) (u:Use):Bool:=!(u.role&&!bk_ x.role||u.a&&!aN_ x.a||u.b&&!aN_ x.b)&&x.roles.all bk_
def check (x:Ax):Int :=
  if x.shaped=false then 22
  else if x.namedU (us x.kind)=false then 20
  else if (us x.kind).left=true∧x.left.check≠0 then x.left.check
  else if (us x.kind).right=true∧x.right.check≠0 then x.right.check
  else if x.kind=2∧(x.left.bare=true∨x.right.bare=true) then 22
  else if (x.kind=1∨x.kind=4∨x.kind=8)∧x.right.bare=true then 22
  else 0
end Ax
structure NUse where
  a:Bool
  b:Bool
  c:Bool
  r:Bool
  s:Bool
  t:Bool
  numbers:Bool
def NUse.cells (u:NUse):List Value:=[.bool u.a,.bool u.b,.bool u.c,.bool u.r,.bool u.s,.bool u.t,.bool u.numbers]
theorem NUse.cells_len (u:NUse):u.cells.length=7:=rfl
def gF_:List NUse:=[⟨false,false,false,false,false,false,false⟩,⟨true,false,true,false,false,false,false⟩,⟨true,true,true,false,false,false,false⟩,⟨true,false,true,true,false,false,false⟩,⟨true,false,true,true,false,false,false⟩,
  ⟨false,false,false,true,false,true,false⟩,⟨false,false,false,true,true,true,false⟩,⟨false,false,false,true,false,false,false⟩,⟨true,false,false,true,false,false,true⟩,⟨false,false,true,true,false,false,true⟩]
def nus (k:Int):NUse:=(gF_[k.toNat]?).getD ⟨false,false,false,false,false,false,false⟩
end Go.Vs
namespace Go.Sx
open Go
def bl_ (b:Nat) (o:Obj):Fct where
  p:=fun v=>v.im b∧v.w.heap[b]? = some o
  mono:=fun v v' h hp=>⟨h.imUp b hp.1,by rw[h.block b hp.1];exact hp.2⟩
section
variable {P:Program} {N:Nf} {v0:Vw} {H0:Hp} {R:Exit→Act→World→Prop} {K:List Kt} {fr:Fr} {H:Hp} {Γ:List Fct}
variable {ops:Array Oper} {l:List Oper} {d:Nat} {ty:TypeId} {ps:String} {af:Array Edge}
theorem ja_ {k:Act→World→Prop} {b:Nat} {o:Obj} (i:Nat) (hi:H[i]? = some (b,o)) (h:Ok N v0 H0 k fr (H.eraseIdx i) (bl_ b o::Γ)):Ok N v0 H0 k fr H Γ :=
  en_ (bl_ b o) (gf_ hi) (fun _ e m _=>⟨e,m⟩) h
theorem bu_ {t:TypeId} (e:Nat.blt d N.n=true) (h:∀ b,Ops P R N v0 H0 ops l K ((d,.map (some b))::fr) ((b,.map #[] 0)::H) Γ) :
    Ops P R N v0 H0 ops (⟨some d,.makeMap t none,ty,ps,af,none⟩::l) K fr H Γ :=
  hb_ (x:=fun b=>.map (some b)) e (fun a v m _ _=>by simp[execOp,Instr.makeMap,newObj];rfl) h
def hM_ (P:Program) (k:TypeId) (key:Value):Prop:=∀ e w,(Instr.checkKey e 10000 k key).run P w=.ok () w
def da_ (P:Program) (k:TypeId) (key:Value) (es:List MapEntry) (r:Option (Nat×Value)):Prop:=∀ w,(Instr.findKey k key es).run P w=.ok r w
theorem aS_ {k:TypeId} {i:IntKind} {n:Int} (h:P.underlying k=some (.int i)):hM_ P k (.int i n):=fun e w=>by
  exact key (9999) e w
where key (m:Nat) (e:Bool) (w:World):(Instr.checkKey e (m+1) k (.int i n)).run P w=.ok () w:=by simp[Instr.checkKey,run_underlying h]
theorem ay_ {k:TypeId} {dd:TypeDesc} {e:Value} {es:List MapEntry} {r:Option (Nat×Value)} (m:P.underlying k=some dd) (h:Instr.findNow dd e es 0=some r):da_ P k e es r:=fun w=>by
  simp[Instr.findKey,run_underlying m,h]
theorem eJ_ {t h F:TypeId} {x y:Operand} {b c i:Nat} {es:Array MapEntry} {e u:Value} (B:∀ w,(underlying t).run P w=.ok (.map h F) w) (C:Fr.ev fr x=some (.map (some b))) (G:Fr.ev fr y=some e)
    (hm:∀ v,v.sat H→ad_ Γ v→v.w.heap[b]? = some (.map es c)) (I:hM_ P h e) (A:da_ P h e es.toList (some (i,u))):Yld P N fr H Γ (.lookup t x y false) ty u :=
  fun a v m J L _ _ _=>by
    have E:=MapKept.run_getObj_map (P:=P) (hm v J L);simp[execOp,m.ev C,m.ev G,Instr.lookup,B,E,I _ _,A _]
theorem eV_ {t h m:TypeId} {x y:Operand} {b c:Nat} {es:Array MapEntry} {e z:Value} (C:∀ w,(underlying t).run P w=.ok (.map h m) w) (M:∀ w,(zeroValue m).run P w=.ok z w) (E:Fr.ev fr x=some (.map (some b))) (G:Fr.ev fr y=some e)
    (hm:∀ v,v.sat H→ad_ Γ v→v.w.heap[b]? = some (.map es c)) (I:hM_ P h e) (B:da_ P h e es.toList none):Yld P N fr H Γ (.lookup t x y false) ty z :=
  fun a v A J L _ _ _=>by
    have F:=MapKept.run_getObj_map (P:=P) (hm v J L);simp[execOp,A.ev E,A.ev G,Instr.lookup,C,F,I _ _,B _,M]
theorem aC_ {o:Op} {t A S:TypeId} {x y z:Operand} {b c:Nat} (i:Nat) {es:Array MapEntry} {e u:Value} (J:o=.insert t x y z∨o=.mapUpdate t x y z) (M:∀ w,(underlying t).run P w=.ok (.map A S) w)
    (O:Fr.ev fr x=some (.map (some b))) (T:Fr.ev fr y=some e) (X:Fr.ev fr z=some u) (hi:H[i]? = some (b,.map es c)) (B:hM_ P A e) (L:da_ P A e es.toList none)
    (C:Ops P R N v0 H0 ops l K fr (H.set i (b,.map (es.push ⟨e,u,c⟩) (c+1))) Γ):Ops P R N v0 H0 ops (⟨none,o,ty,ps,af,none⟩::l) K fr H Γ :=
  cR_ rfl fun a v h E U V=>by
    have m:=(E.own _ (List.mem_of_getElem? hi)).1;have W:=MapKept.run_getObj_map (P:=P) m;have Q:=MapKept.run_setObj_map (P:=P) (.map (es.push ⟨e,u,c⟩) (c+1)) m
    have I:(execOp a.eval ⟨none,o,ty,ps,af,none⟩).run P v.w=.ok .skip { v.w with heap:=v.w.heap.setIfInBounds b (.map (es.push ⟨e,u,c⟩) (c+1)) }:=by
      rcases J with rfl|rfl<;>simp[execOp,h.ev O,h.ev T,h.ev X,Instr.mapUpdate,M,W,B _ _,L _,Q]
    unfold Oper.wp;rw[I];have G:=MapKept.heap_set (o':=.map (es.push ⟨e,u,c⟩) (c+1)) m;obtain⟨Y,F⟩:=eY_ (w':={ v.w with heap:=v.w.heap.setIfInBounds b (.map (es.push ⟨e,u,c⟩) (c+1)) }) E hi rfl rfl rfl (Nat.le_refl _) zaf_ G.1 (fun k B=>G.2 k B);exact C a _ h Y (U.trans F) (aD_ (F.le E) V)
theorem cL_ {f:FuncId} {args:Array Value} {r:Value} (E:fj_ P f) (h:∀ v:Vw,v.sat H→ad_ Γ v→Calls P f args v.w fun e w'=>e=.returned r∧RowKit.Below v.w.heap.size v.w w'∧(v.sl∨v.w.drawn≤w'.drawn)):Tri P f args H Γ (fun _:Unit=>r) (fun _=>H) (fun _=>[]) :=
  ⟨E,fun v y G=>(h v y G).mono fun e w' ⟨F,x,I⟩=>by
    have A:v.w.heap.size≤w'.heap.size:=x.size;have C:∀ p∈H,p.1<v.w.heap.size:=fun p B=>(Array.getElem?_eq_some_iff.1 (y.own p B).1).1
    refine⟨(),⟨v.im,w',v.sl⟩,F,rfl,⟨fun p B=>⟨?_,(y.own p B).2⟩,y.nodup,fun b m=>Nat.lt_of_lt_of_le (y.lt b m) A⟩,trivial,⟨x.os,x.tape,x.output,A,fun b m _=>x.block b m,fun _ h=>h,fun _ h=>.inl h,fun _ h=>.inl h,rfl,I⟩⟩;show w'.heap[p.1]? = _
    rw[x.block p.1 (C p B)];exact (y.own p B).1⟩
theorem vw_ (w:World) (k:Nat) (os:Array Obj):RowKit.Below w.heap.size w (Go.Sort.grow (w.drewN k) os) :=
  ⟨rfl,rfl,rfl,by simp[Go.Sort.grow],fun b e=>by simp only[Go.Sort.grow,World.heap_drewN];rw[Array.getElem?_append_left e]⟩
theorem hh_ {t e:TypeId} {sz by':Nat} {z:Value} (v:P.underlying t=some (.slice e)) (hi:(P.info? e).map (fun i=>(i.zero,i.size,i.bytes))=some (some z,sz,by')) (x:z.cells.size=sz) (m:0<sz):Elt P t e sz by':=by
  refine⟨v,?_,m⟩;cases h:P.info? e with
  | none=>rw[h]at hi;cases hi
  | some i =>
    rw[h]at hi;simp only[Option.map_some,Option.some.injEq,Prod.mk.injEq]at hi;exact⟨i,z,rfl,hi.1,hi.2.1,hi.2.2,x⟩
theorem bz_ {b:Nat} {cs:List Value} {T:TypeId} {fz:Nat×Nat} (i:Nat) (hi:H[i]? = some (b,.cells cs.toArray T fz)):∀ v:Vw,v.sat H→ad_ Γ v→∀ j u,cs[j]? = some u→v.w.cell? ((⟨b,0,none⟩:Addr).add j)=some u:=by
  intro v e _ j u h;rw[cK_,Nat.zero_add,fb_ e hi];simpa using h
theorem cS_ {N:Nat} {fn:Func} {ι:Type} {F:Hp} {ret:ι→Value} {H':ι→Hp} {Γ':ι→List Fct} (x:ι) (A:∀ (a:Act) (v:Vw),Fr.sat N fr a→v.sat H→(results fn a.tmps).run P v.w=.ok (ret x) v.w) (m:H.Perm (H' x++F))
    (y:∀ v,v.sat H→ad_ Γ v→ad_ (Γ' x) v):Ok N v0 H0 (bodyPost P fn (lx_ v0 H0 ret H' Γ') .ret) fr H Γ :=
  fun a v h e C E=>⟨h.defers,ret x,A a v h e,x,v,rfl,rfl,(e.perm m).sub,y v e E,C.subR fun b B=>by
    have:b∈(H' x++F).map Prod.fst:=by rw[List.map_append];exact List.mem_append_left _ B
    exact (m.map Prod.fst).mem_iff.2 this⟩
theorem dz_ {fn:Func} {t b n:Nat} {ty T:TypeId} {us:List Value} (i:Nat) (A:fn.results=#[.cell t ty]) (C:∀ w,(isAgg ty).run P w=.ok true w) (m:∀ w,(sizeOf ty).run P w=.ok n w) (E:us.length=n) (h:Fr.get fr t=some (.pointer (some ⟨b,0,none⟩)))
    (hi:H[i]? = some (b,.cells us.toArray T (0,0))) (a:Act) (v:Vw) (x:Fr.sat N fr a) (B:v.sat H):(results fn a.tmps).run P v.w=.ok (.agg us.toArray) v.w:=by
  have e:=x.val t _ h;have hl:=dL_ (t:=ty) (w:=v.w) (b:=b) (off:=0) C m E (fun j y F=>by rw[Nat.zero_add,fb_ B hi];simpa using F);simp[results,A,e,asAddr,hl]
theorem AN_ {Hs:Hp} {C:List Fct} {m:Nat} {e:Array Bool} (A:List Nat) (F:Region.ready .any ops e=A) (B:A≠[])
    (h:∀ i,i∈A→∃ o,ops[i]? = some o∧Ops P R N v0 H0 ops [o] (.inv (Nx P R ops Hs C m (e.setIfInBounds i true) K)::K) fr H Γ):Any P R N v0 H0 ops Hs C (m+1) e K fr H Γ:=by
  intro a v E G J L;refine wpAnyH_all F B fun j I=>?_;obtain⟨o,hi,h⟩:=h j I;have:=h a v E G J L;unfold wpOp;simp only[hi];unfold wpList at this
  split
  · rename_i y
    rw[if_pos y]at this;rcases this with q|q
    · left
      unfold Oper.wp at q ⊢;generalize (execOp a.eval o).run P v.w=r at q ⊢
      cases r with
      | ok n w' =>
        cases n<;>simp only[Oper.upon]at q ⊢<;>exact q
      | halt x w' =>
        cases x<;>simp only[Oper.upon]at q ⊢
        case panic u=>exact q
    · exact .inr q
  · rename_i y
    rw[if_neg y]at this;exact this
theorem hj_ {Hs:Hp} {v:List Fct} {m:Nat} {e:Array Bool} (i j:Nat) {o o':Oper} (hi:ops[i]? = some o) (B:ops[j]? = some o') (y:Region.ready .any ops e=[i,j])
    (h:Ops P R N v0 H0 ops [o] (.inv (Nx P R ops Hs v m (e.setIfInBounds i true) K)::K) fr H Γ) (A:Ops P R N v0 H0 ops [o'] (.inv (Nx P R ops Hs v m (e.setIfInBounds j true) K)::K) fr H Γ):Any P R N v0 H0 ops Hs v (m+1) e K fr H Γ :=
  AN_ [i,j] y zaf_ fun k x=>by
    simp only[List.mem_cons,List.not_mem_nil,or_false]at x;rcases x with rfl|rfl
    · exact⟨o,hi,h⟩
    · exact⟨o',B,A⟩
theorem az_.some {e:TypeId} {sz n:Nat} {sv:Value} {xs:List Value} {Hr:Hp} (h:az_ e sz sv n xs Hr) (v:n≠0) :
    ∃ g cap cur,sv=.slice (some ⟨g,0,none⟩) n cap∧Hr=[(g,.cells cur e (0,0))]∧n≤cap∧cap≤maxLen∧cur.size=cap*sz∧cur.toList.take (n*sz)=xs:=by
  rcases h.2 with⟨_,m,_⟩|m
  · exact absurd m v
  · exact m
theorem kY_ {us:List Value} (h:us.all Value.oneCell'=true):∀ u∈us,u.oneCell'=true:=fun u e=>List.all_eq_true.1 h u e
theorem ak_ {e:Nat} (Hs:Hp) (hm:P.follows .mixedOrders=true) (h:Any P R N v0 H0 ops Hs Γ ops.size (Array.replicate ops.size false) K fr H Γ):Run P R N v0 H0 (.region e ops true) K fr H Γ:=sG_ Hs Γ hm h
theorem retG {N:Nat} {fn:Func} {ι:Type} {F:Hp} {ret:ι→Value} {H':ι→Hp} {Γ':ι→List Fct} (x:ι) (B:∀ (a:Act) (v:Vw),Fr.sat N fr a→v.sat H→ad_ Γ v→(results fn a.tmps).run P v.w=.ok (ret x) v.w) (y:H.Perm (H' x++F))
    (A:∀ v,v.sat H→ad_ Γ v→ad_ (Γ' x) v):Ok N v0 H0 (bodyPost P fn (lx_ v0 H0 ret H' Γ') .ret) fr H Γ :=
  fun a v h e E m=>⟨h.defers,ret x,B a v h e m,x,v,rfl,rfl,(e.perm y).sub,A v e m,E.subR fun b C=>by
    have:b∈(H' x++F).map Prod.fst:=by rw[List.map_append];exact List.mem_append_left _ C
    exact (y.map Prod.fst).mem_iff.2 this⟩
theorem BB_ {fn:Func} {s t:Nat} {ad m:Addr} {ty h:TypeId} {u u':Value} {a:Act} {w:World} (E:fn.results=#[.cell s ty,.cell t h]) (G:∀ w,(isAgg ty).run P w=.ok false w) (v:∀ w,(isAgg h).run P w=.ok false w) (y:Fr.sat N fr a) (B:Fr.get fr s=some (.pointer (some ad))) (C:Fr.get fr t=some (.pointer (some m)))
    (A:w.cell? ad=some u) (x:w.cell? m=some u'):(results fn a.tmps).run P w=.ok (.tuple #[u,u']) w:=by
  have e:=y.val s _ B;have F:=y.val t _ C;simp[results,E,e,F,asAddr,cd_ G A,cd_ v x]
theorem oM_ {b:Nat} {cs:List Value} {T:TypeId} {fz:Nat×Nat} {v:Vw} (j:Nat) {u:Value} (h:(bl_ b (.cells cs.toArray T fz)).p v) (e:cs[j]? = some u):v.w.cell? ⟨b,j,none⟩=some u:=by
  simp[World.cell?,h.2,e]
theorem cr_ {t:TypeId} {x:Operand} {b off:Nat} {cs:List Value} {T:TypeId} {fz:Nat×Nat} {u:Value} {ty:TypeId} (y:∀ w,(isAgg t).run P w=.ok false w) (A:Fr.ev fr x=some (.pointer (some ⟨b,off,none⟩))) (e:∀ v,v.sat H→ad_ Γ v→(bl_ b (.cells cs.toArray T fz)).p v) (B:cs[off]? = some u):Yld P N fr H Γ (.load t x) ty u :=
  hp_ A fun v h m=>cd_ y (oM_ off (e v h m) B)
end
end Go.Sx
namespace Go.Vs
open Go Go.Sx
namespace Con
def text:Con→Str
  | mk k nm lo hi _ _ ps =>
    if k=1 then [101,118,101,114,121,116,104,105,110,103]
    else if k=2 then [110,111,116,104,105,110,103]
    else if k=3 then nm
    else if k=4 then [123]++nm++[125]
    else if k=5 then Lib.join (operands ps) [32,97,110,100,32]
    else if k=6 then Lib.join [[115,111,109,101],nm,(operands ps).headD []] [32]
    else Lib.join [nm,[105,110],Lib.itoa lo,[116,111],Lib.itoa hi] [32]
where operands:List Con→List Str
  | []=>[]
  | p::ps=>(if p.kind=5 then [40]++text p++[41] else text p)::operands ps
def operand (c:Con):Str:=if c.kind=5 then [40]++c.text++[41] else c.text
theorem nb_:∀ (ps:List Con),text.operands ps=ps.map operand
  | []=>rfl
  | p::ps=>by simp only[text.operands,List.map_cons,nb_ ps,operand]
theorem text_eq (c:Con):c.text =
    if c.kind=1 then [101,118,101,114,121,116,104,105,110,103]
    else if c.kind=2 then [110,111,116,104,105,110,103]
    else if c.kind=3 then c.name
    else if c.kind=4 then [123]++c.name++[125]
    else if c.kind=5 then Lib.join (c.parts.map operand) [32,97,110,100,32]
    else if c.kind=6 then Lib.join [[115,111,109,101],c.name,(c.parts.map operand).headD []] [32]
    else Lib.join [c.name,[105,110],Lib.itoa c.lo,[116,111],Lib.itoa c.hi] [32]:=by
  cases c;simp only[text,nb_];rfl
theorem lf_ (d:Str):∀ (xs:List Str),(Lib.join xs d).length≤(xs.map fun x=>x.length+d.length).sum
  | []=>by simp[Lib.join_nil]
  | [x]=>by simp[Lib.join_one]
  | x::y::r=>by
    have h:=lf_ d (y::r);have e:Lib.join (x::y::r) d=x++d++Lib.join (y::r) d:=by simp[Lib.join,List.intercalate]
    rw[e];simp only[List.length_append,List.map_cons,List.sum_cons]at h ⊢;omega
def fine (c:Con):Prop:=c.firstErr=0
theorem jd_:∀ {ps:List Con},firstErr.firstErrs ps=0↔∀ p∈ps,p.firstErr=0
 | []=>by simp[firstErr.firstErrs]
 | p::ps=>by
   simp only[firstErr.firstErrs,List.mem_cons,forall_eq_or_imp]
   by_cases h:p.firstErr=0
   · simp[h,jd_ (ps:=ps)]
   · simp[h]
theorem ll_ (c:Con):c.fine↔c.fieldErr=0∧∀ p∈c.parts,p.fine:=by
 unfold fine;rw[firstErr_eq]
 by_cases h:c.fieldErr=0
 ·simp[h,jd_]
 simp[h]
theorem fine_part {c p:Con} (h:c.fine) (d:p∈c.parts):p.fine:=((ll_ c).1 h).2 p d
structure Fields (c:Con):Prop where
  k1:1≤c.kind
  k7:c.kind≤7
  nm:c.name.length≤24
  le:(nd c.kind).2.1≤c.parts.length
  mo:c.parts.length≤(nd c.kind).2.2.1
theorem plain_len {s:Str} (h:bk_ s=true):s.length≤24:=by
  unfold bk_ at h
  split at h<;>simp_all
theorem reserved_len {s:Str} (h:cQ_ s=true):s.length≤24:=by
  unfold cQ_ at h;simp at h
  omega
theorem fields_of {c:Con} (h:c.fieldErr=0):Fields c:=by
 unfold fieldErr at h
 split at h
 ·cases h
 rename_i m
 split at h
 ·cases h
 rename_i e
 split at h
 ·cases h
 split at h
 ·cases h
 split at h
 ·rename_i d
  simp only[not_or,not_and]at m e;refine⟨by omega,by omega,?_,by omega,by omega⟩;rcases d with d|d|d
  ·have:=e.2.2 d
   simp only[ne_eq,Decidable.not_not]at this;rw[this];simp
  ·exact plain_len d
  exact reserved_len d.2
 cases h
theorem fields {c:Con} (h:c.fine):Fields c:=fields_of ((ll_ c).1 h).1
theorem text_len:∀ (m:Nat) (c:Con),c.sz≤m→c.ok→c.fine→c.text.length+10≤100*c.sz
 | 0,c,h=>by have:=c.sz_pos;omega
 | m+1,c,h=>fun d E=>by
   have F:=fields E;have M:=c.sz_pos
   have v:∀ p∈c.parts,p.operand.length+8≤100*p.sz:=fun p y=>by
     have:=text_len m p (by have:=sz_part y;omega) (ok_part d y) (fine_part E y);unfold operand
     split<;>simp<;>omega
   have A:(c.parts.map fun p=>p.operand.length+5).sum≤100*(c.sz - 1):=by
     have C:∀ ps:List Con,(∀ p∈ps,p.operand.length+8≤100*p.sz)→(ps.map fun p=>p.operand.length+5).sum≤100*sz.szs ps:=by
       intro ps
       induction ps with
       | nil=>intro _;simp[sz.szs]
       | cons p ps ih =>
         intro y;have G:=y p zaf_;have N:=ih fun q J=>y q (by simp[J])
         simp only[List.map_cons,List.sum_cons,sz.szs];omega
     have:=C c.parts v;cases c with
     | mk k n l hi a cp ps=>simp only[sz,parts]at this ⊢;omega
   rw[text_eq];have L:(Lib.itoa c.lo).length≤21:=by cases c;exact Lib.itoa_length_le _ d.2.2.2.1 d.2.2.2.2.1
   have I:(Lib.itoa c.hi).length≤21:=by cases c;exact Lib.itoa_length_le _ d.2.2.2.2.2.1 d.2.2.2.2.2.2.1
   have K:=F.nm
   split
   · simp;omega
   · split
     · simp;omega
     · split
       · omega
       · split
         · simp;omega
         · split
           · have:=lf_ [32,97,110,100,32] (c.parts.map operand)
             simp only[List.map_map,List.length_cons,List.length_nil]at this;have e:(c.parts.map ((fun x:Str=>x.length+(0+1+1+1+1+1)) ∘ operand)).sum=(c.parts.map fun p=>p.operand.length+5).sum:=rfl;rw[e]at this;omega
           · split
             · rename_i H
               have G:1≤c.parts.length:=by have:=F.le;rw[H]at this;simp[nd,dF_]at this;omega
               obtain⟨p,ps,B⟩:=List.exists_cons_of_length_pos G;have:=lf_ [32] [[115,111,109,101],c.name,(c.parts.map operand).headD []];simp only[B,List.map_cons,List.headD_cons,List.map_nil,List.sum_cons,List.sum_nil,List.length_cons,List.length_nil]at this A ⊢;omega
             · have:=lf_ [32] [c.name,[105,110],Lib.itoa c.lo,[116,111],Lib.itoa c.hi]
               simp only[List.map_cons,List.map_nil,List.sum_cons,List.sum_nil,List.length_cons,List.length_nil]at this;omega
theorem rJ_:∀ (m:Nat) (c:Con),c.sz≤m→∀ d n,(c.fits d n).1=true→(c.fits d n).2=n+c.sz
 | 0,c,h=>by have:=c.sz_pos;omega
 | m+1,c,h=>fun d n e=>by
   rw[fits_eq]at e ⊢
   split at e
   · cases e
   · rename_i B
     rw[if_neg B]
     have y:∀ ps:List Con,(∀ p∈ps,p.sz≤m)→∀ n,(fits.fitss ps (d+1) n).1=true→(fits.fitss ps (d+1) n).2=n+sz.szs ps:=by
       intro ps
       induction ps with
       | nil=>intro _ n _;simp[fits.fitss,sz.szs]
       | cons p ps ih =>
         intro v n e;simp only[fits.fitss]at e ⊢
         split at e
         · rename_i q x
           have A:=rJ_ m p (v p zaf_) (d+1) n (by rw[x]);rw[x]at A;have C:=ih (fun q x=>v q zbL_) q e;simp only[sz.szs];simp only at A;omega
         · cases e
     have:=y c.parts (fun p v=>by have:=sz_part v;omega) (n+1) e;rw[this];cases c with
     | mk k nn l hi a cp ps=>simp only[sz,parts];omega
theorem check_zero {c:Con} (h:c.check=0):c.fine∧c.sz≤64:=by
 unfold check at h
 split at h
 ·rename_i d
  have e:=rJ_ _ c (Nat.le_refl _) 0 0 d;have m:=rK_ _ c (Nat.le_refl _) 0 0 d;exact⟨h,by omega⟩
 cases h
def textN (c:Con):Str:=if c.check=0 then c.text else []
theorem textN_len {c:Con} (d:c.ok):c.textN.length≤6400:=by
 unfold textN
 split
 ·rename_i h
  obtain⟨e,m⟩:=check_zero h;have:=text_len _ c (Nat.le_refl _) d e;omega
 simp
def operandN (c:Con):Str:=if c.kind=5 then [40]++c.textN++[41] else c.textN
def atom (c:Con):Str :=
  if c.kind=1 then [42] else if c.kind=2 then [33] else if c.kind=3 then c.name else if c.kind=4 then [123]++c.name++[125] else [60]++c.textN++[62]
end Con
theorem pY_ {cur:Array Value} {n:Nat} {xs:List Str} (h:cur.toList.take (n*1)=xs.flatMap au_):∀ (j:Nat) (x:Str),xs[j]? = some x→cur[j]? = some (str x):=by
 intro j x e;have d:=z_ aY_ e 0 (str x) rfl;rw[← h,Nat.mul_one,Nat.add_zero]at d;rw[List.getElem?_take]at d
 split at d
 ·simpa using d
 cases d
theorem vK_ (xs:List Str):∀ (j:Nat) (x:Str),xs[j]? = some x→(xs.map str).toArray[j]? = some (str x):=by
  intro j x d;simp[d]
end Go.Vs
namespace Go.Sx
open Go
section
variable {P:Program}
theorem lo_ {d:Nat} {xs ys:Array Value} (w:World):(Op.eqFields d xs ys []).run P w=.ok true w:=by simp[Op.eqFields]
theorem bT_ {d : Nat} {xs ys : Array Value} {f : Field} {h : List Field} {a b : Value} {r s : Bool} {w : World} (B : (f.name == "_") = false) (y : ∀ w, (isAgg f.type).run P w = .ok false w) (A : xs[f.offset]? = some a) (v : ys[f.offset]? = some b)
    (m:(Op.equalIn d f.type a b).run P w=.ok r w) (x:(Op.eqFields d xs ys h).run P w=.ok s w):(Op.eqFields d xs ys (f::h)).run P w=.ok (r&&s) w:=by
  have e : f.name ≠ "_" := by simpa using B
  simp only[Op.eqFields,e,ne_eq,not_false_eq_true,if_true,part,Sem.run_bind,y,Result.andThen_ok,Bool.false_eq_true,if_false,A,v,Sem.run_pure,m];cases r
  · simp
  · simpa using x
theorem eqI {d:Nat} {t:TypeId} {k:IntKind} {a b:Int} (h:P.underlying t=some (.int k)) (w:World):(Op.equalIn (d+1) t (.int k a) (.int k b)).run P w=.ok (a==b) w:=run_equalIn_int w d t k k a b h
theorem eqS {d:Nat} {t:TypeId} {a b:List UInt8} (h:P.underlying t=some .string) (w:World):(Op.equalIn (d+1) t (str a) (str b)).run P w=.ok (a==b) w:=by
  have:=run_equalIn_string w d t ⟨a.toArray⟩ ⟨b.toArray⟩ h;simp only[ByteArray.toList_eq]at this;exact this
theorem ckF {e : Bool} {n : Nat} {t : TypeId} {m : Array Field} {xs : Array Value} {w : World} (C : P.underlying t = some (.struct m)) (h : ∀ f ∈ m.toList, (f.name == "_") = false ∧ (∀ w, (isAgg f.type).run P w = .ok false w) ∧ ∃ a, xs[f.offset]? = some a ∧ (∀ w, (Instr.checkKey e n f.type a).run P w = .ok () w)) :
    (Instr.checkKey e (n+1) t (.agg xs)).run P w=.ok () w:=by
  simp only[Instr.checkKey,Sem.run_bind,run_underlying C,Result.andThen_ok];rw[← Array.forIn_toList];generalize m.toList=l at h
  induction l with
  | nil=>simp
  | cons f l ih =>
    obtain⟨v,x,a,y,A⟩:=h f (by simp);have d : f.name ≠ "_" := by simpa using v
    simp only[List.forIn_cons,d,ne_eq,not_false_eq_true,if_true,part,Sem.run_bind,x,Result.andThen_ok,Bool.false_eq_true,if_false,y,Sem.run_pure,A];exact ih fun g B=>h g (by simp[B])
theorem lm_ {α:Type} [DecidableEq α] {k:TypeId} {B:Array Field} {val:α→Value} (C:P.underlying k=some (.struct B)) (m:∀ p q w,(Op.equal k (val p) (val q)).run P w=.ok (decide (p=q)) w) (p:α) :
    ∀ (l:List α) (es:List MapEntry) (i:Nat),es.map (·.key)=l.map val→(p ∉ l→∀ w,(Instr.findAsking k (val p) es i).run P w=.ok none w)∧(p∈l→(∀ x∈es,x.val=.bool true)→∃ j,∀ w,(Instr.findAsking k (val p) es i).run P w=.ok (some (j,.bool true)) w)
  | [],es,i,h=>by
    have:es=[]:=by simpa using h
    subst this;simp[Instr.findAsking]
  | q::l,[],i,h=>by simp at h
  | q::l,e::es,i,h=>by
    simp only[List.map_cons,List.cons.injEq]at h;have A:=lm_ C m p l es (i+1) h.2
    by_cases d:p=q
    · subst d
      refine⟨fun y=>absurd List.mem_cons_self y,fun _ v=>⟨i,fun w=>?_⟩⟩;simp only[Instr.findAsking,Sem.run_bind,h.1,m,Result.andThen_ok,decide_true,if_true,Sem.run_pure,v e zaf_]
    · refine⟨fun y w=>?_,fun hm v=>?_⟩
      · simp only[Instr.findAsking,Sem.run_bind,h.1,m,Result.andThen_ok,d,decide_false,Bool.false_eq_true,if_false]
        exact A.1 (fun h=>y (List.mem_cons_of_mem _ h)) w
      · obtain⟨j,F⟩:=A.2 (by simpa [d] using hm) fun x E=>v x zbY_
        refine⟨j,fun w=>?_⟩;simp only[Instr.findAsking,Sem.run_bind,h.1,m,Result.andThen_ok,d,decide_false,Bool.false_eq_true,if_false];exact F w
theorem il_ {α:Type} [DecidableEq α] {k:TypeId} {y:Array Field} {val:α→Value} (m:P.underlying k=some (.struct y)) (v:∀ p q w,(Op.equal k (val p) (val q)).run P w=.ok (decide (p=q)) w) (p:α) (l:List α) (es:List MapEntry) (h:es.map (·.key)=l.map val) :
    (p ∉ l→da_ P k (val p) es none)∧(p∈l→(∀ x∈es,x.val=.bool true)→∃ j,da_ P k (val p) es (some (j,.bool true))):=by
  have A:=lm_ m v p l es 0 h;have d:∀ (e:MapEntry) (r:List MapEntry),Instr.findNow (.struct y) (val p) (e::r) 0=none:=fun e r=>by simp[Instr.findNow,Instr.sameNow]
  cases es with
  | nil =>
    have:l=[]:=by simpa using h.symm
    subst this;exact⟨fun _ w=>by simp[Instr.findKey,run_underlying m,Instr.findNow],fun h=>by simp at h⟩
  | cons e r =>
    refine⟨fun E w=>?_,fun hm B=>?_⟩
    · simp only[Instr.findKey,Sem.run_bind,run_underlying m,Result.andThen_ok,d]
      exact A.1 E w
    · obtain⟨j,C⟩:=A.2 hm B
      refine⟨j,fun w=>?_⟩;simp only[Instr.findKey,Sem.run_bind,run_underlying m,Result.andThen_ok,d];exact C w
end
end Go.Sx
namespace Go.Vs
open Go Go.Sx
structure Pc where
  kind:Int
  a:Str
  b:Str
  c:Str
  r:Str
  s:Str
  t:Str
  lo:Int
  hi:Int
  frm:Int
  deriving DecidableEq
namespace Pc
def cells (p:Pc):List Value:=[.int .i64 p.kind,str p.a,str p.b,str p.c,str p.r,str p.s,str p.t,.int .i64 p.lo,.int .i64 p.hi,.int .i64 p.frm]
def val (p:Pc):Value:=.agg p.cells.toArray
theorem cells_len (p:Pc):p.cells.length=10:=rfl
theorem cells_one (p:Pc):p.cells.all Value.oneCell'=true:=rfl
def eqb (p q:Pc):Bool:=(p.kind==q.kind)&&((p.a==q.a)&&((p.b==q.b)&&((p.c==q.c)&&((p.r==q.r)&&((p.s==q.s)&&((p.t==q.t)&&((p.lo==q.lo)&&((p.hi==q.hi)&&((p.frm==q.frm)&&true)))))))))
theorem eqb_eq (p q:Pc):p.eqb q=decide (p=q):=by
  rw[Bool.eq_iff_iff];cases p;cases q;simp[eqb]
end Pc
def ins (frm:Int) (l:List Pc) (p:Pc):List Pc:=if { p with frm:=frm }∈l then l else l++[{ p with frm:=frm }]
theorem cj_ (frm:Int) (l:List Pc) (p:Pc):(ins frm l p).length≤l.length+1:=by unfold ins;split<;>simp
structure Fc where
  kind:Int
  a:Str
  b:Str
  r:Str
  lo:Int
  hi:Int
  deriving DecidableEq
namespace Fc
def cells (p:Fc):List Value:=[.int .i64 p.kind,str p.a,str p.b,str p.r,.int .i64 p.lo,.int .i64 p.hi]
def val (p:Fc):Value:=.agg p.cells.toArray
theorem cells_len (p:Fc):p.cells.length=6:=rfl
def eqb (p q:Fc):Bool:=(p.kind==q.kind)&&((p.a==q.a)&&((p.b==q.b)&&((p.r==q.r)&&((p.lo==q.lo)&&((p.hi==q.hi)&&true)))))
theorem eqb_eq (p q:Fc):p.eqb q=decide (p=q):=by
  rw[Bool.eq_iff_iff];cases p;cases q;simp[eqb]
end Fc
end Go.Vs
namespace Go.Sx
open Go
theorem ao_ {P:Program} {N:Nf} {fr:Fr} {H:Hp} {Γ:List Fct} {d:Op} {ty:TypeId} {x y:Value} (h:Yld P N fr H Γ d ty x) (e:x=y):Yld P N fr H Γ d ty y:=e▸h
theorem wm_ {α:Type} (f:α→List Value) (n:Nat) (d:∀ x,(f x).length=n):∀ (l:List α) (i:Nat),(l.flatMap f).drop (i*n)=(l.drop i).flatMap f
  | l,0=>by simp
  | [],i+1=>by simp
  | x::l,i+1=>by
    simp only[List.flatMap_cons,List.drop_succ_cons];rw[← wm_ f n d l i,List.drop_append,d,List.drop_of_length_le (by rw[d,Nat.add_mul];omega),List.nil_append]
    congr 1
    rw[Nat.add_mul];omega
theorem nG_ {α:Type} (f:α→List Value) (n:Nat) (d:∀ x,(f x).length=n):∀ (l:List α) (i:Nat),(l.flatMap f).take (i*n)=(l.take i).flatMap f
  | l,0=>by simp
  | [],i+1=>by simp
  | x::l,i+1=>by
    simp only[List.flatMap_cons,List.take_succ_cons];rw[← nG_ f n d l i,List.take_append,d,List.take_of_length_le (by rw[d,Nat.add_mul];omega)]
    congr 2
    rw[Nat.add_mul];omega
theorem bY_.slice {α:Type} {f:α→List Value} {n:Nat} (e:∀ x,(f x).length=n) {v:Vw} {ad:Ao} {l:List α} {cap:Nat} (h:bY_ v ad (l.flatMap f)) (m:l.length≤cap) (i k:Nat):bY_ v (Sx.sad ad cap i n) (((l.drop i).take k).flatMap f):=by
 refine h.sad _ (fun j x d=>?_) (by rw[dU_ f n e];exact Nat.mul_le_mul_right _ m);rw[← nG_ f n e,← wm_ f n e,List.getElem?_take]at d
 split at d
 ·rwa [List.getElem?_drop]at d
 cases d
end Go.Sx
namespace Go.Vs
open Go Go.Sx
namespace Con
def pre (c:Con) (j:Nat):Con:=.mk 5 [] 0 0 (sad c.ad c.cap 0 5) (c.cap - 0) (c.parts.take j)
theorem pre_mem {c:Con} (d:c.ok) {v:Vw} (h:c.mem v) (j:Nat):(c.pre j).mem v:=by
  rw[mem_iff]at h ⊢;refine⟨?_,fun p e=>h.2 p (List.mem_of_mem_take e)⟩;have:=h.1.slice cells_len (ok_len d).1 0 j;exact this
theorem pre_ok {c:Con} (d:c.ok) (j:Nat):(c.pre j).ok:=by
 have h:=ok_len d;refine⟨by decide,by decide,by simp,by decide,by decide,by decide,by decide,?_,?_,oks_iff.2 fun p e=>ok_part d (List.mem_of_mem_take e)⟩
 ·simp;omega
 rw[List.length_take];omega
def andP (frm:Int) (c:Con):List Con→Nat→Str→List Pc→List Pc
  | [],_,_,l=>l
  | p::r,j,f,l=>andP frm c r (j+1) (c.pre (j+1)).atom (ins frm l ⟨2,f,p.atom,(c.pre (j+1)).atom,[],[],[],0,0,0⟩)
theorem ud_ (frm:Int) (c:Con):∀ (r:List Con) (j:Nat) (f:Str) (l:List Pc),(andP frm c r j f l).length≤l.length+r.length
  | [],_,_,l=>by simp[andP]
  | p::r,j,f,l=>by
    have d:=ud_ frm c r (j+1) (c.pre (j+1)).atom (ins frm l ⟨2,f,p.atom,(c.pre (j+1)).atom,[],[],[],0,0,0⟩);have e:=cj_ frm l ⟨2,f,p.atom,(c.pre (j+1)).atom,[],[],[],0,0,0⟩;simp only[andP,List.length_cons];omega
def leftP (frm:Int):Con→List Pc→List Pc
  | c@(mk k nm lo hi _ _ ps),l =>
    if k=5 then andP frm c (ps.drop 1) 1 ((ps.map atom).headD []) (lefts frm ps l)
    else if k=6 then ins frm (lefts frm ps l) ⟨4,(ps.map atom).headD [],[],c.atom,nm,[],[],0,0,0⟩
    else if k=7 then ins frm l ⟨9,[],[],c.atom,nm,[],[],lo,hi,0⟩
    else l
where lefts (frm:Int):List Con→List Pc→List Pc
  | [],l=>l
  | p::ps,l=>lefts frm ps (leftP frm p l)
theorem leftP_eq (frm:Int) (c:Con) (l:List Pc):c.leftP frm l =
    if c.kind=5 then andP frm c (c.parts.drop 1) 1 ((c.parts.map atom).headD []) (leftP.lefts frm c.parts l)
    else if c.kind=6 then ins frm (leftP.lefts frm c.parts l) ⟨4,(c.parts.map atom).headD [],[],c.atom,c.name,[],[],0,0,0⟩
    else if c.kind=7 then ins frm l ⟨9,[],[],c.atom,c.name,[],[],c.lo,c.hi,0⟩
    else l:=by cases c;simp only[leftP];rfl
theorem lc_ (frm:Int):∀ (xs ys:List Con) (l:List Pc),leftP.lefts frm (xs++ys) l=leftP.lefts frm ys (leftP.lefts frm xs l)
  | [],_,_=>rfl
  | x::xs,ys,l=>by simp only[List.cons_append,leftP.lefts];exact lc_ frm xs ys _
theorem lefts_step (frm:Int) {ps:List Con} {p:Con} {i:Nat} (d:ps[i]? = some p) (l:List Pc):leftP.lefts frm (ps.take (i+1)) l=p.leftP frm (leftP.lefts frm (ps.take i) l):=by
  rw[take_snoc d,lc_];rfl
theorem szs_len:∀ ps:List Con,ps.length≤sz.szs ps
  | []=>by simp[sz.szs]
  | p::ps=>by have:=szs_len ps;have:=p.sz_pos;simp only[sz.szs,List.length_cons];omega
theorem leftP_len (frm:Int):∀ (m:Nat) (c:Con),c.sz≤m→∀ l,(c.leftP frm l).length+2≤l.length+2*c.sz+0+1
 | 0,c,h=>by have:=c.sz_pos;omega
 | m+1,c,h=>fun l=>by
   have e:∀ ps:List Con,(∀ p∈ps,p.sz≤m)→∀ l,(leftP.lefts frm ps l).length+ps.length≤l.length+2*sz.szs ps:=by
     intro ps
     induction ps with
     | nil=>intro _ l;simp[leftP.lefts]
     | cons p ps ih =>
       intro d l;have y:=leftP_len frm m p (d p zaf_) l;have B:=ih (fun q x=>d q zbL_) (p.leftP frm l);simp only[leftP.lefts,sz.szs,List.length_cons];omega
   have A:=e c.parts (fun p d=>by have:=sz_part d;omega) l;have v:c.sz=1+sz.szs c.parts:=by cases c;simp only[sz,parts]
   have hl:=szs_len c.parts;rw[leftP_eq]
   split
   · have:=ud_ frm c (c.parts.drop 1) 1 ((c.parts.map atom).headD []) (leftP.lefts frm c.parts l)
     simp only[List.length_drop]at this;omega
   · split
     · have:=cj_ frm (leftP.lefts frm c.parts l) ⟨4,(c.parts.map atom).headD [],[],c.atom,c.name,[],[],0,0,0⟩
       omega
     · split
       · have:=cj_ frm l ⟨9,[],[],c.atom,c.name,[],[],c.lo,c.hi,0⟩
         omega
       · omega
def rightP (frm:Int):Con→List Pc→List Pc
  | c@(mk k nm lo hi _ _ ps),l =>
    if k=5 then rights frm c.atom ps l
    else if k=6 then righty frm ps (ins frm l ⟨3,c.atom,[],(ps.map atom).headD [],nm,[],[],0,0,0⟩)
    else if k=7 then ins frm l ⟨8,c.atom,[],[],nm,[],[],lo,hi,0⟩
    else l
where
  rights (frm:Int) (a:Str):List Con→List Pc→List Pc
  | [],l=>l
  | p::ps,l=>rights frm a ps (rightP frm p (ins frm l ⟨1,a,[],p.atom,[],[],[],0,0,0⟩))
  righty (frm:Int):List Con→List Pc→List Pc
  | [],l=>l
  | p::ps,l=>righty frm ps (rightP frm p l)
theorem rightP_eq (frm:Int) (c:Con) (l:List Pc):c.rightP frm l =
    if c.kind=5 then rightP.rights frm c.atom c.parts l
    else if c.kind=6 then rightP.righty frm c.parts (ins frm l ⟨3,c.atom,[],(c.parts.map atom).headD [],c.name,[],[],0,0,0⟩)
    else if c.kind=7 then ins frm l ⟨8,c.atom,[],[],c.name,[],[],c.lo,c.hi,0⟩
    else l:=by cases c;simp only[rightP];rfl
theorem jT_ (frm:Int) (a:Str):∀ (xs ys:List Con) (l:List Pc),rightP.rights frm a (xs++ys) l=rightP.rights frm a ys (rightP.rights frm a xs l)
  | [],_,_=>rfl
  | x::xs,ys,l=>by simp only[List.cons_append,rightP.rights];exact jT_ frm a xs ys _
theorem rights_step (frm:Int) (a:Str) {ps:List Con} {p:Con} {i:Nat} (d:ps[i]? = some p) (l:List Pc):rightP.rights frm a (ps.take (i+1)) l=p.rightP frm (ins frm (rightP.rights frm a (ps.take i) l) ⟨1,a,[],p.atom,[],[],[],0,0,0⟩):=by
  rw[take_snoc d,jT_];rfl
theorem rightP_len (frm:Int):∀ (m:Nat) (c:Con),c.sz≤m→∀ l,(c.rightP frm l).length+1≤l.length+2*c.sz
 | 0,c,h=>by have:=c.sz_pos;omega
 | m+1,c,h=>fun l=>by
   have x:∀ ps:List Con,(∀ p∈ps,p.sz≤m)→∀ a l,(rightP.rights frm a ps l).length≤l.length+2*sz.szs ps:=by
     intro ps
     induction ps with
     | nil=>intro _ a l;simp[rightP.rights,sz.szs]
     | cons p ps ih =>
       intro d a l;have E:=cj_ frm l ⟨1,a,[],p.atom,[],[],[],0,0,0⟩;have B:=rightP_len frm m p (d p zaf_) (ins frm l ⟨1,a,[],p.atom,[],[],[],0,0,0⟩);have C:=ih (fun q y=>d q zbD_) a (p.rightP frm (ins frm l ⟨1,a,[],p.atom,[],[],[],0,0,0⟩));simp only[rightP.rights,sz.szs];omega
   have v:∀ ps:List Con,(∀ p∈ps,p.sz≤m)→∀ l,(rightP.righty frm ps l).length≤l.length+2*sz.szs ps:=by
     intro ps
     induction ps with
     | nil=>intro _ l;simp[rightP.righty,sz.szs]
     | cons p ps ih =>
       intro d l;have B:=rightP_len frm m p (d p zaf_) l;have C:=ih (fun q y=>d q zbD_) (p.rightP frm l);simp only[rightP.righty,sz.szs];omega
   have e:∀ p∈c.parts,p.sz≤m:=fun p d=>by have:=sz_part d;omega
   have A:c.sz=1+sz.szs c.parts:=by cases c;simp only[sz,parts]
   rw[rightP_eq]
   split
   · have:=x c.parts e c.atom l;omega
   · split
     · have E:=cj_ frm l ⟨3,c.atom,[],(c.parts.map atom).headD [],c.name,[],[],0,0,0⟩
       have:=v c.parts e (ins frm l ⟨3,c.atom,[],(c.parts.map atom).headD [],c.name,[],[],0,0,0⟩);omega
     · split
       · have:=cj_ frm l ⟨8,c.atom,[],[],c.name,[],[],c.lo,c.hi,0⟩
         omega
       · omega
end Con
end Go.Vs
namespace Go.Sx
open Go
theorem bY_.rest {α:Type} {f:α→List Value} {n:Nat} (e:∀ x,(f x).length=n) {v:Vw} {ad:Ao} {l:List α} {cap:Nat} (h:bY_ v ad (l.flatMap f)) (d:l.length≤cap) (i:Nat):bY_ v (Sx.sad ad cap i n) ((l.drop i).flatMap f):=by
  have:=h.slice e d i l.length;rwa [List.take_of_length_le zaf_]at this
theorem lq_ {α:Type} {l:List α} {x:α} {i:Nat} (d:l[i]? = some x):l.drop i=x::l.drop (i+1):=by
  have hi:=(List.getElem?_eq_some_iff.1 d).1;rw[List.getElem?_eq_getElem hi]at d;simp only[Option.some.injEq]at d;subst d;exact List.drop_eq_getElem_cons hi
theorem tA_ {α:Type} {l:List α} {x d:α} (e:l[0]? = some x):l.headD d=x:=by cases l<;>simp_all
end Go.Sx
namespace Go.Vs
open Go Go.Sx
namespace Ax
def chainP (frm:Int) (role:Str):List Str→Str→List Pc→List Pc
  | [],_,l=>l
  | r::t,f,l =>
    let all:=if t=[] then role else f++[46]++r
    chainP frm role t all (ins frm l ⟨6,[],[],[],f,r,all,0,0,0⟩)
def pieces (frm:Int) (x:Ax):List Pc :=
  if x.kind=1 then ins frm (x.right.rightP frm (x.left.leftP frm [])) ⟨1,x.left.atom,[],x.right.atom,[],[],[],0,0,0⟩
  else if x.kind=2 then
    ins frm (x.left.rightP frm (x.right.leftP frm (ins frm (x.right.rightP frm (x.left.leftP frm [])) ⟨1,x.left.atom,[],x.right.atom,[],[],[],0,0,0⟩))) ⟨1,x.right.atom,[],x.left.atom,[],[],[],0,0,0⟩
  else if x.kind=3 then ins frm (x.right.leftP frm (x.left.leftP frm [])) ⟨2,x.left.atom,x.right.atom,[33],[],[],[],0,0,0⟩
  else if x.kind=4 then ins frm (x.right.rightP frm []) ⟨4,[42],[],x.right.atom,x.role,[],[],0,0,0⟩
  else if x.kind=5 then ins frm [] ⟨5,[],[],[],x.roles.headD [],[],x.role,0,0,0⟩
  else if x.kind=6 then chainP frm x.role (x.roles.drop 1) (x.roles.headD []) []
  else if x.kind=7 then ins frm [] ⟨7,[],[],[],x.role,[],[],0,0,0⟩
  else if x.kind=8 then ins frm (x.right.rightP frm []) ⟨1,[123]++x.a++[125],[],x.right.atom,[],[],[],0,0,0⟩
  else ins frm [] ⟨3,[123]++x.a++[125],[],[123]++x.b++[125],x.role,[],[],0,0,0⟩
structure Good (x:Ax):Prop where
  k1:1≤x.kind
  k9:x.kind≤9
  left:x.kind≤3→x.left.check=0
  right:x.kind≤4∨x.kind=8→x.right.check=0
  role:x.kind=4∨x.kind=5∨x.kind=6∨x.kind=7∨x.kind=9→bk_ x.role=true
  roles:∀ r∈x.roles,bk_ r=true
  one:x.kind=5→x.roles.length=1
  chain:x.kind=6→2≤x.roles.length∧x.roles.length≤4
  a:x.kind=8∨x.kind=9→aN_ x.a=true
  b:x.kind=9→aN_ x.b=true
theorem good_of {x:Ax} (h:x.check=0):Good x:=by
 unfold check at h
 split at h
 ·cases h
 rename_i m
 split at h
 ·cases h
 rename_i d
 split at h
 ·rename_i v;exact absurd h v.2
 rename_i v
 split at h
 ·rename_i B;exact absurd h B.2
 rename_i B
 clear h;simp only[Bool.not_eq_false]at m d
 have E:1≤x.kind∧x.kind≤9:=by
   unfold shaped at m
   split at m
   · cases m
   · rename_i C;simp only[not_or]at C;omega
 have y:x.kind=1∨x.kind=2∨x.kind=3∨x.kind=4∨x.kind=5∨x.kind=6∨x.kind=7∨x.kind=8∨x.kind=9:=by omega
 unfold shaped at m;rw[if_neg zaa_]at m
 have A:∀ r∈x.roles,bk_ r=true:=by
   unfold namedU at d;simp only[Bool.and_eq_true]at d;exact fun r A=>List.all_eq_true.1 d.2 r A
 unfold namedU at d
 rcases y with e|e|e|e|e|e|e|e|e<;>simp[us,pE_,e]at m d v B <;>
   refine⟨by omega,by omega,fun _=>?_,fun _=>?_,fun _=>?_,A,fun _=>?_,fun _=>?_,fun _=>?_,fun _=>?_⟩ <;>
   first|omega|assumption|exact d.1|exact d.2.1|exact d.2.2.1|(simp_all;done)|(exact⟨by omega,by omega⟩)
end Ax
def Clw {α:Type} (E:α→α→Bool→Prop) (n:Nat) (f:Nat→α) (c:Nat→Bool):Prop :=
  0<n∧f n=f 0∧(∀ m,m<n→E (f m) (f (m+1)) (c m))∧∃ m,m<n∧c m=true
def Clo {α:Type} (E:α→α→Bool→Prop) (n:Nat):Prop:=∃ (f:Nat→α) (c:Nat→Bool),Clw E n f c
theorem zO_ {p:Nat→Prop} {n:Nat} (h:p n):∃ m,p m∧m≤n∧∀ k,p k→m≤k:=by
 induction n using Nat.strongRecOn with
 | ind n ih =>
   by_cases g:∃ k,k<n∧p k
   · obtain⟨k,d,v⟩:=g
     obtain⟨m,e,y,x⟩:=ih k d v;exact⟨m,e,by omega,x⟩
   · exact⟨n,h,Nat.le_refl _,fun k d=>Nat.not_lt.1 fun hl=>g ⟨k,hl,d⟩⟩
theorem Clw.inj {α:Type} {E:α→α→Bool→Prop} {n:Nat} {f:Nat→α} {c:Nat→Bool} (h:Clw E n f c) (hm:∀ k,Clo E k→n≤k):∀ a b,a<b→b<n→f a≠f b:=by
 intro a b G F e;obtain⟨_,H,hE,d,C,y⟩:=h
 by_cases g:a≤d∧d<b
 ·have:=hm (b - a) ⟨fun m=>f (a+m),fun m=>c (a+m),by omega,by simp only[Nat.add_zero];rw[show a+(b - a)=b by omega,e],fun m x=>by
    have:=hE (a+m) zaa_;rwa [Nat.add_assoc]at this,d - a,by omega,by dsimp only;rw[show a+(d - a)=d by omega];exact y⟩
  omega
 have:=hm (n - (b - a)) ⟨fun m=>if m<a then f m else f (m+(b - a)),fun m=>if m<a then c m else c (m+(b - a)),by omega,?_,?_,?_⟩
 ·omega
 ·dsimp only
  rw[if_neg zaa_,show n - (b - a)+(b - a)=n by omega,H]
  by_cases B:0<a
  ·rw[if_pos B]
  rw[if_neg B,show 0+(b - a)=b by omega,← e,show a=0 by omega]
 ·intro m x
  dsimp only
  by_cases v:m<a
  ·rw[if_pos v,if_pos v]
   by_cases A:m+1<a
   ·rw[if_pos A];exact hE m zaa_
   rw[if_neg A,show m+1+(b - a)=b by omega,← e,show a=m+1 by omega];exact hE m zaa_
  rw[if_neg v,if_neg v,if_neg zaa_];have:=hE (m+(b - a)) zaa_;rwa [show m+(b - a)+1=m+1+(b - a) by omega]at this
 by_cases v:d<a
 ·exact⟨d,by omega,by dsimp only;rw[if_pos v];exact y⟩
 exact⟨d - (b - a),by omega,by dsimp only;rw[if_neg zaa_,show d - (b - a)+(b - a)=d by omega];exact y⟩
def sig (c:Nat→Bool):Nat→Bool
  | 0=>false
  | n+1=>sig c n||c n
theorem ov_ {c:Nat→Bool}:∀ {n:Nat},sig c n=true↔∃ m,m<n∧c m=true
 | 0=>by simp[sig]
 | n+1=>by
   simp only[sig,Bool.or_eq_true,ov_ (n:=n)];constructor
   · rintro (⟨m,v,d⟩|h)
     · exact⟨m,by omega,d⟩
     · exact⟨n,by omega,h⟩
   · rintro ⟨m,v,d⟩
     by_cases e:m=n
     · subst e;exact .inr d
     · exact .inl ⟨m,by omega,d⟩
theorem qb_ {c d:Nat→Bool}:∀ {n:Nat},(∀ m,m<n→c m=d m)→sig c n=sig d n
  | 0,_=>rfl
  | n+1,h=>by simp only[sig];rw[qb_ (n:=n) fun m hm=>h m zaa_,h n zaa_]
def Wlk {α:Type} (E:α→α→Bool→Prop) (x y:α) (b:Bool) (n:Nat):Prop :=
  ∃ (f:Nat→α) (c:Nat→Bool),f 0=x∧f n=y∧(∀ m,m<n→E (f m) (f (m+1)) (c m))∧sig c n=b
theorem Wlk.nil {α:Type} {E:α→α→Bool→Prop} (x:α):Wlk E x x false 0:=⟨fun _=>x,fun _=>false,rfl,rfl,fun m h=>absurd h zaa_,rfl⟩
theorem Wlk.snoc {α:Type} {E:α→α→Bool→Prop} {x y z:α} {b d:Bool} {n:Nat} (h:Wlk E x y b n) (e:E y z d):Wlk E x z (b||d) (n+1):=by
 obtain⟨f,c,v,A,B,C⟩:=h;refine⟨fun m=>if m≤n then f m else z,fun m=>if m<n then c m else d,?_,?_,?_,?_⟩
 ·simp[v]
 ·dsimp only;rw[if_neg zaa_]
 ·intro m hm
  by_cases g:m<n
  ·dsimp only;rw[if_pos zaa_,if_pos zaa_,if_pos g];exact B m g
  obtain rfl:m=n:=by omega
  dsimp only;rw[if_pos zaa_,if_neg zaa_,if_neg g,A];exact e
 simp only[sig,Nat.lt_irrefl,if_false];rw[qb_ (d:=c) fun m hm=>by rw[if_pos hm],C]
theorem Wlk.clo {α:Type} {E:α→α→Bool→Prop} {x:α} {n:Nat} (h:Wlk E x x true n):Clo E n:=by
  obtain⟨f,c,d,v,y,A⟩:=h;obtain⟨m,hm,e⟩:=ov_.1 A;exact⟨f,c,by omega,by rw[d,v],y,m,hm,e⟩
structure Wy where
  role:Nat
  strict:Bool
  before:Nat
  many:Nat
def gE (G:List (List (Nat×Bool))) (i j:Nat) (c:Bool):Prop:=∃ l,G[i]? = some l∧(j,c)∈l
def nq_ (W:List Wy) (r:Nat) (b:Bool):Bool:=W.any fun w=>w.role==r&&w.strict==b
theorem qE_ {W:List Wy} {r:Nat} {b:Bool}:nq_ W r b=true↔∃ w∈W,w.role=r∧w.strict=b:=by
  unfold nq_;rw[List.any_eq_true];simp only[Bool.and_eq_true,beq_iff_eq]
def Dn (start:Nat) (W:List Wy) (w:Wy) (s:Nat×Bool):Prop :=
  ¬(s.1=start∧(w.strict||s.2)=true)∧∃ w'∈W,w'.role=s.1∧w'.strict=(w.strict||s.2)∧w'.many≤w.many+1
theorem Dn.mono {d:Nat} {W V:List Wy} {w:Wy} {s:Nat×Bool} (h:Dn d W w s) (y:∀ x∈W,x∈V):Dn d V w s:=by
  obtain⟨e,w',m,v⟩:=h;exact⟨e,w',y _ m,v⟩
structure BI (G:List (List (Nat×Bool))) (start:Nat) (W:List Wy) (a k:Nat):Prop where
  z:W[0]? = some ⟨start,false,0,0⟩
  role:∀ (i:Nat) (w:Wy),W[i]? = some w→w.role<G.length
  bef:∀ (i:Nat) (w:Wy),W[i]? = some w→0<i→w.before<i
  wlk:∀ (i:Nat) (w:Wy),W[i]? = some w→Wlk (gE G) start w.role w.strict w.many
  mono:∀ (i j:Nat) (w x:Wy),i≤j→W[i]? = some w→W[j]? = some x→w.many≤x.many
  top:∀ (j:Nat) (w x:Wy),W[a]? = some w→W[j]? = some x→x.many≤w.many+1
  done:∀ (i:Nat) (w:Wy) (l:List (Nat×Bool)),i<a→W[i]? = some w→G[w.role]? = some l→∀ s∈l,Dn start W w s
  cur:∀ (w:Wy) (l:List (Nat×Bool)),W[a]? = some w→G[w.role]? = some l→∀ s∈l.take k,Dn start W w s
  nd:∀ (i j:Nat) (w x:Wy),i<j→W[i]? = some w→W[j]? = some x→¬(w.role=x.role∧w.strict=x.strict)
  many:∀ (i:Nat) (w:Wy),W[i]? = some w→w.many≤i
theorem BI.init {G:List (List (Nat×Bool))} {d:Nat} (h:d<G.length):BI G d [⟨d,false,0,0⟩] 0 0:=by
 have e:∀ (i:Nat) (w:Wy),[(⟨d,false,0,0⟩:Wy)][i]? = some w→i=0∧w=⟨d,false,0,0⟩:=fun i w m=>by
   have hl:=(List.getElem?_eq_some_iff.1 m).1;simp only[List.length_singleton]at hl;obtain rfl:i=0:=by omega
   simp only[List.getElem?_cons_zero,Option.some.injEq]at m;exact⟨rfl,m.symm⟩
 refine⟨rfl,fun i w m=>?_,fun i w m hi=>?_,fun i w m=>?_,fun i j w x _ m v=>?_,fun j w x m v=>?_,fun i w l hi=>by omega,fun w l _ _ s A=>by simp at A,fun i j w x y m v=>?_,fun i w m=>?_⟩
 ·obtain⟨_,rfl⟩:=e i w m;exact h
 ·obtain⟨rfl,_⟩:=e i w m;omega
 ·obtain⟨_,rfl⟩:=e i w m;exact Wlk.nil _
 ·obtain⟨_,rfl⟩:=e i w m;exact Nat.zero_le _
 ·obtain⟨_,rfl⟩:=e j x v;exact Nat.zero_le _
 ·obtain⟨rfl,_⟩:=e i w m;obtain⟨rfl,_⟩:=e j x v;omega
 obtain⟨_,rfl⟩:=e i w m;exact Nat.zero_le _
theorem BI.found {G:List (List (Nat×Bool))} {e a k:Nat} {W:List Wy} (h:BI G e W a k) {w:Wy} {l:List (Nat×Bool)} {s:Nat×Bool} (v:W[a]? = some w) (hl:G[w.role]? = some l) (y:l[k]? = some s) (m:s.1=e) (x:(w.strict||s.2)=true):Clo (gE G) (w.many+1):=by
  have:=(h.wlk a w v).snoc (z:=s.1) (d:=s.2) ⟨l,hl,List.mem_of_getElem? y⟩;rw[m,x]at this;exact this.clo
theorem oj_ {α:Type} {l:List α} {k:Nat} {x:α} (h:l[k]? = some x):l.take (k+1)=l.take k++[x]:=by rw[List.take_add_one,h];rfl
theorem BI.skip {G:List (List (Nat×Bool))} {d a k:Nat} {W:List Wy} (h:BI G d W a k) {w:Wy} {l:List (Nat×Bool)} {s:Nat×Bool} (x:W[a]? = some w) (hl:G[w.role]? = some l) (B:l[k]? = some s) (C:¬(s.1=d∧(w.strict||s.2)=true)) (F:nq_ W s.1 (w.strict||s.2)=true):BI G d W a (k+1):=by
 refine { h with cur:=fun w' I e v E m=>?_ };rw[x]at e;simp only[Option.some.injEq]at e;subst e;rw[hl]at v;simp only[Option.some.injEq]at v;subst v;rw[oj_ B,List.mem_append,List.mem_singleton]at m;rcases m with m|rfl
 ·exact h.cur w l x hl E m
 obtain⟨w',e,y,A⟩:=qE_.1 F;obtain⟨j,H⟩:=List.getElem?_of_mem e;exact⟨C,w',e,y,A,h.top j w w' x H⟩
theorem BI.push {G:List (List (Nat×Bool))} {v a k:Nat} {W:List Wy} (h:BI G v W a k) {w:Wy} {l:List (Nat×Bool)} {s:Nat×Bool} (C:W[a]? = some w) (hl:G[w.role]? = some l) (J:l[k]? = some s) (N:s.1<G.length) (P:¬(s.1=v∧(w.strict||s.2)=true)) (Q:nq_ W s.1 (w.strict||s.2)=false):BI G v (W++[⟨s.1,w.strict||s.2,a,w.many+1⟩]) a (k+1):=by
 have K:a<W.length:=(List.getElem?_eq_some_iff.1 C).1
 have e:∀ (i:Nat) (x:Wy),(W++[(⟨s.1,w.strict||s.2,a,w.many+1⟩:Wy)])[i]? = some x→W[i]? = some x∨(i=W.length∧x=⟨s.1,w.strict||s.2,a,w.many+1⟩):=fun i x d=>by
   rcases Nat.lt_or_ge i W.length with g|g
   · rw[List.getElem?_append_left g]at d;exact .inl d
   · have I:=(List.getElem?_eq_some_iff.1 d).1
     simp only[List.length_append,List.length_singleton]at I;obtain rfl:i=W.length:=by omega
     rw[List.getElem?_append_right (Nat.le_refl _),Nat.sub_self]at d;simp only[List.getElem?_cons_zero,Option.some.injEq]at d;exact .inr ⟨rfl,d.symm⟩
 have F:∀ x:Wy,(W++[(⟨s.1,w.strict||s.2,a,w.many+1⟩:Wy)])[a]? = some x→x=w:=fun x d=>by
   rw[List.getElem?_append_left K,C]at d;simp only[Option.some.injEq]at d;exact d.symm
 have sub:∀ x∈W,x∈W++[(⟨s.1,w.strict||s.2,a,w.many+1⟩:Wy)]:=fun x d=>List.mem_append_left _ d
 refine⟨by rw[List.getElem?_append_left zaa_];exact h.z,fun i x d=>?_,fun i x d hi=>?_,fun i x d=>?_,fun i j x y E d m=>?_,fun j x y d m=>?_,fun i x L hi d B H A=>?_,fun x L d B H A=>?_,fun i j x y E d m=>?_,fun i x d=>?_⟩
 ·rcases e i x d with d|⟨_,rfl⟩
  ·exact h.role i x d
  exact N
 ·rcases e i x d with d|⟨rfl,rfl⟩
  ·exact h.bef i x d hi
  exact K
 ·rcases e i x d with d|⟨_,rfl⟩
  ·exact h.wlk i x d
  exact (h.wlk a w C).snoc ⟨l,hl,List.mem_of_getElem? J⟩
 ·rcases e j y m with m|⟨rfl,rfl⟩
  ·rcases e i x d with d|⟨rfl,rfl⟩
   ·exact h.mono i j x y E d m
   have:=(List.getElem?_eq_some_iff.1 m).1;omega
  rcases e i x d with d|⟨rfl,rfl⟩
  ·exact h.top i w x C d
  exact Nat.le_refl _
 ·obtain rfl:=F x d
  rcases e j y m with m|⟨rfl,rfl⟩
  ·exact h.top j x y C m
  exact Nat.le_refl _
 ·rw[List.getElem?_append_left zaa_]at d
  exact (h.done i x L hi d B H A).mono sub
 ·obtain rfl:=F x d
  rw[hl]at B;simp only[Option.some.injEq]at B;subst B;rw[oj_ J,List.mem_append,List.mem_singleton]at A;rcases A with A|rfl
  ·exact (h.cur x l C hl H A).mono sub
  exact⟨P,⟨H.1,x.strict||H.2,a,x.many+1⟩,by simp,rfl,rfl,Nat.le_refl _⟩
 ·rcases e i x d with d|⟨rfl,rfl⟩
  ·rcases e j y m with m|⟨rfl,rfl⟩
   ·exact h.nd i j x y E d m
   rintro ⟨M,O⟩;have:nq_ W s.1 (w.strict||s.2)=true:=qE_.2 ⟨x,List.mem_of_getElem? d,M,O⟩;rw[Q]at this;cases this
  rcases e j y m with m|⟨rfl,rfl⟩
  ·have:=(List.getElem?_eq_some_iff.1 m).1;omega
  omega
 rcases e i x d with d|⟨rfl,rfl⟩
 ·exact h.many i x d
 have:=h.many a w C;dsimp only;omega
theorem BI.next {G:List (List (Nat×Bool))} {d a k:Nat} {W:List Wy} (h:BI G d W a k) {w:Wy} {l:List (Nat×Bool)} (B:W[a]? = some w) (hl:G[w.role]? = some l) (F:l.length≤k):BI G d W (a+1) 0:=by
 refine { h with top:=fun j x y v E=>?_,done:=fun i x C hi v m s A=>?_,cur:=fun x C _ _ s A=>by simp at A }
 ·have H:=h.top j w y B E
  have I:=h.mono a (a+1) w x zaa_ B v;omega
 by_cases e:i=a
 ·subst e
  rw[B]at v;simp only[Option.some.injEq]at v;subst v;rw[hl]at m;simp only[Option.some.injEq]at m;subst m;exact h.cur w l B hl s (by rw[List.take_of_length_le F];exact A)
 exact h.done i x C zaa_ v m s A
theorem BI.none {G:List (List (Nat×Bool))} {d a most:Nat} {W:List Wy} (h:BI G d W a 0) (v:∀ w:Wy,W[a]? = some w→most≤w.many+1) (hG:∀ (i:Nat) (l:List (Nat×Bool)),G[i]? = some l→∀ s∈l,s.1<G.length)
    {n:Nat} {f:Nat→Nat} {c:Nat→Bool} (S:Clw (gE G) n f c) (L:f 0=d):most≤n:=by
  apply Nat.not_lt.1
  intro hn;obtain⟨V,E,hE,T,B,I⟩:=S
  -- where a way with few steps stands,it is done
  have y:∀ (i:Nat) (w:Wy),W[i]? = some w→w.many+1<most→i<a:=fun i w e hm=>by
    apply Nat.not_le.1
    intro F;have Q:=(List.getElem?_eq_some_iff.1 e).1;obtain⟨x,M⟩:∃ x,W[a]? = some x:=⟨_,List.getElem?_eq_getElem (show a<W.length by omega)⟩;have N:=v x M;have Y:=h.mono a i x w F M e;omega
  have m:∀ j,j<n→∃ (i:Nat) (w:Wy),W[i]? = some w∧w.role=f j∧w.strict=sig c j∧w.many≤j:=by
    intro j
    induction j with
    | zero=>intro _;exact⟨0,_,h.z,L.symm,rfl,Nat.le_refl _⟩
    | succ j ih =>
      intro Z;obtain⟨i,w,e,A,J,U⟩:=ih zaa_;obtain⟨l,hl,H⟩:=hE j zaa_;obtain⟨_,w',C,R,O,X⟩:=h.done i w l (y i w e zaa_) e (by rw[A];exact hl) _ H;obtain⟨P,K⟩:=List.getElem?_of_mem C;exact⟨P,w',K,R,by rw[O,J];rfl,by omega⟩
  obtain⟨i,w,e,A,J,U⟩:=m (n - 1) zaa_;obtain⟨l,hl,H⟩:=hE (n - 1) zaa_;obtain⟨N,_⟩:=h.done i w l (y i w e zaa_) e (by rw[A];exact hl) _ H;refine N ⟨?_,?_⟩
  · dsimp only;rw[show n - 1+1=n by omega,E,L]
  · rw[J]
    have:=(ov_ (c:=c) (n:=n)).2 ⟨T,B,I⟩;obtain⟨k,rfl⟩:∃ k,n=k+1:=⟨n - 1,by omega⟩;exact this
theorem BI.len {G:List (List (Nat×Bool))} {m a k:Nat} {W:List Wy} (h:BI G m W a k):W.length≤2*G.length:=by
  have B:(W.map fun w=>2*w.role+w.strict.toNat).Nodup:=by
    unfold List.Nodup;rw[List.pairwise_map,List.pairwise_iff_getElem];intro i j hi E A e;refine h.nd i j _ _ A (List.getElem?_eq_getElem hi) (List.getElem?_eq_getElem E) ?_;generalize W[i]=x at e
    generalize W[j]=y at e
    obtain⟨r,b,_,_⟩:=x;obtain⟨q,d,_,_⟩:=y;cases b<;>cases d<;>simp only[Bool.toNat_false,Bool.toNat_true]at e ⊢<;>simp<;>omega
  have v:(W.map fun w=>2*w.role+w.strict.toNat) ⊆ List.range (2*G.length):=by
    intro z F;obtain⟨w,C,rfl⟩:=List.mem_map.1 F;obtain⟨i,hi⟩:=List.getElem?_of_mem C;have:=h.role i w hi;rw[List.mem_range];have H:w.strict.toNat≤1:=by cases w.strict<;>simp
    omega
  have:=B.length_le_of_subset v;rwa [List.length_map,List.length_range]at this
theorem Clw.short {G:List (List (Nat×Bool))} {n:Nat} {f:Nat→Nat} {c:Nat→Bool} (h:Clw (gE G) n f c) (hm:∀ k,Clo (gE G) k→n≤k):n≤G.length:=by
  have e:((List.range n).map f).Nodup:=by
    unfold List.Nodup;rw[List.pairwise_map,List.pairwise_iff_getElem];intro i j hi y x;simp only[List.getElem_range];exact h.inj hm i j x (by simpa using y)
  have d:((List.range n).map f) ⊆ List.range G.length:=by
    intro z A;obtain⟨m,v,rfl⟩:=List.mem_map.1 A;obtain⟨l,hl,_⟩:=h.2.2.1 m (List.mem_range.1 v);exact List.mem_range.2 (List.getElem?_eq_some_iff.1 hl).1
  have:=e.length_le_of_subset d;rwa [List.length_map,List.length_range,List.length_range]at this
theorem AB_ {G:List (List (Nat×Bool))} (h:∀ (n:Nat) (f:Nat→Nat) (c:Nat→Bool),Clw (gE G) n f c→f 0<G.length→G.length+1≤n):∀ n,¬ Clo (gE G) n:=by
  intro n v;obtain⟨m,⟨f,c,e⟩,_,d⟩:=zO_ v;have x:=e.short d;obtain⟨l,hl,_⟩:=e.2.2.1 0 e.1;have y:=h m f c e (List.getElem?_eq_some_iff.1 hl).1;omega
end Go.Vs
namespace Go.Sx
open Go
section
variable {P:Program} {N:Nf} {v0:Vw} {H0:Hp} {R:Exit→Act→World→Prop} {K:List Kt} {fr:Fr} {H:Hp} {Γ:List Fct}
variable {ops:Array Oper} {l:List Oper} {d:Nat} {ty:TypeId} {ps:String} {af:Array Edge}
theorem pR_ {t:TypeId} {x:Operand} {b n:Nat} (i:Nat) {T:TypeId} {fz:Nat×Nat} {us:List Value} (e:∀ w,(isAgg t).run P w=.ok true w) (v:∀ w,(sizeOf t).run P w=.ok n w) (m:us.length=n)
    (h:Fr.ev fr x=some (.pointer (some ⟨b,0,none⟩))) (hi:H[i]? = some (b,.cells us.toArray T fz)):Yld P N fr H Γ (.load t x) ty (.agg us.toArray) :=
  cO_ i e v h hi (by have:=to_ us;rw[m]at this;exact this)
theorem oF_ {t:TypeId} {x y:Operand} {b n:Nat} (i:Nat) {cur:Array Value} {T:TypeId} {us:List Value} (v:∀ w,(sizeOf t).run P w=.ok n w) (E:us.length=n) (A:us.all Value.oneCell'=true)
    (m:Fr.ev fr x=some (.pointer (some ⟨b,0,none⟩))) (B:Fr.ev fr y=some (.agg us.toArray)) (hi:H[i]? = some (b,.cells cur T (0,0))) (h:cur.size=n)
    (C:Ops P R N v0 H0 ops l K fr (H.set i (b,.cells us.toArray T (0,0))) Γ) :
    Ops P R N v0 H0 ops (⟨none,.store t x y,ty,ps,af,none⟩::l) K fr H Γ:=by
  refine o_ i v m B hi (by simp[Value.cells,E]) (by simp[h]) A ?_
  have e:(cur.toList.take 0++(Value.agg us.toArray).cells.toList++cur.toList.drop (0+n)).toArray=us.toArray:=by
    have F:cur.toList.length=n:=by simp[h]
    simp[Value.cells,List.drop_of_length_le (show cur.toList.length≤n by omega)]
  rw[e];exact C
theorem xw_ {b k:Nat} {cur:Array Value} {T:TypeId} {fz:Nat×Nat} {cs:List Value} (i:Nat) (hi:H[i]? = some (b,.cells cur T fz)) (m:cur.toList.take k=cs):∀ v:Vw,v.sat H→ad_ Γ v→∀ j u,cs[j]? = some u→v.w.cell? ((⟨b,0,none⟩:Addr).add j)=some u:=by
 intro v h _ j u e;rw[cK_,Nat.zero_add,fb_ h hi];rw[← m,List.getElem?_take]at e
 split at e
 ·exact e
 cases e
theorem gE_ {k:Act→World→Prop} {e:TypeId} {sz n:Nat} {sv:Value} {xs:List Value} {Hr F:Hp} (C:az_ e sz sv n xs Hr) (E:H.Perm (Hr++F))
    (h:∀ ad cap,sv=.slice ad n cap→n≤cap→cap≤maxLen→Ok N v0 H0 k fr F (X_ ad xs::Γ)):Ok N v0 H0 k fr H Γ:=by
  rcases C.2 with⟨y,A,B⟩|⟨g,cap,cur,y,A,B,M,Q,G⟩
  · subst y A B
    have L:xs=[]:=List.eq_nil_of_length_eq_zero (by simpa using C.1);refine A_ E (kZ_ (Γ':=X_ none xs::Γ) (fun v _ O=>⟨.inl L,O⟩) (h none 0 rfl (Nat.le_refl _) (Nat.zero_le _)))
  · subst y A
    refine en_ (X_ (some ⟨g,0,none⟩) xs) E (fun v J I _=>.inr ⟨g,0,cur,e,(0,0),rfl,J,I,fun j x m=>?_⟩) (h _ cap rfl B M);rw[← G,List.getElem?_take]at m
    split at m
    · rw[Nat.zero_add];simpa using m
    · cases m
end
end Go.Sx
namespace Go.Vs
open Go Go.Sx
theorem Con.one_cells (c:Con):c.cells.all Value.oneCell'=true:=rV_ c
theorem Ax.one_cells (x:Ax):x.cells.all Value.oneCell'=true:=by
  simp only[Ax.cells,List.all_cons,List.all_append,Con.one_cells];rfl
def ch_ (ad:Ao) (l:List Ax):Fct where
  p:=fun v=>bY_ v ad (l.flatMap Ax.cells)∧∀ x∈l,x.mem v
  mono:=fun v v' h hp=>⟨(X_ ad _).mono v v' h hp.1,fun x hx=>x.memF.mono v v' h (hp.2 x hx)⟩
theorem Ad_ (frm:Int) (l:List Pc) (p:Pc):ins frm l p≠[]:=by
 unfold ins
 split
 ·rename_i h;intro e;rw[e]at h;simp at h
 simp
theorem Ax.chainP_ne (frm:Int) (ro:Str):∀ (rs:List Str) (f:Str) (l:List Pc),rs≠[]∨l≠[]→Ax.chainP frm ro rs f l≠[]
  | [],f,l,h=>by rcases h with h|h;exact absurd rfl h;exact h
  | r::t,f,l,_=>by simp only[Ax.chainP];exact Ax.chainP_ne frm ro t _ _ (.inr (Ad_ _ _ _))
theorem Ax.pieces_ne (frm:Int) {x:Ax} (G:x.Good):x.pieces frm≠[]:=by
  unfold Ax.pieces
  repeat' split
  all_goals first|exact Ad_ _ _ _|skip
  rename_i h
  have:=G.chain h;exact Ax.chainP_ne _ _ _ _ _ (.inl (by intro e;rw[List.drop_eq_nil_iff]at e;omega))
def eD_:List Ax→Int
  | []=>0
  | x::l=>if x.check=0 then eD_ l else x.check
def fD_:Nat→List Ax→List Pc→Option (List Pc)
  | _,[],p=>some p
  | i,x::l,p=>if 16384<(p++x.pieces i).length then none else fD_ (i+1) l (p++x.pieces i)
def aL_ (l:List Ax):List Pc×Int :=
  if 1024<l.length then ([],2) else if eD_ l≠0 then ([],eD_ l) else match fD_ 0 l [] with|some p=>(p,0)|none=>([],2)
theorem ir_:∀ (xs ys:List Ax),(∀ x∈xs,x.check=0)→eD_ (xs++ys)=eD_ ys
  | [],_,_=>rfl
  | x::xs,ys,h=>by simp only[List.cons_append,eD_,h x zaf_,if_true];exact ir_ xs ys fun y e=>h y zbZ_
theorem fH_:∀ {l:List Ax},(∀ x∈l,x.check=0)→eD_ l=0
  | [],_=>rfl
  | x::l,h=>by simp only[eD_,h x zaf_,if_true];exact fH_ fun y e=>h y zbZ_
theorem tF_ {l:List Ax} {x:Ax} {i:Nat} (m:l[i]? = some x) (h:∀ y∈l.take i,y.check=0) (v:x.check≠0):eD_ l=x.check:=by
  have e:l=l.take i++x::l.drop (i+1):=by rw[← lq_ m,List.take_append_drop]
  rw[e,ir_ _ _ h];simp only[eD_,v,if_false]
theorem kv_ (frm:Int) {x:Ax} (G:x.Good):(x.pieces frm).length≤1000:=by
 have hl:x.kind≤3→x.left.sz≤64:=fun h=>(Con.check_zero (G.left h)).2
 have m:x.kind≤4∨x.kind=8→x.right.sz≤64:=fun h=>(Con.check_zero (G.right h)).2
 have B:∀ (ro:Str) (rs:List Str) (f:Str) (l:List Pc),(Ax.chainP frm ro rs f l).length≤l.length+rs.length:=by
   intro ro rs
   induction rs with
   | nil=>intro f l;simp[Ax.chainP]
   | cons r t ih =>
     intro f l;simp only[Ax.chainP];have I:=ih (if t=[] then ro else f++[46]++r) (ins frm l ⟨6,[],[],[],f,r,if t=[] then ro else f++[46]++r,0,0,0⟩);have J:=cj_ frm l ⟨6,[],[],[],f,r,if t=[] then ro else f++[46]++r,0,0,0⟩;simp only[List.length_cons];omega
 have L:=fun (c:Con) l=>Con.leftP_len frm _ c (Nat.le_refl _) l
 have e:=fun (c:Con) l=>Con.rightP_len frm _ c (Nat.le_refl _) l
 have O:([]:List Pc).length=0:=rfl;unfold Ax.pieces
 split
 ·have:=hl zaa_;have:=m zaa_
  have v:=L x.left [];have A:=e x.right (x.left.leftP frm []);have y:=cj_ frm (x.right.rightP frm (x.left.leftP frm [])) ⟨1,x.left.atom,[],x.right.atom,[],[],[],0,0,0⟩;omega
 split
 ·have:=hl zaa_;have:=m zaa_
  have v:=L x.left [];have A:=e x.right (x.left.leftP frm []);have y:=cj_ frm (x.right.rightP frm (x.left.leftP frm [])) ⟨1,x.left.atom,[],x.right.atom,[],[],[],0,0,0⟩;have E:=L x.right (ins frm (x.right.rightP frm (x.left.leftP frm [])) ⟨1,x.left.atom,[],x.right.atom,[],[],[],0,0,0⟩);have M:=e x.left (x.right.leftP frm (ins frm (x.right.rightP frm (x.left.leftP frm [])) ⟨1,x.left.atom,[],x.right.atom,[],[],[],0,0,0⟩));have F:=cj_ frm (x.left.rightP frm (x.right.leftP frm (ins frm (x.right.rightP frm (x.left.leftP frm [])) ⟨1,x.left.atom,[],x.right.atom,[],[],[],0,0,0⟩))) ⟨1,x.right.atom,[],x.left.atom,[],[],[],0,0,0⟩;omega
 split
 ·have:=hl zaa_;have:=m zaa_
  have v:=L x.left [];have A:=L x.right (x.left.leftP frm []);have y:=cj_ frm (x.right.leftP frm (x.left.leftP frm [])) ⟨2,x.left.atom,x.right.atom,[33],[],[],[],0,0,0⟩;omega
 split
 ·have:=m zaa_
  have v:=e x.right [];have y:=cj_ frm (x.right.rightP frm []) ⟨4,[42],[],x.right.atom,x.role,[],[],0,0,0⟩;omega
 split
 ·have:=cj_ frm [] ⟨5,[],[],[],x.roles.headD [],[],x.role,0,0,0⟩;omega
 split
 ·rename_i C
  have:=G.chain C;have:=B x.role (x.roles.drop 1) (x.roles.headD []) [];simp only[List.length_drop]at this;omega
 split
 ·have:=cj_ frm [] ⟨7,[],[],[],x.role,[],[],0,0,0⟩;omega
 split
 ·have:=m zaa_
  have v:=e x.right [];have y:=cj_ frm (x.right.rightP frm []) ⟨1,[123]++x.a++[125],[],x.right.atom,[],[],[],0,0,0⟩;omega
 have:=cj_ frm [] ⟨3,[123]++x.a++[125],[],[123]++x.b++[125],x.role,[],[],0,0,0⟩;omega
end Go.Vs
