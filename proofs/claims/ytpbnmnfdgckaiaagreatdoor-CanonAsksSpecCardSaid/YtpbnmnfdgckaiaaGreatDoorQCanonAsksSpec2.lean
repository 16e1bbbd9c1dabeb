/-
  Part of the proof of the law CanonAsksSpec over this seat: the small logic, the data, the contracts of functions (no condition).
-/
import Derived.Test.YtpbnmnfdgckaiaaGreatDoorQCanonAsksSpec1
import Derived.RangeFuncRecord
import Derived.Lib.Bytealg
import Derived.Below
import Derived.MapKept
import Derived.Deep.Draws
import Derived.Sort.Grow
import Derived.Lib.Join
import Derived.Lib.ItoaLen
import Derived.Laws.StructEq
set_option linter.unusedVariables false
set_option linter.unusedSimpArgs false
set_option linter.unusedSectionVars false
set_option maxHeartbeats 1000000
namespace Go.Sx
open Go
section
variable {P:Program} {N:Nat} {v0:Vw} {H0:Hp} {R:Exit→Act→World→Prop} {K:List Kt} {fr:Fr} {H F:Hp} {Γ:List Fct}
theorem eH_ {v:Vw} {l:Nat} {o o':Obj} (h:v.sat ((l,o)::F)):(⟨v.im,v.w.putObj l o',v.sl⟩:Vw).sat ((l,o')::F)∧v.to ((l,o)::F) ⟨v.im,v.w.putObj l o',v.sl⟩ ((l,o')::F):=by
  have hl:=(h.own (l,o) List.mem_cons_self).1;have:=eG_ (i:=0) (o':=o') (w':=v.w.putObj l o') h rfl rfl rfl rfl (Nat.le_refl _) zj_ (World.putObj_heap_same (Array.getElem?_eq_some_iff.1 hl).1) (fun k hk=>World.putObj_heap_other hk);simpa using this
theorem jS_ {ι:Type} {c:Code} (d:ι→Fr) (Hs:ι→Hp) (h:ι→List Fct) (A:iD_ Fence.wide 0 P (Mid N v0 H0 d Hs h) N [] v0 H0 c [] fr H Γ) (J:∀ i,Fin P R N v0 H0 K (d i) (Hs i) (h i)):Run P R N v0 H0 c K fr H Γ:=by
  intro a v I G C q;refine wp_mono (wpIn_wide.1 (gG_.1 A a v I G C q)) ?_;rintro e y w' ⟨rfl,i,x,rfl,k1,k2,B,E⟩;exact J i y x k1 k2 B E
def sA_ {σ τ:Type} (v0:Vw) (H0:Hp) (Hj:σ→Hp) (Hx:τ→Hp) (HL:Hp) (res:σ ⊕ τ):Exit→Act→World→Prop
  | .normal,_,w=>∃ s' v,res=.inl s'∧v.w=w∧v.sat (Hj s'++HL)∧v0.to H0 v (Hj s'++HL)
  | .ret,_,w=>∃ t v,res=.inr t∧v.w=w∧v.sat (Hx t++HL)∧v0.to H0 v (Hx t++HL)
  | _,_,_=>False
def nC_ {σ τ:Type} (Gj:σ→Hp) (Gx:τ→Hp):σ ⊕ τ→Hp
  | .inl s=>Gj s
  | .inr t=>Gx t
def HLp (l D:Nat) (r:Loop):Hp:=[(l,.loop r),(D,.deferred (some []))]
theorem mr_ {σ τ ι:Type} {l D:Nat} {d:Loop} {G:Nat} {x:Value} {Hj:σ→Hp} {Hx:τ→Hp} {s:σ} {res:σ ⊕ τ} (J:ι→Fr) (O:ι→Hp)
    (hp:d.params=#[G]) (hst:d.state=.ready) (hpe:d.pending=none) (ht:Fr.sat N fr ⟨d.tmps,[]⟩) (hpm:Nat.blt G N=true)
    (y:∀ n v0 H0 HL,iD_ (Fence.wide.inRound l) n P (Mid N v0 H0 J (fun i=>O i++HL) (fun _=>Γ)) N [] v0 H0 d.assign [] ((G,x)::fr) (Hj s++HL) Γ)
    (C:∀ n v0 H0 HL i,iD_ (Fence.wide.inRound l) n P (sA_ v0 H0 Hj Hx HL res) N [] v0 H0 d.body [] (J i) (O i++HL) Γ) :
    jc_ P l x (Hj s++HLp l D d) Γ (fun _:Unit=>.bool res.isLeft) (fun _=>nC_ (fun Y=>Hj Y++HLp l D d) (fun t=>Hx t++HLp l D { d with state:=.done,pending:=some .ret }) res) (fun _=>[]):=by
  intro v hs hΓ
  have h:∀ (X:Hp) r,(X++HLp l D r).Perm ((l,.loop r)::(X++[(D,.deferred (some []))])):=fun X r=>by
    unfold HLp;exact List.perm_middle
  have hl:v.w.heap[l]? = some (.loop d):=((hs.perm (h _ _)).own _ List.mem_cons_self).1;refine⟨d.fn,_,d.assign,d.body,run_yield hl (by simp[hp]),fun n=>roundIn_of_wpIn trivial ?_⟩;have S:(d.params.zip #[x]).foldl (fun tmps (t,a)=>tmps.setIfInBounds t a) d.tmps=d.tmps.setIfInBounds G x:=by simp[hp]
  rw[S];have M:Fr.sat N ((G,x)::fr) ⟨d.tmps.setIfInBounds G x,[]⟩:=ht.put hpm;refine wpIn_mono (gG_.1 (y n v (Hj s++HLp l D d) (HLp l D d)) ⟨d.tmps.setIfInBounds G x,[]⟩ v M hs (Vw.to.refl _ _) hΓ) ?_;rintro e a1 w1 ⟨rfl,i,Q,rfl,k1,k2,k3,k4⟩;have B:=k2.perm (h _ _);have U:=(B.own _ List.mem_cons_self).1;obtain⟨m1,m2⟩:=eH_ (o':=.loop { d with state:=.busy }) B;refine⟨_,run_beginRound U hst,?_⟩;have m3:=m1.perm (h (O i) { d with state:=.busy }).symm
  have m4:v.to (Hj s++HLp l D d) ⟨Q.im,Q.w.putObj l (.loop { d with state:=.busy }),Q.sl⟩ (O i++HLp l D { d with state:=.busy }) :=
    (k3.trans ((m2.permL (h _ _).symm).subR fun b L=>((h (O i) { d with state:=.busy }).map Prod.fst).mem_iff.1 L))
  have V:=an_ (m2.le B) k4;refine wpIn_mono (gG_.1 (C n v (Hj s++HLp l D d) (HLp l D { d with state:=.busy }) i) a1 ⟨Q.im,_,Q.sl⟩ k1 m3 m4 V) ?_;intro e2 a2 w2 I;cases e2 with
  | normal =>
    obtain⟨Y,E,rfl,rfl,W,Z⟩:=I;have q:=W.perm (h _ _);have A:=(q.own _ List.mem_cons_self).1;obtain⟨z1,T⟩:=eH_ (o':=.loop d) q;have er:({ d with state:=.ready,pending:=none }:Loop)=d:=by cases d;simp_all
    refine⟨_,_,run_endRound none A,(),⟨E.im,E.w.putObj l (.loop d),E.sl⟩,rfl,?_,z1.perm (h _ _).symm,trivial,Z.trans ((T.permL (h _ _).symm).subR fun b L=>((h (Hj Y) d).map Prod.fst).mem_iff.1 L)⟩;simp[er]
  | ret =>
    obtain⟨t,E,rfl,rfl,W,Z⟩:=I;have q:=W.perm (h _ _);have A:=(q.own _ List.mem_cons_self).1;obtain⟨z1,T⟩:=eH_ (o':=.loop { d with state:=.done,pending:=some .ret }) q
    exact⟨_,_,run_endRound (some .ret) A,(),⟨E.im,E.w.putObj l (.loop { d with state:=.done,pending:=some .ret }),E.sl⟩,rfl,rfl,z1.perm (h _ _).symm,trivial,
      Z.trans ((T.permL (h _ _).symm).subR fun b L=>((h (Hx t) { d with state:=.done,pending:=some .ret }).map Prod.fst).mem_iff.1 L)⟩
  | exit id=>exact I.elim
  | goto t=>exact I.elim
  | panic c=>exact I.elim
  | outgrown=>exact I.elim
theorem bk_ {n:Nat}:∀ (K:List Kt) (e:Exit) (a:Act) (w:World),ej_ Fence.wide n P R K e a w→post P R K e a w
 | [],_,_,_,h=>h
 | .seq c::K,.normal,a,w,h=>wp_mono (wpIn_wide.1 h) (fun e a w d=>bk_ K e a w d)
 | .seq _::K,.exit _,a,w,h=>bk_ K _ a w h
 | .seq _::K,.goto _,a,w,h=>bk_ K _ a w h
 | .seq _::K,.ret,a,w,h=>bk_ K _ a w h
 | .seq _::K,.panic _,a,w,h=>bk_ K _ a w h
 | .seq _::K,.outgrown,a,w,h=>bk_ K _ a w h
 | .inv J::_,.normal,_,_,h=>h
 | .inv _::K,.exit _,a,w,h=>bk_ K _ a w h
 | .inv _::K,.goto _,a,w,h=>bk_ K _ a w h
 | .inv _::K,.ret,a,w,h=>bk_ K _ a w h
 | .inv _::K,.panic _,a,w,h=>bk_ K _ a w h
 | .inv _::K,.outgrown,a,w,h=>bk_ K _ a w h
 | .blk id::K,.exit id',a,w,h=>by
   simp only[ej_,post]at h ⊢
   split
   · rename_i e;rw[if_pos e]at h;exact bk_ K _ a w h
   · rename_i e;rw[if_neg e]at h;exact bk_ K _ a w h
 | .blk _::K,.normal,a,w,h=>bk_ K _ a w h
 | .blk _::K,.goto _,a,w,h=>bk_ K _ a w h
 | .blk _::K,.ret,a,w,h=>bk_ K _ a w h
 | .blk _::K,.panic _,a,w,h=>bk_ K _ a w h
 | .blk _::K,.outgrown,a,w,h=>bk_ K _ a w h
def nX_ (D:Nat):List Deferred:=[{ target:=.collected D,args:=#[] }]
theorem tJ_ {σ τ α:Type} {g:Operand} {pm:Nat} {assign body:Code} {gf:FuncId} {caps:List Value} {Hj:σ→Hp} {Hx:τ→Hp} {Hc:Hp} {Γx:α→List Fct} {Γi:List Fct} {xv:α→Value} {good:α→Prop} {stp:α→σ→σ ⊕ τ}
    (s0:σ) (res:σ ⊕ τ) (hg:Fr.ev fr g=some (.func (.func gf) #[] caps.toArray)) (hH:H.Perm (Hc++Hj s0)) (hΓi:∀ v,v.sat H→ac_ Γ v→ac_ Γi v)
    (C:∀ l D (d:Loop),d.params=#[pm]→d.state=.ready→d.pending=none→Fr.sat N fr ⟨d.tmps,[]⟩→d.assign=assign→d.body=body→∀ s x,good x →
      jc_ P l (xv x) (Hj s++HLp l D d) (Γx x) (fun _:Unit=>.bool (stp x s).isLeft) (fun _=>nC_ (fun s'=>Hj s'++HLp l D d) (fun t=>Hx t++HLp l D { d with state:=.done,pending:=some .ret }) (stp x s)) (fun _=>[]))
    (hit:∀ l (Gj:σ→Hp) (Gx:τ→Hp),(∀ s x,good x→jc_ P l (xv x) (Gj s) (Γx x) (fun _:Unit=>.bool (stp x s).isLeft) (fun _=>nC_ Gj Gx (stp x s)) (fun _=>[])) →
      Tri P gf (.func (.yield l) #[] #[]::caps).toArray (Hc++Gj s0) Γi (fun _:Unit=>.tuple #[]) (fun _=>Hc++nC_ Gj Gx res) (fun _=>[]))
    (E:∀ s',res=.inl s'→∀ D l r,sB_ Fence.wide 0 P R N (nX_ D) v0 H0 K fr (Hc++Hj s'++HLp l D r) Γ)
    (U:∀ t,res=.inr t→∀ D l r,OkD N (nX_ D) v0 H0 (R .ret) fr (Hc++Hx t++HLp l D r) Γ) :
    Run P R N v0 H0 (.rangeFunc g #[pm] assign body) K fr H Γ:=by
  intro a v J W h3 h4;refine wpIn_wide (n:=0) |>.1 (wpIn_mono (Q:=ej_ Fence.wide 0 P R K) (wpIn_rangeFunc fun fn _=>?_) fun e a w hq=>bk_ K e a w hq)
  obtain⟨a1,a2⟩:=fE_ (w':=v.w.alloc (.deferred (some []))) (o:=.deferred (some [])) W rfl rfl rfl rfl (Nat.le_refl _);obtain⟨d,y⟩:∃ d:Loop,d={ state:=.ready,pending:=none,fn,tmps:=a.tmps,params:=#[pm],assign,body,defers:=v.w.heap.size }:=⟨_,rfl⟩;obtain⟨b1,b2⟩:=fE_ (w':=(v.w.alloc (.deferred (some []))).alloc (.loop d)) (o:=.loop d) a1 rfl rfl rfl rfl (Nat.le_refl _);have L:(v.w.alloc (Obj.deferred (some []))).heap.size=v.w.heap.size+1:=by simp
  have b1':(⟨v.im,(v.w.alloc (.deferred (some []))).alloc (.loop d),v.sl⟩:Vw).sat ((v.w.heap.size+1,.loop d)::(v.w.heap.size,.deferred (some []))::H):=L▸b1;have I:v.to H ⟨v.im,(v.w.alloc (.deferred (some []))).alloc (.loop d),v.sl⟩ ((v.w.heap.size+1,.loop d)::(v.w.heap.size,.deferred (some []))::H):=a2.trans (L▸b2)
  have B:((v.w.heap.size+1,Obj.loop d)::(v.w.heap.size,.deferred (some []))::H).Perm (Hc++(Hj s0++HLp (v.w.heap.size+1) v.w.heap.size d)):=by
    rw[← List.append_assoc];exact (List.perm_append_comm (l₁:=HLp (v.w.heap.size+1) v.w.heap.size d) (l₂:=H)).trans (hH.append_right _)
  have hT:=hit (v.w.heap.size+1) (fun s=>Hj s++HLp (v.w.heap.size+1) v.w.heap.size d) (fun t=>Hx t++HLp (v.w.heap.size+1) v.w.heap.size { d with state:=.done,pending:=some .ret })
    (C _ _ d zaz_ zaz_ zaz_ (by rw[y];exact⟨J.size,rfl,J.val⟩) zaz_ zaz_)
  have hΓ2:=an_ (I.le W) (hΓi v W h4);have hΓ3:=an_ (I.le W) h4;have he:=J.ev hg;refine⟨v.w.heap.size+1,nX_ v.w.heap.size,(v.w.alloc (.deferred (some []))).alloc (.loop d),⟨.fn (.func gf) caps.toArray,#[.func (.yield (v.w.heap.size+1)) #[] #[]]⟩,(v.w.alloc (.deferred (some []))).alloc (.loop d),gf,(.func (.yield (v.w.heap.size+1)) #[] #[]::caps).toArray,_,?_,?_,fun _ _=>trivial,?_,fun h=>(by cases h),callsIn_wide.2 ((hT.run ⟨v.im,_,v.sl⟩ (b1'.perm B) hΓ2).mono ?_)⟩
  · rw[y];exact run_enterLoop_outer _ _ _ _ _
  · simp only[resolve,rangeCall,List.map_toArray,List.map_cons,List.map_nil,he,Deferred.ofValue]
    rfl
  · have:=hT.callable (.func (.yield (v.w.heap.size+1)) #[] #[]::caps).toArray ((v.w.alloc (.deferred (some []))).alloc (.loop d))
    simpa [invoke] using this
  · rintro e w' ⟨_,Z,rfl,rfl,g1,g2,g3⟩
    have G:=I.trans (g3.permL B.symm);have T:=an_ (G.le W) h4;have V:∀ S,SatD N S fr { a with defers:=S++a.defers }:=fun S=>⟨⟨J.size,rfl,J.val⟩,by show S++a.defers=S;rw[J.defers];simp⟩
    have A:∀ (X Y:Hp) r,(Y++(X++HLp (v.w.heap.size+1) v.w.heap.size r)).Perm ((v.w.heap.size+1,.loop r)::(Y++X++[(v.w.heap.size,.deferred (some []))])):=fun X Y r=>by
      unfold HLp;rw[← List.append_assoc];exact List.perm_middle
    cases res with
    | inl s' =>
      have q:=g1.perm (A (Hj s') Hc d);have hl:=(q.own _ List.mem_cons_self).1;obtain⟨z1,M⟩:=eH_ (o':=.loop { d with state:=.exhausted }) q
      have O:((v.w.heap.size+1,Obj.loop { d with state:=.exhausted })::(Hc++Hj s'++[(v.w.heap.size,.deferred (some []))])).Perm (Hc++Hj s'++HLp (v.w.heap.size+1) v.w.heap.size { d with state:=.exhausted }):=by
        have:=(A (Hj s') Hc { d with state:=.exhausted }).symm;rw[← List.append_assoc]at this;exact this
      refine⟨d.pending,_,run_endLoop hl (by rw[y];simp),?_⟩;have hpn:d.pending=none:=by rw[y]
      split
      case h_2=>rename_i c hc;rw[hpn]at hc;cases hc
      exact E s' rfl _ _ _ _ ⟨Z.im,_,Z.sl⟩ (V _) (z1.perm O) (h3.trans (G.trans ((M.permL (A _ _ _).symm).subR fun b hb=>(O.map Prod.fst).mem_iff.2 hb))) (an_ (M.le q) T)
    | inr t =>
      have q:=g1.perm (A (Hx t) Hc _);have hl:=(q.own _ List.mem_cons_self).1;obtain⟨z1,M⟩:=eH_ (o':=.loop { d with state:=.exhausted,pending:=some .ret }) q
      have O:((v.w.heap.size+1,Obj.loop { d with state:=.exhausted,pending:=some .ret })::(Hc++Hx t++[(v.w.heap.size,.deferred (some []))])).Perm (Hc++Hx t++HLp (v.w.heap.size+1) v.w.heap.size { d with state:=.exhausted,pending:=some .ret }):=by
        have:=(A (Hx t) Hc { d with state:=.exhausted,pending:=some .ret }).symm;rw[← List.append_assoc]at this;exact this
      refine⟨some .ret,_,run_endLoop hl zj_,?_⟩;refine wpIn_ret (ow_ K _ _ (U t rfl _ _ _ _ ⟨Z.im,_,Z.sl⟩ (V _) (z1.perm O) (h3.trans (G.trans ((M.permL (A _ _ _).symm).subR fun b hb=>(O.map Prod.fst).mem_iff.2 hb))) (an_ (M.le q) T)))
theorem hj_ {f:FuncId} {fn:Func} {c:Code} {args:List Value} {ι:Type} {d:ι→Value} {H':ι→Hp} {Γ':ι→List Fct}
    (y : P.funcs[f]? = some fn) (A : fn.body = some c) (E : (fn.name == "runtime.NumGoroutine") = false) (J : fn.ntmps = N) (hl : Nat.ble args.length N = true)
    (h:∀ v0,Run P (bodyPostM Fence.wide 0 P fn (kz_ v0 H d H' Γ')) N v0 H c [] (kQ_ 0 args) H Γ):Tri P f args.toArray H Γ d H' Γ':=by
  refine⟨callable y A E,fun v C B=>callsIn_wide.1 (callsIn_of_wp_marks (n:=0) y A trivial ?_)⟩;have G:args.length≤N:=Nat.le_of_ble_eq_true hl;have:=h v ⟨args.toArray++Array.replicate (fn.ntmps - args.toArray.size) undef,[]⟩ v ⟨by simp[J];omega,rfl,fun t x I=>?_⟩ C (Vw.to.refl _ _) B
  · exact wpIn_wide.2 this
  · obtain⟨_,e⟩:=jz_ args 0 t x I
    simp only[Nat.sub_zero]at e;have q:=(List.getElem?_eq_some_iff.1 e).1;rw[Array.getElem?_append_left zah_];simpa using e
theorem retM {fn:Func} {ι:Type} {G:Hp} {ret:ι→Value} {H':ι→Hp} {Γ':ι→List Fct} (x:ι) (A:∀ (a:Act) (v:Vw),Fr.sat N fr a→v.sat H→ac_ Γ v→(results fn a.tmps).run P v.w=.ok (ret x) v.w) (e:H.Perm (H' x++G))
    (B:∀ v,v.sat H→ac_ Γ v→ac_ (Γ' x) v):Ok N v0 H0 (bodyPostM Fence.wide 0 P fn (kz_ v0 H0 ret H' Γ') .ret) fr H Γ:=by
  intro a v h d y q;show LeavesInM Fence.wide 0 P fn a.tmps _ a.defers .returning v.w
  rw[h.defers]
  exact⟨ret x,A a v h d q,x,v,rfl,rfl,(d.perm e).sub,B v d q,y.subR fun b C=>by
    have:b∈(H' x++G).map Prod.fst:=by rw[List.map_append];exact List.mem_append_left _ C
    exact (e.map Prod.fst).mem_iff.2 this⟩
theorem yM_ {fn:Func} {ι:Type} {D:Nat} {G:Hp} {ret:ι→Value} {H':ι→Hp} {Γ':ι→List Fct} (x:ι) (Q:∀ (a:Act) (v:Vw),Fr.sat N fr a→v.sat G→(results fn a.tmps).run P v.w=.ok (ret x) v.w) (y:H.Perm ((D,.deferred (some []))::(G)))
    (I:∃ e,G.Perm (H' x++e)) (E:Γ' x=[]):OkD N (nX_ D) v0 H0 (bodyPostM Fence.wide 0 P fn (kz_ v0 H0 ret H' Γ') .ret) fr H Γ:=by
  intro a v A C O S;show LeavesInM Fence.wide 0 P fn a.tmps _ a.defers .returning v.w
  rw[A.defers];have q:=C.perm y;have hl:=(q.own _ List.mem_cons_self).1;obtain⟨h,L⟩:=eH_ (o':=.deferred none) q;have B:(⟨v.im,v.w.putObj D (.deferred none),v.sl⟩:Vw).sat G:=⟨fun p M=>h.own p (List.mem_cons_of_mem _ M),by have:=h.nodup;rw[List.map_cons,List.nodup_cons]at this;exact this.2,h.lt⟩;obtain⟨e,d⟩:=I;refine⟨by simp,.inl ⟨D,_,rfl,run_takeDeferred hl,ret x,?_,x,⟨v.im,_,v.sl⟩,rfl,rfl,(B.perm d).sub,by rw[E];trivial,?_⟩⟩
  · exact Q ⟨a.tmps,[]⟩ ⟨v.im,_,v.sl⟩ A.sat B
  · refine (O.trans (L.permL y.symm)).subR fun b J=>?_
    have:b∈(H' x++e).map Prod.fst:=by rw[List.map_append];exact List.mem_append_left _ J
    rw[List.map_cons];exact List.mem_cons_of_mem _ ((d.map Prod.fst).mem_iff.2 this)
end
end Go.Sx
namespace Go.Vs
abbrev Str:=List UInt8
def eL_ (c:UInt8):Bool:=(decide (97≤c.toNat)&&decide (c.toNat≤122))||(decide (65≤c.toNat)&&decide (c.toNat≤90))
def fA_ (c:UInt8):Bool:=eL_ c||decide (c.toNat=95)||(decide (48≤c.toNat)&&decide (c.toNat≤57))
def lA_ (s:Str):Bool:=s.all fA_
def kws:List Str:=[[97,110,100],[115,111,109,101],[105,110],[116,111],[110,111,116,104,105,110,103],[101,118,101,114,121,116,104,105,110,103],[111,110,101],[111,102],[111,112,101,110],[112,114,105,118,97,116,101],[115,117,98],[115,97,109,101],[100,105,115,106,111,105,110,116],[100,111,109,97,105,110],[114,111,108,101],[99,104,97,105,110],[114,101,102,108,101,120,105,118,101],[116,121,112,101],[108,105,110,107],[115,101,108,101,99,116],[119,104,101,114,101],[111,114]]
def bx_ (s:Str):Bool:=kws.contains s
def id_ (s:Str):Bool:=!(s==[])&&eL_ (s.headD 0)&&lA_ s&&!bx_ s
def cR_ (s:Str):Bool:=decide (2≤s.length)&&decide (s.length≤24)&&decide ((s.headD 0).toNat=95)&&lA_ s
def ixS (c:UInt8):Str→Option Nat
  | []=>none
  | b::s=>if b=c then some 0 else (ixS c s).map (·+1)
def bi_ (s:Str):Bool:=decide (s.length≤24)&&match ixS 58 s with
  | none=>id_ s
  | some k=>id_ (s.take k)&&id_ (s.drop (k+1))
def aO_ (s:Str):Bool:=bi_ s||cR_ s
theorem mi_ (c:UInt8):∀ s:Str,Lib.indexByte s c=match ixS c s with|none=>-1|some k=>(k:Int)
 | []=>rfl
 | b::s=>by
   have d:=mi_ c s;simp only[Lib.indexByte,ixS]
   by_cases h:b=c
   · simp[h]
   · simp only[beq_iff_eq,h,if_false]
     cases hx:ixS c s with
     | none=>rw[hx]at d;simp[d]
     | some k=>rw[hx]at d;simp only[d];rw[if_neg za_];simp
theorem sd_ {c:UInt8}:∀ {s:Str} {k:Nat},ixS c s=some k→k<s.length
 | [],k,h=>by simp[ixS]at h
 | b::s,k,h=>by
   simp only[ixS]at h
   split at h
   · simp at h;subst h;simp
   · cases hx:ixS c s with
     | none=>rw[hx]at h;simp at h
     | some j=>rw[hx]at h;simp at h;subst h;have:=sd_ hx;simp;omega
theorem gE_ (p:UInt8→Bool) (s:Str) (k:Nat) (c:UInt8) (d:s[k]? = some c) (h:(s.take k).all p=true) (e:p c=true):(s.take (k+1)).all p=true:=by
  rw[List.take_add_one,d];simp_all
theorem jO_ (p:UInt8→Bool) (s:Str) (k:Nat) (c:UInt8) (d:s[k]? = some c) (e:p c=false):s.all p=false:=by
  rw[List.all_eq_false];exact⟨c,List.mem_of_getElem? d,by simp[e]⟩
theorem oZ_ (p:UInt8→Bool) (s:Str) (k:Nat) (hk:s.length≤k) (h:(s.take k).all p=true):s.all p=true:=by
  rwa [List.take_of_length_le hk]at h
theorem vT_ {m:Str} {r:List Value} {k:Nat} {c:UInt8} (h:m[k]? = some c):Sx.lg (Sx.bytesV m++r) k=some (.int .u8 (c.toNat:Int)):=by
  have hk:k<m.length:=(List.getElem?_eq_some_iff.1 h).1;rw[Sx.lg_eq,List.getElem?_append_left (by simpa [Sx.bytesV] using hk)];simp[Sx.bytesV,h]
end Go.Vs
namespace Go.Vs
open Go Go.Sx
inductive Con where
  | mk (kind:Int) (name:Str) (lo hi:Int) (ad:Option Addr) (cap:Nat) (parts:List Con)
namespace Con
def kind:Con→Int|mk k _ _ _ _ _ _=>k
def name:Con→Str|mk _ n _ _ _ _ _=>n
def lo:Con→Int|mk _ _ l _ _ _ _=>l
def hi:Con→Int|mk _ _ _ h _ _ _=>h
def ad:Con→Option Addr|mk _ _ _ _ a _ _=>a
def cap:Con→Nat|mk _ _ _ _ _ c _=>c
def parts:Con→List Con|mk _ _ _ _ _ _ p=>p
def cells (c:Con):List Value:=[.int .i64 c.kind,str c.name,.int .i64 c.lo,.int .i64 c.hi,.slice c.ad c.parts.length c.cap]
def val (c:Con):Value:=.agg c.cells.toArray
theorem cells_len (c:Con):c.cells.length=5:=rfl
def sz:Con→Nat
  | mk _ _ _ _ _ _ ps=>1+szs ps
where szs:List Con→Nat
  | []=>0
  | p::ps=>sz p+szs ps
theorem sz_pos (c:Con):0<c.sz:=by cases c;simp[sz];omega
theorem uU_ {p:Con}:∀ {ps:List Con},p∈ps→p.sz≤sz.szs ps
 | q::ps,h=>by
   rcases List.mem_cons.1 h with rfl|h
   · simp[sz.szs]
   · have:=uU_ h;simp[sz.szs];omega
theorem sz_part {c p:Con} (h:p∈c.parts):p.sz<c.sz:=by
  cases c with
  | mk k n l hi a cp ps=>have:=uU_ (ps:=ps) h;simp only[sz];omega
def mem:Con→Vw→Prop
  | mk _ _ _ _ a _ ps,v=>bu_ v a (ps.flatMap cells)∧mems ps v
where mems:List Con→Vw→Prop
  | [],_=>True
  | p::ps,v=>mem p v∧mems ps v
theorem qK_ {v:Vw}:∀ {ps:List Con},mem.mems ps v↔∀ p∈ps,p.mem v
  | []=>by simp[mem.mems]
  | p::ps=>by simp[mem.mems,qK_ (ps:=ps)]
theorem mem_iff (c:Con) (v:Vw):c.mem v↔bu_ v c.ad (c.parts.flatMap cells)∧∀ p∈c.parts,p.mem v:=by
  cases c with
  | mk k n l hi a cp ps=>simp only[mem,qK_,ad,parts]
theorem qL_:∀ (n:Nat) (c:Con),c.sz≤n→∀ v e,v.le e→c.mem v→c.mem e
  | 0,c,h=>by have:=c.sz_pos;omega
  | n+1,c,h=>fun v e hl hm=>by
    rw[mem_iff]at hm ⊢;exact⟨(ai_ c.ad (c.parts.flatMap cells)).mono v e hl hm.1,fun p q=>qL_ n p (by have:=sz_part q;omega) v e hl (hm.2 p q)⟩
def memF (c:Con):Fct:=⟨c.mem,qL_ c.sz c (Nat.le_refl _)⟩
def ok:Con→Prop
  | mk k n l h _ c ps=>-9223372036854775808≤k∧k≤9223372036854775807∧n.length≤140737488351232∧-9223372036854775808≤l∧l≤9223372036854775807∧-9223372036854775808≤h∧h≤9223372036854775807∧ps.length≤c∧ps.length≤2199023255488∧oks ps
where oks:List Con→Prop
  | []=>True
  | p::ps=>ok p∧oks ps
theorem pk_:∀ {ps:List Con},ok.oks ps↔∀ p∈ps,p.ok
  | []=>by simp[ok.oks]
  | p::ps=>by simp[ok.oks,pk_ (ps:=ps)]
theorem ok_part {c p:Con} (h:c.ok) (e:p∈c.parts):p.ok:=by
  cases c with
  | mk k n l hi a cp ps=>exact pk_.1 h.2.2.2.2.2.2.2.2.2 p e
theorem ok_name {c:Con} (h:c.ok):c.name.length≤140737488351232:=by cases c;exact h.2.2.1
theorem ok_len {c:Con} (h:c.ok):c.parts.length≤c.cap∧c.parts.length≤2199023255488:=by cases c;exact⟨h.2.2.2.2.2.2.2.1,h.2.2.2.2.2.2.2.2.1⟩
theorem part_cells {c p:Con} {i:Nat} (q:c.parts[i]? = some p):∀ j y,p.cells[j]? = some y→(c.parts.flatMap cells)[i*5+j]? = some y:=by
  intro j y h
  have e:j<5:=by
    have:=(List.getElem?_eq_some_iff.1 h).1;rwa [cells_len]at this
  rw[kT_ cells 5 cells_len c.parts i j p q e];exact h
theorem row_addr {v:Vw} {c p:Con} {i:Nat} (h:c.mem v) (x:c.parts[i]? = some p):∃ b off,c.ad=some ⟨b,off,none⟩:=by
  have:=((mem_iff c v).1 h).1;refine this.addr fun e=>?_;have q:=part_cells x 0 _ (List.getElem?_eq_getElem (by rw[cells_len];omega));rw[e]at q;simp at q
theorem mem_part {v:Vw} {c p:Con} (h:c.mem v) (e:p∈c.parts):p.mem v:=((mem_iff c v).1 h).2 p e
def fits:Con→Nat→Nat→Bool×Nat
  | mk _ _ _ _ _ _ ps,d,n=>if 8<d||64<n+1 then (false,n+1) else fitss ps (d+1) (n+1)
where fitss:List Con→Nat→Nat→Bool×Nat
  | [],_,n=>(true,n)
  | p::ps,d,n=>match fits p d n with
    | (true,m)=>fitss ps d m
    | (false,m)=>(false,m)
theorem fits_eq (c:Con) (d n:Nat):c.fits d n=if 8<d||64<n+1 then (false,n+1) else fits.fitss c.parts (d+1) (n+1):=by cases c;rfl
end Con
end Go.Vs
namespace Go.Sx
section
variable {P:Program} {N:Nf} {v0:Vw} {H0:Hp} {R:Exit→Act→World→Prop} {K:List Kt} {fr:Fr} {H:Hp} {Γ:List Fct}
variable {ops:Array Oper} {l:List Oper} {d:Nat} {ty:TypeId} {ps:String} {af:Array Edge}
open Go Go.Vs
theorem qP_ (c:List Value):pq_ c 0 c.length=some c:=by
  have q:∀ (n off:Nat) (c:List Value),off+n=c.length→pq_ c off n=some (c.drop off):=by
    intro n
    induction n with
    | zero=>intro off c h;simp only[pq_];rw[List.drop_of_length_le za_]
    | succ n ih =>
      intro off c h;have e:off<c.length:=by omega
      simp only[pq_,lg_eq,List.getElem?_eq_getElem e,ih (off+1) c za_];rw[List.drop_eq_getElem_cons e]
  have:=q c.length 0 c za_;simpa using this
theorem dd_ {t:TypeId} {x:Operand} {b:Nat} (i:Nat) {T:TypeId} {fz:Nat×Nat} {c:Con} (h:∀ w,(isAgg t).run P w=.ok true w) (q:∀ w,(sizeOf t).run P w=.ok 5 w)
    (e:Fr.ev fr x=some (.pointer (some ⟨b,0,none⟩))) (hi:H[i]? = some (b,.cells c.cells.toArray T fz)):Yld P N fr H Γ (.load t x) ty c.val :=
  bB_ i h q e hi (by have:=qP_ c.cells;rw[c.cells_len]at this;exact this)
theorem pK_ (c:Con):c.cells.all Value.oneCell'=true:=rfl
theorem ff_ {t:TypeId} {x y:Operand} {b:Nat} (i:Nat) {cur:Array Value} {T:TypeId} {c:Con} (B:∀ w,(sizeOf t).run P w=.ok 5 w)
    (q:Fr.ev fr x=some (.pointer (some ⟨b,0,none⟩))) (A:Fr.ev fr y=some c.val) (hi:H[i]? = some (b,.cells cur T (0,0))) (h:cur.size=5)
    (hk:Ops P R N v0 H0 ops l K fr (H.set i (b,.cells c.cells.toArray T (0,0))) Γ) :
    Ops P R N v0 H0 ops (⟨none,.store t x y,ty,ps,af,none⟩::l) K fr H Γ:=by
  refine z_ i B q A hi (by simp[Con.val,Value.cells,c.cells_len]) (by simp[h]) (pK_ c) ?_
  have e:(cur.toList.take 0++c.val.cells.toList++cur.toList.drop (0+5)).toArray=c.cells.toArray:=by
    have C:cur.toList.length=5:=by simp[h]
    simp[Con.val,Value.cells,List.drop_of_length_le (show cur.toList.length≤5 by omega)]
  rw[e];exact hk
end
end Go.Sx
namespace Go.Vs.Con
theorem hA_:∀ (e ys:List Con) (d n m:Nat),fits.fitss e d n=(true,m)→fits.fitss (e++ys) d n=fits.fitss ys d m
 | [],ys,d,n,m,h=>by simp only[fits.fitss,Prod.mk.injEq]at h;obtain⟨_,rfl⟩:=h;rfl
 | x::e,ys,d,n,m,h=>by
   simp only[fits.fitss,List.cons_append]at h ⊢
   split at h
   · rename_i q y;exact hA_ e ys d q m h
   · cases h
theorem pD_:∀ (k:Nat) (c:Con),c.sz≤k→∀ d n,(c.fits d n).1=true→(c.fits d n).2≤64
 | 0,c,h=>by have:=c.sz_pos;omega
 | k+1,c,h=>fun d n e=>by
   rw[fits_eq]at e ⊢
   split at e
   · cases e
   · rename_i B
     rw[if_neg B];simp only[Bool.or_eq_true,decide_eq_true_eq,not_or,Nat.not_lt]at B
     have y:∀ (ps:List Con),(∀ p∈ps,p.sz≤k)→∀ n,n≤64→(fits.fitss ps (d+1) n).1=true→(fits.fitss ps (d+1) n).2≤64:=by
       intro ps
       induction ps with
       | nil=>intro _ n A _;simpa [fits.fitss] using A
       | cons p ps ih =>
         intro x n A e;simp only[fits.fitss]at e ⊢
         split at e
         · rename_i m hm
           have:=pD_ k p (x p zj_) (d+1) n (by rw[hm]);rw[hm]at this;exact ih (fun q C=>x q (by simp[C])) m this e
         · cases e
     exact y c.parts (fun p x=>by have:=sz_part x;omega) (n+1) za_ e
theorem take_snoc {ps:List Con} {p:Con} {i:Nat} (e:ps[i]? = some p):ps.take (i+1)=ps.take i++[p]:=by rw[List.take_add_one,e];rfl
theorem fitss_step {ps:List Con} {p:Con} {i d n m:Nat} (x:ps[i]? = some p) (h:fits.fitss (ps.take i) d n=(true,m)) (e:(p.fits d m).1=true) :
    fits.fitss (ps.take (i+1)) d n=(true,(p.fits d m).2)∧(p.fits d m).2≤64:=by
  refine⟨?_,pD_ _ p (Nat.le_refl _) d m e⟩;rw[take_snoc x,hA_ _ _ _ _ _ h];simp only[fits.fitss];rcases hq:p.fits d m with⟨b,q⟩
  rw[hq]at e;simp only at e;subst e;rfl
theorem fits_no {k lo hi:Int} {nm:Str} {ad:Option Addr} {cap:Nat} {ps:List Con} {p:Con} {i d n m:Nat} (A:¬ (8<d∨64<n+1)) (x:ps[i]? = some p) (h:fits.fitss (ps.take i) (d+1) (n+1)=(true,m)) (y:(p.fits (d+1) m).1=false) :
    (mk k nm lo hi ad cap ps).fits d n=(false,(p.fits (d+1) m).2):=by
  rw[fits_eq,if_neg (by simpa using A)]
  have e:ps=ps.take i++p::ps.drop (i+1):=by
    have hi:=(List.getElem?_eq_some_iff.1 x).1;rw[List.getElem?_eq_getElem hi]at x;simp only[Option.some.injEq]at x;subst x;rw[List.getElem_cons_drop hi,List.take_append_drop]
  show fits.fitss ps (d+1) (n+1)=_
  rw[e,hA_ _ _ _ _ _ h];simp only[fits.fitss];rcases hq:p.fits (d+1) m with⟨b,q⟩
  rw[hq]at y;simp only at y;subst y;rfl
theorem fits_yes {k lo e:Int} {nm:Str} {ad:Option Addr} {cap:Nat} {ps:List Con} {i d n m:Nat} (q:¬ (8<d∨64<n+1)) (hi:ps.length≤i) (h:fits.fitss (ps.take i) (d+1) (n+1)=(true,m)) :
    (mk k nm lo e ad cap ps).fits d n=(true,m):=by
  rw[fits_eq,if_neg zah_];rw[List.take_of_length_le hi]at h;exact h
end Go.Vs.Con
namespace Go.Vs
open Go Go.Sx
def ez_:List (Int×Int×Int×Bool):=[(0,0,0,false),(0,0,0,false),(0,0,0,false),(1,0,0,false),(2,0,0,false),(0,2,8,false),(1,1,1,false),(1,0,0,true)]
def sY_ (x:Int×Int×Int×Bool):List Value:=[.int .i64 x.1,.int .i64 x.2.1,.int .i64 x.2.2.1,.bool x.2.2.2]
theorem kM_ (x:Int×Int×Int×Bool):(sY_ x).length=4:=rfl
def nd (k:Int):Int×Int×Int×Bool:=(ez_[k.toNat]?).getD (0,0,0,false)
namespace Con
def fieldErr (c:Con):Int :=
  if c.kind<1∨7<c.kind then 21
  else if (c.parts.length:Int)<(nd c.kind).2.1∨(nd c.kind).2.2.1<(c.parts.length:Int)∨((nd c.kind).1=0∧c.name≠[]) then 21
  else if (nd c.kind).2.2.2=true∧(c.lo < -1099511627776∨c.hi<c.lo∨1099511627776<c.hi) then 21
  else if (nd c.kind).2.2.2=false∧(c.lo≠0∨c.hi≠0) then 21
  else if (nd c.kind).1=0∨bi_ c.name=true∨((nd c.kind).1=2∧cR_ c.name=true) then 0
  else 20
def firstErr:Con→Int
  | c@(mk _ _ _ _ _ _ ps)=>if c.fieldErr=0 then firstErrs ps else c.fieldErr
where firstErrs:List Con→Int
  | []=>0
  | p::ps=>if firstErr p=0 then firstErrs ps else firstErr p
theorem lJ_ (c:Con):c.firstErr=if c.fieldErr=0 then firstErr.firstErrs c.parts else c.fieldErr:=by cases c;simp only[firstErr,parts]
def check (c:Con):Int:=if (c.fits 0 0).1 then c.firstErr else 21
end Con
end Go.Vs
namespace Go.Sx
open Go Go.Vs
section
variable {P:Program} {N:Nat} {v0:Vw} {H0:Hp} {R:Exit→Act→World→Prop} {K:List Kt} {fr:Fr} {H:Hp} {Γ:List Fct}
theorem ret0 {fn:Func} {ι:Type} {F:Hp} {ret:ι→Value} {H':ι→Hp} {Γ':ι→List Fct} (A:fn.results=#[]) (x:ι) (y:.tuple #[]=ret x) (e:H.Perm (H' x++F))
    (C:∀ v,v.sat H→ac_ Γ v→ac_ (Γ' x) v):Ok N v0 H0 (bodyPost P fn (kz_ v0 H0 ret H' Γ') .ret) fr H Γ :=
  dN_ e C fun a v B h q E=>⟨B.defers,ret x,by rw[results_none A,y],x,v,rfl,rfl,h,E,q⟩
theorem cp_ {fn:Func} {ι:Type} {F:Hp} {e:ι→Value} {H':ι→Hp} {Γ':ι→List Fct} (y:fn.results=#[]) (x:ι) (q:.tuple #[]=e x) (h:H.Perm (H' x++F))
    (A:∀ v,v.sat H→ac_ Γ v→ac_ (Γ' x) v):Ok N v0 H0 (bodyPost P fn (kz_ v0 H0 e H' Γ') .normal) fr H Γ :=
  ret0 y x q h A
theorem qt_ {fn:Func} {t b:Nat} {ty T:TypeId} {u:Value} (i:Nat) (q:fn.results=#[.cell t ty]) (x:∀ w,(isAgg ty).run P w=.ok false w) (h:Fr.get fr t=some (.pointer (some ⟨b,0,none⟩))) (hi:H[i]? = some (b,.cells #[u] T (0,0))) (a:Act) (v:Vw) (y:Fr.sat N fr a) (B:v.sat H) :
    (results fn a.tmps).run P v.w=.ok u v.w:=by
  have e:=y.val t _ h;have A:v.w.cell? ⟨b,0,none⟩=some u:=by rw[fT_ B hi];rfl
  have hl:=cE_ (t:=ty) (w:=v.w) x A;simp[results,q,e,asAddr,hl]
variable {F:Fence} {n:Nat} {D:List Deferred} {ops:Array Oper} {l:List Oper} {d:Nat} {ty:TypeId} {ps:String} {af:Array Edge}
theorem cM_ {k:Act→World→Prop} {H' F:Hp} {Γ':List Fct} (e:H.Perm (H'++F)) (A:∀ v,v.sat H→ac_ Γ v→ac_ Γ' v) (h:OkD N D v0 H0 k fr H' Γ'):OkD N D v0 H0 k fr H Γ :=
  fun a v y q x B=>h a v y (q.perm e).sub (x.subR fun b C=>by
    have:b∈(H'++F).map Prod.fst:=by rw[List.map_append];exact List.mem_append_left _ C
    exact (e.map Prod.fst).mem_iff.2 this) (A v q B)
theorem qG_ {t:TypeId} {x y:Operand} {b:Nat} (C:Opn F) (i:Nat) {cur:Array Value} {T:TypeId} {c:Con} (B:∀ w,(sizeOf t).run P w=.ok 5 w)
    (q:Fr.ev fr x=some (.pointer (some ⟨b,0,none⟩))) (A:Fr.ev fr y=some c.val) (hi:H[i]? = some (b,.cells cur T (0,0))) (h:cur.size=5)
    (hk:fC_ F n P R N D v0 H0 ops l K fr (H.set i (b,.cells c.cells.toArray T (0,0))) Γ) :
    fC_ F n P R N D v0 H0 ops (⟨none,.store t x y,ty,ps,af,none⟩::l) K fr H Γ:=by
  refine fU_ C i B q A hi (by simp[Con.val,Value.cells,c.cells_len]) (by simp[h]) (pK_ c) ?_
  have e:(cur.toList.take 0++c.val.cells.toList++cur.toList.drop (0+5)).toArray=c.cells.toArray:=by
    have E:cur.toList.length=5:=by simp[h]
    simp[Con.val,Value.cells,List.drop_of_length_le (show cur.toList.length≤5 by omega)]
  rw[e];exact hk
theorem fL_ {σ τ:Type} {Hj:σ→Hp} {Hx:τ→Hp} {h G:Hp} {res:σ ⊕ τ} (e:σ) (A:res=.inl e) (q:H.Perm (Hj e++h++G)):OkD N [] v0 H0 (sA_ v0 H0 Hj Hx h res .normal) fr H Γ :=
  cM_ (Γ':=[]) q (fun _ _ _=>trivial) fun a v B x y _=>⟨e,v,A,rfl,x,y⟩
theorem tM_ {σ τ:Type} {Hj:σ→Hp} {Hx:τ→Hp} {e G:Hp} {res:σ ⊕ τ} (t:τ) (x:res=.inr t) (h:H.Perm (Hx t++e++G)):OkD N [] v0 H0 (sA_ v0 H0 Hj Hx e res .ret) fr H Γ :=
  cM_ (Γ':=[]) h (fun _ _ _=>trivial) fun a v A y q _=>⟨t,v,x,rfl,y,q⟩
theorem fi_ {ι:Type} {e:ι→Fr} {Hs:ι→Hp} {q:ι→List Fct} (i:ι) {F:Hp} (h:Fr.le (e i) fr) (x:H.Perm (Hs i++F)) (y:∀ v,v.sat H→ac_ Γ v→ac_ (q i) v) :
    OkD N [] v0 H0 (Mid N v0 H0 e Hs q .normal) fr H Γ:=gG_.2 (vR_ i h x y)
end
end Go.Sx
namespace Go.Vs.Con
def fold {σ τ:Type} (f:Con→σ→σ ⊕ τ):Con→σ→σ ⊕ τ
  | c@(mk _ _ _ _ _ _ ps),s=>match f c s with|.inl s'=>folds f ps s'|.inr t=>.inr t
where folds {σ τ:Type} (f:Con→σ→σ ⊕ τ):List Con→σ→σ ⊕ τ
  | [],s=>.inl s
  | p::ps,s=>match fold f p s with|.inl s'=>folds f ps s'|.inr t=>.inr t
section
variable {σ τ:Type} {f:Con→σ→σ ⊕ τ}
theorem fold_eq (c:Con) (s:σ):fold f c s=match f c s with|.inl s'=>fold.folds f c.parts s'|.inr t=>.inr t:=by cases c;rw[fold];rfl
theorem hx_:∀ (e ys:List Con) (s m:σ),fold.folds f e s=.inl m→fold.folds f (e++ys) s=fold.folds f ys m
 | [],ys,s,m,h=>by simp only[fold.folds,Sum.inl.injEq]at h;subst h;rfl
 | x::e,ys,s,m,h=>by
   simp only[fold.folds,List.cons_append]at h ⊢
   split at h
   · rename_i q y;exact hx_ e ys q m h
   · cases h
theorem folds_step {ps:List Con} {p:Con} {i:Nat} {s m e:σ} (q:ps[i]? = some p) (h:fold.folds f (ps.take i) s=.inl m) (x:fold f p m=.inl e):fold.folds f (ps.take (i+1)) s=.inl e:=by
  rw[take_snoc q,hx_ _ _ _ _ h];simp only[fold.folds,x]
theorem folds_no {ps:List Con} {p:Con} {i:Nat} {s m:σ} {t:τ} (q:ps[i]? = some p) (h:fold.folds f (ps.take i) s=.inl m) (x:fold f p m=.inr t):fold.folds f ps s=.inr t:=by
  have e:ps=ps.take i++p::ps.drop (i+1):=by
    have hi:=(List.getElem?_eq_some_iff.1 q).1;rw[List.getElem?_eq_getElem hi]at q;simp only[Option.some.injEq]at q;subst q;rw[List.getElem_cons_drop hi,List.take_append_drop]
  rw[e,hx_ _ _ _ _ h];simp only[fold.folds,x]
theorem folds_yes {ps:List Con} {i:Nat} {s m:σ} (hi:ps.length≤i) (h:fold.folds f (ps.take i) s=.inl m):fold.folds f ps s=.inl m:=by
  rwa [List.take_of_length_le hi]at h
end
def chk (c:Con) (_:Unit):Unit ⊕ Int:=if c.fieldErr=0 then .inl () else .inr c.fieldErr
theorem fold_chk:∀ (m:Nat) (c:Con),c.sz≤m→fold chk c ()=if c.firstErr=0 then .inl () else .inr c.firstErr
 | 0,c,h=>by have:=c.sz_pos;omega
 | m+1,c,h=>by
   rw[fold_eq,lJ_,chk]
   have y:∀ (ps:List Con),(∀ p∈ps,p.sz≤m)→fold.folds chk ps ()=if firstErr.firstErrs ps=0 then .inl () else .inr (firstErr.firstErrs ps):=by
     intro ps
     induction ps with
     | nil=>intro _;simp[fold.folds,firstErr.firstErrs]
     | cons p ps ih =>
       intro x;simp only[fold.folds,firstErr.firstErrs];rw[fold_chk m p (x p zj_)]
       by_cases e:p.firstErr=0
       · simp only[e,if_true]
         exact ih fun q A=>x q (by simp[A])
       · simp[e]
   by_cases e:c.fieldErr=0
   · simp only[e,if_true]
     exact y c.parts fun p x=>by have:=sz_part x;omega
   · simp[e]
end Go.Vs.Con
namespace Go.Sx
open Go
theorem jaf {A B:Bool} (h:A=false):false=(A&&B):=by rw[h];rfl
theorem jat {A B r:Bool} (h:A=true) (d:B=r):r=(A&&B):=by rw[h,← d];rfl
theorem jot {A B:Bool} (h:A=true):true=(A||B):=by rw[h];rfl
theorem jof {A B r:Bool} (h:A=false) (d:B=r):r=(A||B):=by rw[h,← d];rfl
theorem jn {A r:Bool} (h:A=r):(!A)=(!r):=by rw[h]
section
variable {P:Program} {N:Nf} {v0:Vw} {H0:Hp} {R:Exit→Act→World→Prop} {K:List Kt} {fr:Fr} {H:Hp} {Γ:List Fct}
variable {ops:Array Oper} {l:List Oper}
theorem ok_ {Q A:Exit→Act→World→Prop} {o:Oper} {a:Act} {w:World} {B E:Act→World→Prop} (h:∀ a w,B a w→E a w) (C:∀ c a w,Q (.panic c) a w→A (.panic c) a w) (F:∀ a w,Q .outgrown a w→A .outgrown a w)
    (d:o.wp P a w B Q):o.wp P a w E A:=by
  unfold Oper.wp at *;generalize (execOp a.eval o).run P w=r at *
  cases r with
  | ok n w' =>
    cases n<;>simp only[Oper.upon]at d ⊢ <;>
      first
        | exact h _ _ d
        | exact Calls.mono d (fun e G y=>by
            cases e with
            | returned v=>exact h _ _ y
            | panicked c=>exact C _ _ _ y
            | outgrown=>obtain⟨a,w,q⟩:=y;exact⟨a,w,F _ _ q⟩)
        | exact Rows.mono d (fun _ _ y=>h _ _ y)
  | halt x w'=>cases x<;>simp only[Oper.upon]at d ⊢<;>first|exact C _ _ _ d|exact d
theorem jo_ {x:List Oper}:∀ (d:List Oper) (a:Act) (w:World),wpList P ops (post P R (.inv (wpList P ops (post P R K) x)::K)) d a w→wpList P ops (post P R K) (d++x) a w
 | [],a,w,h=>h
 | o::d,a,w,h=>by
   simp only[wpList,List.cons_append]at h ⊢
   split
   · rename_i e
     rw[if_pos e]at h;rcases h with h|⟨h,y,w',q⟩
     · exact .inl (ok_ (fun a w q=>jo_ d a w q) (fun c a w q=>q) (fun a w q=>q) h)
     · exact .inr ⟨h,y,w',q⟩
   · rename_i e
     rw[if_neg e]at h;exact jo_ d _ _ h
def tb_:Nat→List Oper→List Oper
  | 0,_=>[]
  | _,[]=>[]
  | n+1,o::l=>o::tb_ n l
def te_:Nat→List Oper→List Oper
  | 0,l=>l
  | _,[]=>[]
  | n+1,_::l=>te_ n l
theorem np_:∀ (n:Nat) (l:List Oper),tb_ n l++te_ n l=l
  | 0,_=>rfl
  | n+1,[]=>rfl
  | n+1,o::l=>by show o::(tb_ n l++te_ n l)=o::l;rw[np_ n l]
def MetJ (N:Nf) (v0:Vw) (H0:Hp) (fr:Fr) (H:Hp) (Γ:List Fct) (a:Act) (w:World):Prop:=∃ v,v.w=w∧Fr.sat N fr a∧v.sat H∧v0.to H0 v H∧ac_ Γ v
theorem aj_ (n:Nat) (X:Bool) (d:Bool→Fr) (C:Ops P R N v0 H0 ops (tb_ n l) (.inv (MetJ N v0 H0 (d X) H Γ)::K) fr H Γ)
    (O:∀ r,X=r→Ops P R N v0 H0 ops (te_ n l) K (d r) H Γ):Ops P R N v0 H0 ops l K fr H Γ:=by
  intro a v M I F A;rw[← np_ n l];refine jo_ _ _ _ ?_;have L:=C a v M I F A;refine wpL_mono ?_ _ _ _ L;rintro x w' ⟨B,rfl,k1,k2,E,G⟩;exact O X rfl x B k1 k2 E G
where wpL_mono {J J':Act→World→Prop} (hJ:∀ a w,J a w→J' a w):∀ (e:List Oper) (a:Act) (w:World),wpList P ops (post P R (.inv J::K)) e a w→wpList P ops (post P R (.inv J'::K)) e a w
  | [],a,w,h=>hJ _ _ h
  | o::e,a,w,h=>by
    simp only[wpList]at h ⊢
    split
    · rename_i y
      rw[if_pos y]at h;rcases h with h|⟨h,x,w',q⟩
      · exact .inl (ok_ (fun a w q=>wpL_mono hJ e a w q) (fun c a w q=>q) (fun a w q=>q) h)
      · exact .inr ⟨h,x,w',q⟩
    · rename_i y
      rw[if_neg y]at h;exact wpL_mono hJ e _ _ h
theorem met {d:Fr} (e:Fr.le d fr):Ok N v0 H0 (MetJ N v0 H0 d H Γ) fr H Γ :=
  bJ_ d e fun _ v q y h x=>⟨v,rfl,q,y,h,x⟩
end
end Go.Sx
namespace Go.Sx
open Go
theorem p_ {α:Type} {f:α→List Value} {n:Nat} (h:∀ x,(f x).length=n) {l:List α} {i:Nat} {x:α} (q:l[i]? = some x):∀ j y,(f x)[j]? = some y→(l.flatMap f)[i*n+j]? = some y:=by
  intro j y e
  have d:j<n:=by
    have:=(List.getElem?_eq_some_iff.1 e).1;rwa [h]at this
  rw[kT_ f n h l i j x q d];exact e
theorem aq_ {α:Type} {f:α→List Value} {n:Nat} (d:∀ x,(f x).length=n) (A:0<n) {v:Vw} {ad:Option Addr} {l:List α} {i:Nat} {x:α} (h:bu_ v ad (l.flatMap f)) (y:l[i]? = some x):∃ b off,ad=some ⟨b,off,none⟩:=by
  refine h.addr fun e=>?_;have q:=p_ d y 0 _ (List.getElem?_eq_getElem (by rw[d];exact A));rw[e]at q;simp at q
def ak_ (s:List UInt8):List Value:=[str s]
theorem at_ (s:List UInt8):(ak_ s).length=1:=rfl
end Go.Sx
namespace Go.Vs
open Go Go.Sx
structure Ax where
  kind:Int
  opn:Bool
  left:Con
  right:Con
  ad:Option Addr
  cap:Nat
  roles:List Str
  role:Str
  a:Str
  b:Str
namespace Ax
def cells (x:Ax):List Value:=.int .i64 x.kind::.bool x.opn::(x.left.cells++(x.right.cells++[.slice x.ad x.roles.length x.cap,str x.role,str x.a,str x.b]))
def val (x:Ax):Value:=.agg x.cells.toArray
theorem cells_len (x:Ax):x.cells.length=16:=by simp[cells,Con.cells_len]
def mem (x:Ax) (v:Vw):Prop:=x.left.mem v∧x.right.mem v∧bu_ v x.ad (x.roles.flatMap ak_)
def memF (x:Ax):Fct:=⟨x.mem,fun v v' h hp=>⟨x.left.memF.mono v v' h hp.1,x.right.memF.mono v v' h hp.2.1,(ai_ x.ad (x.roles.flatMap ak_)).mono v v' h hp.2.2⟩⟩
structure ok (x:Ax):Prop where
  lo:-9223372036854775808≤x.kind
  hi:x.kind≤9223372036854775807
  left:x.left.ok
  right:x.right.ok
  len:x.roles.length≤x.cap
  cap:x.roles.length≤8796093021952
  roles:∀ r∈x.roles,r.length≤140737488351232
  role:x.role.length≤140737488351232
  a:x.a.length≤140737488351232
  b:x.b.length≤140737488351232
end Ax
def Con.empty (c:Con):Bool:=((((c.kind==0)&&(c.name==[]))&&(c.lo==0))&&(c.hi==0))&&((c.parts.length:Int)==0)
def Con.bare:Con→Bool
  | mk k _ _ _ _ _ ps=>(k==4)||((k==5)&&bares ps)
where bares:List Con→Bool
  | []=>false
  | p::ps=>bare p||bares ps
theorem Con.bares_any:∀ (ps:List Con),Con.bare.bares ps=ps.any Con.bare
  | []=>rfl
  | p::ps=>by simp[Con.bare.bares,Con.bares_any ps]
theorem Con.bare_eq (c:Con):c.bare=((c.kind==4)||((c.kind==5)&&c.parts.any Con.bare)):=by cases c;simp only[Con.bare,Con.bares_any,kind,parts]
structure Use where
  left:Bool
  right:Bool
  role:Bool
  a:Bool
  b:Bool
  least:Int
  most:Int
def Use.cells (u:Use):List Value:=[.bool u.left,.bool u.right,.bool u.role,.bool u.a,.bool u.b,.int .i64 u.least,.int .i64 u.most]
theorem Use.cells_len (u:Use):u.cells.length=7:=rfl
def tD_:List Use:=[⟨false,false,false,false,false,0,0⟩,⟨true,true,false,false,false,0,0⟩,⟨true,true,false,false,false,0,0⟩,⟨true,true,false,false,false,0,0⟩,⟨false,true,true,false,false,0,0⟩,
  ⟨false,false,true,false,false,1,1⟩,⟨false,false,true,false,false,2,4⟩,⟨false,false,true,false,false,0,0⟩,⟨false,true,false,true,false,0,0⟩,⟨false,false,true,true,true,0,0⟩]
def us (k:Int):Use:=(tD_[k.toNat]?).getD ⟨false,false,false,false,false,0,0⟩
namespace Ax
def shaped (x:Ax):Bool :=
  if x.kind<1∨9<x.kind then false else
    let u:=us x.kind
    (((((((u.left||x.left.empty)&&(u.right||x.right.empty))&&(u.role||(x.role==[])))&&(u.a||(x.a==[])))&&(u.b||(x.b==[])))&&decide (u.least≤(x.roles.length:Int)))&&decide ((x.roles.length:Int)≤u.most))
def namedU (x:Ax) (u:Use):Bool:=!(u.role&&!bi_ x.role||u.a&&!aO_ x.a||u.b&&!aO_ x.b)&&x.roles.all bi_
def check (x:Ax):Int :=
  if x.shaped=false then 22
  else if x.namedU (us x.kind)=false then 20
  else if (us x.kind).left=true∧x.left.check≠0 then x.left.check
  else if (us x.kind).right=true∧x.right.check≠0 then x.right.check
  else if x.kind=2∧(x.left.bare=true∨x.right.bare=true) then 22
  else if (x.kind=1∨x.kind=4∨x.kind=8)∧x.right.bare=true then 22
  else 0
end Ax
structure NUse where
  a:Bool
  b:Bool
  c:Bool
  r:Bool
  s:Bool
  t:Bool
  numbers:Bool
def NUse.cells (u:NUse):List Value:=[.bool u.a,.bool u.b,.bool u.c,.bool u.r,.bool u.s,.bool u.t,.bool u.numbers]
theorem NUse.cells_len (u:NUse):u.cells.length=7:=rfl
def gu_:List NUse:=[⟨false,false,false,false,false,false,false⟩,⟨true,false,true,false,false,false,false⟩,⟨true,true,true,false,false,false,false⟩,⟨true,false,true,true,false,false,false⟩,⟨true,false,true,true,false,false,false⟩,
  ⟨false,false,false,true,false,true,false⟩,⟨false,false,false,true,true,true,false⟩,⟨false,false,false,true,false,false,false⟩,⟨true,false,false,true,false,false,true⟩,⟨false,false,true,true,false,false,true⟩]
def nus (k:Int):NUse:=(gu_[k.toNat]?).getD ⟨false,false,false,false,false,false,false⟩
end Go.Vs
namespace Go.Sx
open Go
def bU_ (b:Nat) (o:Obj):Fct where
  p:=fun v=>v.im b∧v.w.heap[b]? = some o
  mono:=fun v v' h hp=>⟨h.imUp b hp.1,by rw[h.block b hp.1];exact hp.2⟩
section
variable {P:Program} {N:Nf} {v0:Vw} {H0:Hp} {R:Exit→Act→World→Prop} {K:List Kt} {fr:Fr} {H:Hp} {Γ:List Fct}
variable {ops:Array Oper} {l:List Oper} {d:Nat} {ty:TypeId} {ps:String} {af:Array Edge}
theorem iq_ {k:Act→World→Prop} {b:Nat} {o:Obj} (i:Nat) (hi:H[i]? = some (b,o)) (h:Ok N v0 H0 k fr (H.eraseIdx i) (bU_ b o::Γ)):Ok N v0 H0 k fr H Γ :=
  eJ_ (bU_ b o) (gs_ hi) (fun _ e q _=>⟨e,q⟩) h
theorem ba_ {t:TypeId} (e:Nat.blt d N.n=true) (hk:∀ b,Ops P R N v0 H0 ops l K ((d,.map (some b))::fr) ((b,.map #[] 0)::H) Γ) :
    Ops P R N v0 H0 ops (⟨some d,.makeMap t none,ty,ps,af,none⟩::l) K fr H Γ :=
  gt_ (x:=fun b=>.map (some b)) e (fun a v h _ _=>by simp[execOp,Instr.makeMap,newObj];rfl) hk
def hb_ (P:Program) (k:TypeId) (key:Value):Prop:=∀ e w,(Instr.checkKey e 10000 k key).run P w=.ok () w
def dq_ (P:Program) (k:TypeId) (key:Value) (es:List MapEntry) (r:Option (Nat×Value)):Prop:=∀ w,(Instr.findKey k key es).run P w=.ok r w
theorem bb_ {k:TypeId} {i:IntKind} {n:Int} (h:P.underlying k=some (.int i)):hb_ P k (.int i n):=fun e w=>by
  exact key (9999) e w
where key (m:Nat) (e:Bool) (w:World):(Instr.checkKey e (m+1) k (.int i n)).run P w=.ok () w:=by simp[Instr.checkKey,run_underlying h]
theorem aK_ {k:TypeId} {dd:TypeDesc} {e:Value} {es:List MapEntry} {r:Option (Nat×Value)} (q:P.underlying k=some dd) (h:Instr.findNow dd e es 0=some r):dq_ P k e es r:=fun w=>by
  simp[Instr.findKey,run_underlying q,h]
theorem eS_ {t h I:TypeId} {x y:Operand} {b c i:Nat} {es:Array MapEntry} {e u:Value} (G:∀ w,(underlying t).run P w=.ok (.map h I) w) (F:Fr.ev fr x=some (.map (some b))) (E:Fr.ev fr y=some e)
    (hm:∀ v,v.sat H→ac_ Γ v→v.w.heap[b]? = some (.map es c)) (hk:hb_ P h e) (A:dq_ P h e es.toList (some (i,u))):Yld P N fr H Γ (.lookup t x y false) ty u :=
  fun a v q J B _ _ _=>by
    have C:=MapKept.run_getObj_map (P:=P) (hm v J B);simp[execOp,q.ev F,q.ev E,Instr.lookup,G,C,hk _ _,A _]
theorem eC_ {t h A:TypeId} {x y:Operand} {b c:Nat} {es:Array MapEntry} {e z:Value} (J:∀ w,(underlying t).run P w=.ok (.map h A) w) (C:∀ w,(zeroValue A).run P w=.ok z w) (I:Fr.ev fr x=some (.map (some b))) (G:Fr.ev fr y=some e)
    (hm:∀ v,v.sat H→ac_ Γ v→v.w.heap[b]? = some (.map es c)) (hk:hb_ P h e) (B:dq_ P h e es.toList none):Yld P N fr H Γ (.lookup t x y false) ty z :=
  fun a v q L E _ _ _=>by
    have F:=MapKept.run_getObj_map (P:=P) (hm v L E);simp[execOp,q.ev I,q.ev G,Instr.lookup,J,F,hk _ _,B _,C]
theorem aS_ {o:Op} {t C W:TypeId} {x y z:Operand} {b c:Nat} (i:Nat) {es:Array MapEntry} {e u:Value} (O:o=.insert t x y z∨o=.mapUpdate t x y z) (U:∀ w,(underlying t).run P w=.ok (.map C W) w)
    (S:Fr.ev fr x=some (.map (some b))) (M:Fr.ev fr y=some e) (I:Fr.ev fr z=some u) (hi:H[i]? = some (b,.map es c)) (hk:hb_ P C e) (G:dq_ P C e es.toList none)
    (A:Ops P R N v0 H0 ops l K fr (H.set i (b,.map (es.push ⟨e,u,c⟩) (c+1))) Γ):Ops P R N v0 H0 ops (⟨none,o,ty,ps,af,none⟩::l) K fr H Γ :=
  co_ rfl fun a v h B Q J=>by
    have q:=(B.own _ (List.mem_of_getElem? hi)).1;have T:=MapKept.run_getObj_map (P:=P) q;have X:=MapKept.run_setObj_map (P:=P) (.map (es.push ⟨e,u,c⟩) (c+1)) q
    have L:(execOp a.eval ⟨none,o,ty,ps,af,none⟩).run P v.w=.ok .skip { v.w with heap:=v.w.heap.setIfInBounds b (.map (es.push ⟨e,u,c⟩) (c+1)) }:=by
      rcases O with rfl|rfl<;>simp[execOp,h.ev S,h.ev M,h.ev I,Instr.mapUpdate,U,T,hk _ _,G _,X]
    unfold Oper.wp;rw[L];have E:=MapKept.heap_set (o':=.map (es.push ⟨e,u,c⟩) (c+1)) q;obtain⟨V,F⟩:=eG_ (w':={ v.w with heap:=v.w.heap.setIfInBounds b (.map (es.push ⟨e,u,c⟩) (c+1)) }) B hi rfl rfl rfl (Nat.le_refl _) zj_ E.1 (fun k hk=>E.2 k hk);exact A a _ h V (Q.trans F) (an_ (F.le B) J)
theorem cO_ {f:FuncId} {args:Array Value} {r:Value} (E:hc_ P f) (h:∀ v:Vw,v.sat H→ac_ Γ v→Calls P f args v.w fun e w'=>e=.returned r∧RowKit.Below v.w.heap.size v.w w'∧(v.sl∨v.w.drawn≤w'.drawn)):Tri P f args H Γ (fun _:Unit=>r) (fun _=>H) (fun _=>[]) :=
  ⟨E,fun v x I=>(h v x I).mono fun e w' ⟨G,y,F⟩=>by
    have A:v.w.heap.size≤w'.heap.size:=y.size;have C:∀ p∈H,p.1<v.w.heap.size:=fun p B=>(Array.getElem?_eq_some_iff.1 (x.own p B).1).1
    refine⟨(),⟨v.im,w',v.sl⟩,G,rfl,⟨fun p B=>⟨?_,(x.own p B).2⟩,x.nodup,fun b q=>Nat.lt_of_lt_of_le (x.lt b q) A⟩,trivial,⟨y.os,y.tape,y.output,A,fun b q _=>y.block b q,fun _ h=>h,fun _ h=>.inl h,fun _ h=>.inl h,rfl,F⟩⟩;show w'.heap[p.1]? = _
    rw[y.block p.1 (C p B)];exact (x.own p B).1⟩
theorem sv_ (w:World) (k:Nat) (os:Array Obj):RowKit.Below w.heap.size w (Go.Sort.grow (w.drewN k) os) :=
  ⟨rfl,rfl,rfl,by simp[Go.Sort.grow],fun b e=>by simp only[Go.Sort.grow,World.heap_drewN];rw[Array.getElem?_append_left e]⟩
theorem ji_ {t e:TypeId} {sz by':Nat} {z:Value} (x:P.underlying t=some (.slice e)) (hi:(P.info? e).map (fun i=>(i.zero,i.size,i.bytes))=some (some z,sz,by')) (y:z.cells.size=sz) (q:0<sz):Elt P t e sz by':=by
  refine⟨x,?_,q⟩;cases h:P.info? e with
  | none=>rw[h]at hi;cases hi
  | some i =>
    rw[h]at hi;simp only[Option.map_some,Option.some.injEq,Prod.mk.injEq]at hi;exact⟨i,z,rfl,hi.1,hi.2.1,hi.2.2,y⟩
theorem aR_ {b:Nat} {cs:List Value} {T:TypeId} {fz:Nat×Nat} (i:Nat) (hi:H[i]? = some (b,.cells cs.toArray T fz)):∀ v:Vw,v.sat H→ac_ Γ v→∀ j u,cs[j]? = some u→v.w.cell? ((⟨b,0,none⟩:Addr).add j)=some u:=by
  intro v h _ j u e;rw[cj_,Nat.zero_add,fT_ h hi];simpa using e
theorem gb_ {N:Nat} {fn:Func} {ι:Type} {F:Hp} {ret:ι→Value} {H':ι→Hp} {Γ':ι→List Fct} (x:ι) (E:∀ (a:Act) (v:Vw),Fr.sat N fr a→v.sat H→(results fn a.tmps).run P v.w=.ok (ret x) v.w) (h:H.Perm (H' x++F))
    (y:∀ v,v.sat H→ac_ Γ v→ac_ (Γ' x) v):Ok N v0 H0 (bodyPost P fn (kz_ v0 H0 ret H' Γ') .ret) fr H Γ :=
  fun a v q e C A=>⟨q.defers,ret x,E a v q e,x,v,rfl,rfl,(e.perm h).sub,y v e A,C.subR fun b B=>by
    have:b∈(H' x++F).map Prod.fst:=by rw[List.map_append];exact List.mem_append_left _ B
    exact (h.map Prod.fst).mem_iff.2 this⟩
theorem dE_ {fn:Func} {t b n:Nat} {ty T:TypeId} {us:List Value} (i:Nat) (q:fn.results=#[.cell t ty]) (x:∀ w,(isAgg ty).run P w=.ok true w) (F:∀ w,(sizeOf ty).run P w=.ok n w) (B:us.length=n) (C:Fr.get fr t=some (.pointer (some ⟨b,0,none⟩)))
    (hi:H[i]? = some (b,.cells us.toArray T (0,0))) (a:Act) (v:Vw) (A:Fr.sat N fr a) (E:v.sat H):(results fn a.tmps).run P v.w=.ok (.agg us.toArray) v.w:=by
  have e:=A.val t _ C;have hl:=dP_ (t:=ty) (w:=v.w) (b:=b) (off:=0) x F B (fun j y h=>by rw[Nat.zero_add,fT_ E hi];simpa using h);simp[results,q,e,asAddr,hl]
theorem wQ_ {Hs:Hp} {E:List Fct} {y:Nat} {e:Array Bool} (B:List Nat) (G:Region.ready .any ops e=B) (A:B≠[])
    (h:∀ i,i∈B→∃ o,ops[i]? = some o∧Ops P R N v0 H0 ops [o] (.inv (Nx P R ops Hs E y (e.setIfInBounds i true) K)::K) fr H Γ):Any P R N v0 H0 ops Hs E (y+1) e K fr H Γ:=by
  intro a v I M L J;refine wpAnyH_all G A fun j F=>?_;obtain⟨o,hi,h⟩:=h j F;have:=h a v I M L J;unfold wpOp;simp only[hi];unfold wpList at this
  split
  · rename_i C
    rw[if_pos C]at this;rcases this with q|q
    · left
      unfold Oper.wp at q ⊢;generalize (execOp a.eval o).run P v.w=r at q ⊢
      cases r with
      | ok n w' =>
        cases n<;>simp only[Oper.upon]at q ⊢<;>exact q
      | halt x w' =>
        cases x<;>simp only[Oper.upon]at q ⊢
        case panic u=>exact q
    · exact .inr q
  · rename_i C
    rw[if_neg C]at this;exact this
theorem gC_ {Hs:Hp} {x:List Fct} {q:Nat} {e:Array Bool} (i j:Nat) {o o':Oper} (hi:ops[i]? = some o) (y:ops[j]? = some o') (A:Region.ready .any ops e=[i,j])
    (h:Ops P R N v0 H0 ops [o] (.inv (Nx P R ops Hs x q (e.setIfInBounds i true) K)::K) fr H Γ) (B:Ops P R N v0 H0 ops [o'] (.inv (Nx P R ops Hs x q (e.setIfInBounds j true) K)::K) fr H Γ):Any P R N v0 H0 ops Hs x (q+1) e K fr H Γ :=
  wQ_ [i,j] A zj_ fun k hk=>by
    simp only[List.mem_cons,List.not_mem_nil,or_false]at hk;rcases hk with rfl|rfl
    · exact⟨o,hi,h⟩
    · exact⟨o',y,B⟩
theorem ax_.some {e:TypeId} {sz n:Nat} {sv:Value} {x:List Value} {Hr:Hp} (h:ax_ e sz sv n x Hr) (y:n≠0) :
    ∃ g cap cur,sv=.slice (some ⟨g,0,none⟩) n cap∧Hr=[(g,.cells cur e (0,0))]∧n≤cap∧cap≤maxLen∧cur.size=cap*sz∧cur.toList.take (n*sz)=x:=by
  rcases h.2 with⟨_,q,_⟩|q
  · exact absurd q y
  · exact q
theorem ka_ {us:List Value} (h:us.all Value.oneCell'=true):∀ u∈us,u.oneCell'=true:=fun u e=>List.all_eq_true.1 h u e
theorem ah_ {e:Nat} (Hs:Hp) (hm:P.follows .mixedOrders=true) (h:Any P R N v0 H0 ops Hs Γ ops.size (Array.replicate ops.size false) K fr H Γ):Run P R N v0 H0 (.region e ops true) K fr H Γ:=qm_ Hs Γ hm h
theorem retG {N:Nat} {fn:Func} {ι:Type} {F:Hp} {ret:ι→Value} {H':ι→Hp} {Γ':ι→List Fct} (x:ι) (E:∀ (a:Act) (v:Vw),Fr.sat N fr a→v.sat H→ac_ Γ v→(results fn a.tmps).run P v.w=.ok (ret x) v.w) (h:H.Perm (H' x++F))
    (A:∀ v,v.sat H→ac_ Γ v→ac_ (Γ' x) v):Ok N v0 H0 (bodyPost P fn (kz_ v0 H0 ret H' Γ') .ret) fr H Γ :=
  fun a v q e C y=>⟨q.defers,ret x,E a v q e y,x,v,rfl,rfl,(e.perm h).sub,A v e y,C.subR fun b B=>by
    have:b∈(H' x++F).map Prod.fst:=by rw[List.map_append];exact List.mem_append_left _ B
    exact (h.map Prod.fst).mem_iff.2 this⟩
theorem xA_ {fn:Func} {s t:Nat} {ad h:Addr} {ty ty':TypeId} {u u':Value} {a:Act} {w:World} (A:fn.results=#[.cell s ty,.cell t ty']) (B:∀ w,(isAgg ty).run P w=.ok false w) (x:∀ w,(isAgg ty').run P w=.ok false w) (y:Fr.sat N fr a) (G:Fr.get fr s=some (.pointer (some ad))) (F:Fr.get fr t=some (.pointer (some h)))
    (E:w.cell? ad=some u) (q:w.cell? h=some u'):(results fn a.tmps).run P w=.ok (.tuple #[u,u']) w:=by
  have e:=y.val s _ G;have C:=y.val t _ F;simp[results,A,e,C,asAddr,cE_ B E,cE_ x q]
theorem nk_ {b:Nat} {cs:List Value} {T:TypeId} {fz:Nat×Nat} {v:Vw} (j:Nat) {u:Value} (h:(bU_ b (.cells cs.toArray T fz)).p v) (e:cs[j]? = some u):v.w.cell? ⟨b,j,none⟩=some u:=by
  simp[World.cell?,h.2,e]
theorem dc_ {t:TypeId} {x:Operand} {b off:Nat} {cs:List Value} {T:TypeId} {fz:Nat×Nat} {u:Value} {ty:TypeId} (y:∀ w,(isAgg t).run P w=.ok false w) (q:Fr.ev fr x=some (.pointer (some ⟨b,off,none⟩))) (e:∀ v,v.sat H→ac_ Γ v→(bU_ b (.cells cs.toArray T fz)).p v) (A:cs[off]? = some u):Yld P N fr H Γ (.load t x) ty u :=
  gJ_ q fun v h B=>cE_ y (nk_ off (e v h B) A)
end
end Go.Sx
namespace Go.Vs
open Go Go.Sx
namespace Con
def text:Con→Str
  | mk k nm lo hi _ _ ps =>
    if k=1 then [101,118,101,114,121,116,104,105,110,103]
    else if k=2 then [110,111,116,104,105,110,103]
    else if k=3 then nm
    else if k=4 then [123]++nm++[125]
    else if k=5 then Lib.join (operands ps) [32,97,110,100,32]
    else if k=6 then Lib.join [[115,111,109,101],nm,(operands ps).headD []] [32]
    else Lib.join [nm,[105,110],Lib.itoa lo,[116,111],Lib.itoa hi] [32]
where operands:List Con→List Str
  | []=>[]
  | p::ps=>(if p.kind=5 then [40]++text p++[41] else text p)::operands ps
def operand (c:Con):Str:=if c.kind=5 then [40]++c.text++[41] else c.text
theorem lF_:∀ (ps:List Con),text.operands ps=ps.map operand
  | []=>rfl
  | p::ps=>by simp only[text.operands,List.map_cons,lF_ ps,operand]
theorem text_eq (c:Con):c.text =
    if c.kind=1 then [101,118,101,114,121,116,104,105,110,103]
    else if c.kind=2 then [110,111,116,104,105,110,103]
    else if c.kind=3 then c.name
    else if c.kind=4 then [123]++c.name++[125]
    else if c.kind=5 then Lib.join (c.parts.map operand) [32,97,110,100,32]
    else if c.kind=6 then Lib.join [[115,111,109,101],c.name,(c.parts.map operand).headD []] [32]
    else Lib.join [c.name,[105,110],Lib.itoa c.lo,[116,111],Lib.itoa c.hi] [32]:=by
  cases c;simp only[text,lF_];rfl
theorem kg_ (d:Str):∀ (q:List Str),(Lib.join q d).length≤(q.map fun x=>x.length+d.length).sum
  | []=>by simp[Lib.join_nil]
  | [x]=>by simp[Lib.join_one]
  | x::y::r=>by
    have h:=kg_ d (y::r);have e:Lib.join (x::y::r) d=x++d++Lib.join (y::r) d:=by simp[Lib.join,List.intercalate]
    rw[e];simp only[List.length_append,List.map_cons,List.sum_cons]at h ⊢;omega
def fine (c:Con):Prop:=c.firstErr=0
theorem iw_:∀ {ps:List Con},firstErr.firstErrs ps=0↔∀ p∈ps,p.firstErr=0
 | []=>by simp[firstErr.firstErrs]
 | p::ps=>by
   simp only[firstErr.firstErrs,List.mem_cons,forall_eq_or_imp]
   by_cases h:p.firstErr=0
   · simp[h,iw_ (ps:=ps)]
   · simp[h]
theorem kl_ (c:Con):c.fine↔c.fieldErr=0∧∀ p∈c.parts,p.fine:=by
 unfold fine;rw[lJ_]
 by_cases h:c.fieldErr=0
 ·simp[h,iw_]
 simp[h]
theorem fine_part {c p:Con} (h:c.fine) (d:p∈c.parts):p.fine:=((kl_ c).1 h).2 p d
structure Fields (c:Con):Prop where
  k1:1≤c.kind
  k7:c.kind≤7
  nm:c.name.length≤24
  le:(nd c.kind).2.1≤c.parts.length
  mo:c.parts.length≤(nd c.kind).2.2.1
theorem plain_len {s:Str} (h:bi_ s=true):s.length≤24:=by
  unfold bi_ at h
  split at h<;>simp_all
theorem reserved_len {s:Str} (h:cR_ s=true):s.length≤24:=by
  unfold cR_ at h;simp at h
  omega
theorem fields_of {c:Con} (h:c.fieldErr=0):Fields c:=by
 unfold fieldErr at h
 split at h
 ·cases h
 rename_i q
 split at h
 ·cases h
 rename_i e
 split at h
 ·cases h
 split at h
 ·cases h
 split at h
 ·rename_i d
  simp only[not_or,not_and]at q e;refine⟨by omega,by omega,?_,by omega,by omega⟩;rcases d with d|d|d
  ·have:=e.2.2 d
   simp only[ne_eq,Decidable.not_not]at this;rw[this];simp
  ·exact plain_len d
  exact reserved_len d.2
 cases h
theorem fields {c:Con} (h:c.fine):Fields c:=fields_of ((kl_ c).1 h).1
theorem text_len:∀ (m:Nat) (c:Con),c.sz≤m→c.ok→c.fine→c.text.length+10≤100*c.sz
 | 0,c,h=>by have:=c.sz_pos;omega
 | m+1,c,h=>fun d G=>by
   have F:=fields G;have N:=c.sz_pos
   have y:∀ p∈c.parts,p.operand.length+8≤100*p.sz:=fun p A=>by
     have:=text_len m p (by have:=sz_part A;omega) (ok_part d A) (fine_part G A);unfold operand
     split<;>simp<;>omega
   have B:(c.parts.map fun p=>p.operand.length+5).sum≤100*(c.sz - 1):=by
     have E:∀ ps:List Con,(∀ p∈ps,p.operand.length+8≤100*p.sz)→(ps.map fun p=>p.operand.length+5).sum≤100*sz.szs ps:=by
       intro ps
       induction ps with
       | nil=>intro _;simp[sz.szs]
       | cons p ps ih =>
         intro A;have H:=A p zj_;have O:=ih fun q I=>A q (by simp[I])
         simp only[List.map_cons,List.sum_cons,sz.szs];omega
     have:=E c.parts y;cases c with
     | mk k n l hi a cp ps=>simp only[sz,parts]at this ⊢;omega
   rw[text_eq];have M:(Lib.itoa c.lo).length≤21:=by cases c;exact Lib.itoa_length_le _ d.2.2.2.1 d.2.2.2.2.1
   have J:(Lib.itoa c.hi).length≤21:=by cases c;exact Lib.itoa_length_le _ d.2.2.2.2.2.1 d.2.2.2.2.2.2.1
   have L:=F.nm
   split
   · simp;omega
   · split
     · simp;omega
     · split
       · omega
       · split
         · simp;omega
         · split
           · have:=kg_ [32,97,110,100,32] (c.parts.map operand)
             simp only[List.map_map,List.length_cons,List.length_nil]at this;have e:(c.parts.map ((fun x:Str=>x.length+(0+1+1+1+1+1)) ∘ operand)).sum=(c.parts.map fun p=>p.operand.length+5).sum:=rfl;rw[e]at this;omega
           · split
             · rename_i K
               have H:1≤c.parts.length:=by have:=F.le;rw[K]at this;simp[nd,ez_]at this;omega
               obtain⟨p,ps,C⟩:=List.exists_cons_of_length_pos H;have:=kg_ [32] [[115,111,109,101],c.name,(c.parts.map operand).headD []];simp only[C,List.map_cons,List.headD_cons,List.map_nil,List.sum_cons,List.sum_nil,List.length_cons,List.length_nil]at this B ⊢;omega
             · have:=kg_ [32] [c.name,[105,110],Lib.itoa c.lo,[116,111],Lib.itoa c.hi]
               simp only[List.map_cons,List.map_nil,List.sum_cons,List.sum_nil,List.length_cons,List.length_nil]at this;omega
theorem pC_:∀ (m:Nat) (c:Con),c.sz≤m→∀ d n,(c.fits d n).1=true→(c.fits d n).2=n+c.sz
 | 0,c,h=>by have:=c.sz_pos;omega
 | m+1,c,h=>fun d n e=>by
   rw[fits_eq]at e ⊢
   split at e
   · cases e
   · rename_i C
     rw[if_neg C]
     have A:∀ ps:List Con,(∀ p∈ps,p.sz≤m)→∀ n,(fits.fitss ps (d+1) n).1=true→(fits.fitss ps (d+1) n).2=n+sz.szs ps:=by
       intro ps
       induction ps with
       | nil=>intro _ n _;simp[fits.fitss,sz.szs]
       | cons p ps ih =>
         intro y n e;simp only[fits.fitss]at e ⊢
         split at e
         · rename_i q x
           have B:=pC_ m p (y p zj_) (d+1) n (by rw[x]);rw[x]at B;have E:=ih (fun q x=>y q (by simp[x])) q e;simp only[sz.szs];simp only at B;omega
         · cases e
     have:=A c.parts (fun p y=>by have:=sz_part y;omega) (n+1) e;rw[this];cases c with
     | mk k nn l hi a cp ps=>simp only[sz,parts];omega
theorem check_zero {c:Con} (h:c.check=0):c.fine∧c.sz≤64:=by
 unfold check at h
 split at h
 ·rename_i d
  have q:=pC_ _ c (Nat.le_refl _) 0 0 d;have e:=pD_ _ c (Nat.le_refl _) 0 0 d;exact⟨h,by omega⟩
 cases h
def textN (c:Con):Str:=if c.check=0 then c.text else []
theorem textN_len {c:Con} (d:c.ok):c.textN.length≤6400:=by
 unfold textN
 split
 ·rename_i h
  obtain⟨e,q⟩:=check_zero h;have:=text_len _ c (Nat.le_refl _) d e;omega
 simp
def atom (c:Con):Str :=
  if c.kind=1 then [42] else if c.kind=2 then [33] else if c.kind=3 then c.name else if c.kind=4 then [123]++c.name++[125] else [60]++c.textN++[62]
end Con
theorem om_ {cur:Array Value} {n:Nat} {e:List Str} (h:cur.toList.take (n*1)=e.flatMap ak_):∀ (j:Nat) (x:Str),e[j]? = some x→cur[j]? = some (str x):=by
 intro j x q;have d:=p_ at_ q 0 (str x) rfl;rw[← h,Nat.mul_one,Nat.add_zero]at d;rw[List.getElem?_take]at d
 split at d
 ·simpa using d
 cases d
theorem sM_ (d:List Str):∀ (j:Nat) (x:Str),d[j]? = some x→(d.map str).toArray[j]? = some (str x):=by
  intro j x e;simp[e]
end Go.Vs
namespace Go.Sx
open Go
section
variable {P:Program}
theorem kn_ {d:Nat} {e ys:Array Value} (w:World):(Op.eqFields d e ys []).run P w=.ok true w:=by simp[Op.eqFields]
theorem bK_ {d : Nat} {e ys : Array Value} {f : Field} {fs : List Field} {a b : Value} {r s : Bool} {w : World} (y : (f.name == "_") = false) (C : ∀ w, (isAgg f.type).run P w = .ok false w) (x : e[f.offset]? = some a) (B : ys[f.offset]? = some b)
    (A:(Op.equalIn d f.type a b).run P w=.ok r w) (q:(Op.eqFields d e ys fs).run P w=.ok s w):(Op.eqFields d e ys (f::fs)).run P w=.ok (r&&s) w:=by
  have h : f.name ≠ "_" := by simpa using y
  simp only[Op.eqFields,h,ne_eq,not_false_eq_true,if_true,part,Sem.run_bind,C,Result.andThen_ok,Bool.false_eq_true,if_false,x,B,Sem.run_pure,A];cases r
  · simp
  · simpa using q
theorem eqI {d:Nat} {t:TypeId} {k:IntKind} {a b:Int} (h:P.underlying t=some (.int k)) (w:World):(Op.equalIn (d+1) t (.int k a) (.int k b)).run P w=.ok (a==b) w:=run_equalIn_int w d t k k a b h
theorem eqS {d:Nat} {t:TypeId} {a b:List UInt8} (h:P.underlying t=some .string) (w:World):(Op.equalIn (d+1) t (str a) (str b)).run P w=.ok (a==b) w:=by
  have:=run_equalIn_string w d t ⟨a.toArray⟩ ⟨b.toArray⟩ h;simp only[ByteArray.toList_eq]at this;exact this
theorem ckF {e : Bool} {n : Nat} {t : TypeId} {fs : Array Field} {q : Array Value} {w : World} (C : P.underlying t = some (.struct fs)) (h : ∀ f ∈ fs.toList, (f.name == "_") = false ∧ (∀ w, (isAgg f.type).run P w = .ok false w) ∧ ∃ a, q[f.offset]? = some a ∧ (∀ w, (Instr.checkKey e n f.type a).run P w = .ok () w)) :
    (Instr.checkKey e (n+1) t (.agg q)).run P w=.ok () w:=by
  simp only[Instr.checkKey,Sem.run_bind,run_underlying C,Result.andThen_ok];rw[← Array.forIn_toList];generalize fs.toList=l at h
  induction l with
  | nil=>simp
  | cons f l ih =>
    obtain⟨A,x,a,y,E⟩:=h f (by simp);have d : f.name ≠ "_" := by simpa using A
    simp only[List.forIn_cons,d,ne_eq,not_false_eq_true,if_true,part,Sem.run_bind,x,Result.andThen_ok,Bool.false_eq_true,if_false,y,Sem.run_pure,E];exact ih fun g B=>h g (by simp[B])
theorem km_ {α:Type} [DecidableEq α] {k:TypeId} {fs:Array Field} {val:α→Value} (G:P.underlying k=some (.struct fs)) (d:∀ p q w,(Op.equal k (val p) (val q)).run P w=.ok (decide (p=q)) w) (p:α) :
    ∀ (l:List α) (es:List MapEntry) (i:Nat),es.map (·.key)=l.map val→(p ∉ l→∀ w,(Instr.findAsking k (val p) es i).run P w=.ok none w)∧(p∈l→(∀ x∈es,x.val=.bool true)→∃ j,∀ w,(Instr.findAsking k (val p) es i).run P w=.ok (some (j,.bool true)) w)
  | [],es,i,h=>by
    have:es=[]:=by simpa using h
    subst this;simp[Instr.findAsking]
  | q::l,[],i,h=>by simp at h
  | q::l,e::es,i,h=>by
    simp only[List.map_cons,List.cons.injEq]at h;have C:=km_ G d p l es (i+1) h.2
    by_cases y:p=q
    · subst y
      refine⟨fun B=>absurd List.mem_cons_self B,fun _ A=>⟨i,fun w=>?_⟩⟩;simp only[Instr.findAsking,Sem.run_bind,h.1,d,Result.andThen_ok,decide_true,if_true,Sem.run_pure,A e zj_]
    · refine⟨fun B w=>?_,fun hm A=>?_⟩
      · simp only[Instr.findAsking,Sem.run_bind,h.1,d,Result.andThen_ok,y,decide_false,Bool.false_eq_true,if_false]
        exact C.1 (fun h=>B (List.mem_cons_of_mem _ h)) w
      · obtain⟨j,E⟩:=C.2 (by simpa [y] using hm) fun x F=>A x (by simp[F])
        refine⟨j,fun w=>?_⟩;simp only[Instr.findAsking,Sem.run_bind,h.1,d,Result.andThen_ok,y,decide_false,Bool.false_eq_true,if_false];exact E w
theorem hB_ {α:Type} [DecidableEq α] {k:TypeId} {fs:Array Field} {val:α→Value} (y:P.underlying k=some (.struct fs)) (A:∀ p q w,(Op.equal k (val p) (val q)).run P w=.ok (decide (p=q)) w) (p:α) (l:List α) (es:List MapEntry) (h:es.map (·.key)=l.map val) :
    (p ∉ l→dq_ P k (val p) es none)∧(p∈l→(∀ x∈es,x.val=.bool true)→∃ j,dq_ P k (val p) es (some (j,.bool true))):=by
  have B:=km_ y A p l es 0 h;have d:∀ (e:MapEntry) (r:List MapEntry),Instr.findNow (.struct fs) (val p) (e::r) 0=none:=fun e r=>by simp[Instr.findNow,Instr.sameNow]
  cases es with
  | nil =>
    have:l=[]:=by simpa using h.symm
    subst this;exact⟨fun _ w=>by simp[Instr.findKey,run_underlying y,Instr.findNow],fun h=>by simp at h⟩
  | cons e r =>
    refine⟨fun F w=>?_,fun hm C=>?_⟩
    · simp only[Instr.findKey,Sem.run_bind,run_underlying y,Result.andThen_ok,d]
      exact B.1 F w
    · obtain⟨j,E⟩:=B.2 hm C
      refine⟨j,fun w=>?_⟩;simp only[Instr.findKey,Sem.run_bind,run_underlying y,Result.andThen_ok,d];exact E w
end
end Go.Sx
namespace Go.Vs
open Go Go.Sx
structure Pc where
  kind:Int
  a:Str
  b:Str
  c:Str
  r:Str
  s:Str
  t:Str
  lo:Int
  hi:Int
  frm:Int
  deriving DecidableEq
namespace Pc
def cells (p:Pc):List Value:=[.int .i64 p.kind,str p.a,str p.b,str p.c,str p.r,str p.s,str p.t,.int .i64 p.lo,.int .i64 p.hi,.int .i64 p.frm]
def val (p:Pc):Value:=.agg p.cells.toArray
theorem cells_len (p:Pc):p.cells.length=10:=rfl
theorem cells_one (p:Pc):p.cells.all Value.oneCell'=true:=rfl
def eqb (p q:Pc):Bool:=(p.kind==q.kind)&&((p.a==q.a)&&((p.b==q.b)&&((p.c==q.c)&&((p.r==q.r)&&((p.s==q.s)&&((p.t==q.t)&&((p.lo==q.lo)&&((p.hi==q.hi)&&((p.frm==q.frm)&&true)))))))))
theorem eqb_eq (p q:Pc):p.eqb q=decide (p=q):=by
  rw[Bool.eq_iff_iff];cases p;cases q;simp[eqb]
end Pc
def ins (frm:Int) (l:List Pc) (p:Pc):List Pc:=if { p with frm:=frm }∈l then l else l++[{ p with frm:=frm }]
theorem bv_ (frm:Int) (l:List Pc) (p:Pc):(ins frm l p).length≤l.length+1:=by unfold ins;split<;>simp
structure Fc where
  kind:Int
  a:Str
  b:Str
  r:Str
  lo:Int
  hi:Int
  deriving DecidableEq
namespace Fc
def cells (p:Fc):List Value:=[.int .i64 p.kind,str p.a,str p.b,str p.r,.int .i64 p.lo,.int .i64 p.hi]
def val (p:Fc):Value:=.agg p.cells.toArray
theorem cells_len (p:Fc):p.cells.length=6:=rfl
def eqb (p q:Fc):Bool:=(p.kind==q.kind)&&((p.a==q.a)&&((p.b==q.b)&&((p.r==q.r)&&((p.lo==q.lo)&&((p.hi==q.hi)&&true)))))
theorem eqb_eq (p q:Fc):p.eqb q=decide (p=q):=by
  rw[Bool.eq_iff_iff];cases p;cases q;simp[eqb]
end Fc
end Go.Vs
namespace Go.Sx
open Go
theorem ar_ {P:Program} {N:Nf} {fr:Fr} {H:Hp} {Γ:List Fct} {d:Op} {ty:TypeId} {x y:Value} (h:Yld P N fr H Γ d ty x) (e:x=y):Yld P N fr H Γ d ty y:=e▸h
theorem ti_ {α:Type} (f:α→List Value) (n:Nat) (d:∀ x,(f x).length=n):∀ (l:List α) (i:Nat),(l.flatMap f).drop (i*n)=(l.drop i).flatMap f
  | l,0=>by simp
  | [],i+1=>by simp
  | x::l,i+1=>by
    simp only[List.flatMap_cons,List.drop_succ_cons];rw[← ti_ f n d l i,List.drop_append,d,List.drop_of_length_le (by rw[d,Nat.add_mul];omega),List.nil_append]
    congr 1
    rw[Nat.add_mul];omega
theorem pB_ {α:Type} (f:α→List Value) (n:Nat) (d:∀ x,(f x).length=n):∀ (l:List α) (i:Nat),(l.flatMap f).take (i*n)=(l.take i).flatMap f
  | l,0=>by simp
  | [],i+1=>by simp
  | x::l,i+1=>by
    simp only[List.flatMap_cons,List.take_succ_cons];rw[← pB_ f n d l i,List.take_append,d,List.take_of_length_le (by rw[d,Nat.add_mul];omega)]
    congr 2
    rw[Nat.add_mul];omega
theorem bu_.slice {α:Type} {f:α→List Value} {n:Nat} (e:∀ x,(f x).length=n) {v:Vw} {ad:Option Addr} {l:List α} {cap:Nat} (h:bu_ v ad (l.flatMap f)) (q:l.length≤cap) (i k:Nat):bu_ v (Sx.sad ad cap i n) (((l.drop i).take k).flatMap f):=by
 refine h.sad _ (fun j x d=>?_) (by rw[dv_ f n e];exact Nat.mul_le_mul_right _ q);rw[← pB_ f n e,← ti_ f n e,List.getElem?_take]at d
 split at d
 ·rwa [List.getElem?_drop]at d
 cases d
end Go.Sx
namespace Go.Vs
open Go Go.Sx
namespace Con
def pre (c:Con) (j:Nat):Con:=.mk 5 [] 0 0 (sad c.ad c.cap 0 5) (c.cap - 0) (c.parts.take j)
theorem pre_mem {c:Con} (d:c.ok) {v:Vw} (h:c.mem v) (j:Nat):(c.pre j).mem v:=by
  rw[mem_iff]at h ⊢;refine⟨?_,fun p e=>h.2 p (List.mem_of_mem_take e)⟩;have:=h.1.slice cells_len (ok_len d).1 0 j;exact this
theorem pre_ok {c:Con} (d:c.ok) (j:Nat):(c.pre j).ok:=by
 have h:=ok_len d;refine⟨by decide,by decide,by simp,by decide,by decide,by decide,by decide,?_,?_,pk_.2 fun p e=>ok_part d (List.mem_of_mem_take e)⟩
 ·simp;omega
 rw[List.length_take];omega
def andP (frm:Int) (c:Con):List Con→Nat→Str→List Pc→List Pc
  | [],_,_,l=>l
  | p::r,j,f,l=>andP frm c r (j+1) (c.pre (j+1)).atom (ins frm l ⟨2,f,p.atom,(c.pre (j+1)).atom,[],[],[],0,0,0⟩)
theorem ru_ (frm:Int) (c:Con):∀ (r:List Con) (j:Nat) (f:Str) (l:List Pc),(andP frm c r j f l).length≤l.length+r.length
  | [],_,_,l=>by simp[andP]
  | p::r,j,f,l=>by
    have d:=ru_ frm c r (j+1) (c.pre (j+1)).atom (ins frm l ⟨2,f,p.atom,(c.pre (j+1)).atom,[],[],[],0,0,0⟩);have e:=bv_ frm l ⟨2,f,p.atom,(c.pre (j+1)).atom,[],[],[],0,0,0⟩;simp only[andP,List.length_cons];omega
def leftP (frm:Int):Con→List Pc→List Pc
  | c@(mk k nm lo hi _ _ ps),l =>
    if k=5 then andP frm c (ps.drop 1) 1 ((ps.map atom).headD []) (lefts frm ps l)
    else if k=6 then ins frm (lefts frm ps l) ⟨4,(ps.map atom).headD [],[],c.atom,nm,[],[],0,0,0⟩
    else if k=7 then ins frm l ⟨9,[],[],c.atom,nm,[],[],lo,hi,0⟩
    else l
where lefts (frm:Int):List Con→List Pc→List Pc
  | [],l=>l
  | p::ps,l=>lefts frm ps (leftP frm p l)
theorem leftP_eq (frm:Int) (c:Con) (l:List Pc):c.leftP frm l =
    if c.kind=5 then andP frm c (c.parts.drop 1) 1 ((c.parts.map atom).headD []) (leftP.lefts frm c.parts l)
    else if c.kind=6 then ins frm (leftP.lefts frm c.parts l) ⟨4,(c.parts.map atom).headD [],[],c.atom,c.name,[],[],0,0,0⟩
    else if c.kind=7 then ins frm l ⟨9,[],[],c.atom,c.name,[],[],c.lo,c.hi,0⟩
    else l:=by cases c;simp only[leftP];rfl
theorem ke_ (frm:Int):∀ (d ys:List Con) (l:List Pc),leftP.lefts frm (d++ys) l=leftP.lefts frm ys (leftP.lefts frm d l)
  | [],_,_=>rfl
  | x::d,ys,l=>by simp only[List.cons_append,leftP.lefts];exact ke_ frm d ys _
theorem lefts_step (frm:Int) {ps:List Con} {p:Con} {i:Nat} (d:ps[i]? = some p) (l:List Pc):leftP.lefts frm (ps.take (i+1)) l=p.leftP frm (leftP.lefts frm (ps.take i) l):=by
  rw[take_snoc d,ke_];rfl
theorem szs_len:∀ ps:List Con,ps.length≤sz.szs ps
  | []=>by simp[sz.szs]
  | p::ps=>by have:=szs_len ps;have:=p.sz_pos;simp only[sz.szs,List.length_cons];omega
theorem leftP_len (frm:Int):∀ (m:Nat) (c:Con),c.sz≤m→∀ l,(c.leftP frm l).length+2≤l.length+2*c.sz+0+1
 | 0,c,h=>by have:=c.sz_pos;omega
 | m+1,c,h=>fun l=>by
   have e:∀ ps:List Con,(∀ p∈ps,p.sz≤m)→∀ l,(leftP.lefts frm ps l).length+ps.length≤l.length+2*sz.szs ps:=by
     intro ps
     induction ps with
     | nil=>intro _ l;simp[leftP.lefts]
     | cons p ps ih =>
       intro d l;have B:=leftP_len frm m p (d p zj_) l;have A:=ih (fun q x=>d q (by simp[x])) (p.leftP frm l);simp only[leftP.lefts,sz.szs,List.length_cons];omega
   have hk:=e c.parts (fun p d=>by have:=sz_part d;omega) l;have y:c.sz=1+sz.szs c.parts:=by cases c;simp only[sz,parts]
   have hl:=szs_len c.parts;rw[leftP_eq]
   split
   · have:=ru_ frm c (c.parts.drop 1) 1 ((c.parts.map atom).headD []) (leftP.lefts frm c.parts l)
     simp only[List.length_drop]at this;omega
   · split
     · have:=bv_ frm (leftP.lefts frm c.parts l) ⟨4,(c.parts.map atom).headD [],[],c.atom,c.name,[],[],0,0,0⟩
       omega
     · split
       · have:=bv_ frm l ⟨9,[],[],c.atom,c.name,[],[],c.lo,c.hi,0⟩
         omega
       · omega
def rightP (frm:Int):Con→List Pc→List Pc
  | c@(mk k nm lo hi _ _ ps),l =>
    if k=5 then rights frm c.atom ps l
    else if k=6 then righty frm ps (ins frm l ⟨3,c.atom,[],(ps.map atom).headD [],nm,[],[],0,0,0⟩)
    else if k=7 then ins frm l ⟨8,c.atom,[],[],nm,[],[],lo,hi,0⟩
    else l
where
  rights (frm:Int) (a:Str):List Con→List Pc→List Pc
  | [],l=>l
  | p::ps,l=>rights frm a ps (rightP frm p (ins frm l ⟨1,a,[],p.atom,[],[],[],0,0,0⟩))
  righty (frm:Int):List Con→List Pc→List Pc
  | [],l=>l
  | p::ps,l=>righty frm ps (rightP frm p l)
theorem rightP_eq (frm:Int) (c:Con) (l:List Pc):c.rightP frm l =
    if c.kind=5 then rightP.rights frm c.atom c.parts l
    else if c.kind=6 then rightP.righty frm c.parts (ins frm l ⟨3,c.atom,[],(c.parts.map atom).headD [],c.name,[],[],0,0,0⟩)
    else if c.kind=7 then ins frm l ⟨8,c.atom,[],[],c.name,[],[],c.lo,c.hi,0⟩
    else l:=by cases c;simp only[rightP];rfl
theorem jh_ (frm:Int) (a:Str):∀ (d ys:List Con) (l:List Pc),rightP.rights frm a (d++ys) l=rightP.rights frm a ys (rightP.rights frm a d l)
  | [],_,_=>rfl
  | x::d,ys,l=>by simp only[List.cons_append,rightP.rights];exact jh_ frm a d ys _
theorem rights_step (frm:Int) (a:Str) {ps:List Con} {p:Con} {i:Nat} (d:ps[i]? = some p) (l:List Pc):rightP.rights frm a (ps.take (i+1)) l=p.rightP frm (ins frm (rightP.rights frm a (ps.take i) l) ⟨1,a,[],p.atom,[],[],[],0,0,0⟩):=by
  rw[take_snoc d,jh_];rfl
theorem rightP_len (frm:Int):∀ (m:Nat) (c:Con),c.sz≤m→∀ l,(c.rightP frm l).length+1≤l.length+2*c.sz
 | 0,c,h=>by have:=c.sz_pos;omega
 | m+1,c,h=>fun l=>by
   have A:∀ ps:List Con,(∀ p∈ps,p.sz≤m)→∀ a l,(rightP.rights frm a ps l).length≤l.length+2*sz.szs ps:=by
     intro ps
     induction ps with
     | nil=>intro _ a l;simp[rightP.rights,sz.szs]
     | cons p ps ih =>
       intro d a l;have E:=bv_ frm l ⟨1,a,[],p.atom,[],[],[],0,0,0⟩;have B:=rightP_len frm m p (d p zj_) (ins frm l ⟨1,a,[],p.atom,[],[],[],0,0,0⟩);have F:=ih (fun q y=>d q (by simp[y])) a (p.rightP frm (ins frm l ⟨1,a,[],p.atom,[],[],[],0,0,0⟩));simp only[rightP.rights,sz.szs];omega
   have x:∀ ps:List Con,(∀ p∈ps,p.sz≤m)→∀ l,(rightP.righty frm ps l).length≤l.length+2*sz.szs ps:=by
     intro ps
     induction ps with
     | nil=>intro _ l;simp[rightP.righty,sz.szs]
     | cons p ps ih =>
       intro d l;have B:=rightP_len frm m p (d p zj_) l;have F:=ih (fun q y=>d q (by simp[y])) (p.rightP frm l);simp only[rightP.righty,sz.szs];omega
   have e:∀ p∈c.parts,p.sz≤m:=fun p d=>by have:=sz_part d;omega
   have C:c.sz=1+sz.szs c.parts:=by cases c;simp only[sz,parts]
   rw[rightP_eq]
   split
   · have:=A c.parts e c.atom l;omega
   · split
     · have E:=bv_ frm l ⟨3,c.atom,[],(c.parts.map atom).headD [],c.name,[],[],0,0,0⟩
       have:=x c.parts e (ins frm l ⟨3,c.atom,[],(c.parts.map atom).headD [],c.name,[],[],0,0,0⟩);omega
     · split
       · have:=bv_ frm l ⟨8,c.atom,[],[],c.name,[],[],c.lo,c.hi,0⟩
         omega
       · omega
end Con
end Go.Vs
namespace Go.Sx
open Go
theorem bu_.rest {α:Type} {f:α→List Value} {n:Nat} (d:∀ x,(f x).length=n) {v:Vw} {ad:Option Addr} {l:List α} {cap:Nat} (h:bu_ v ad (l.flatMap f)) (e:l.length≤cap) (i:Nat):bu_ v (Sx.sad ad cap i n) ((l.drop i).flatMap f):=by
  have:=h.slice d e i l.length;rwa [List.take_of_length_le zj_]at this
theorem kp_ {α:Type} {l:List α} {x:α} {i:Nat} (d:l[i]? = some x):l.drop i=x::l.drop (i+1):=by
  have hi:=(List.getElem?_eq_some_iff.1 d).1;rw[List.getElem?_eq_getElem hi]at d;simp only[Option.some.injEq]at d;subst d;exact List.drop_eq_getElem_cons hi
theorem qW_ {α:Type} {l:List α} {x d:α} (e:l[0]? = some x):l.headD d=x:=by cases l<;>simp_all
end Go.Sx
namespace Go.Vs
open Go Go.Sx
namespace Ax
def chainP (frm:Int) (role:Str):List Str→Str→List Pc→List Pc
  | [],_,l=>l
  | r::t,f,l =>
    let all:=if t=[] then role else f++[46]++r
    chainP frm role t all (ins frm l ⟨6,[],[],[],f,r,all,0,0,0⟩)
def pieces (frm:Int) (x:Ax):List Pc :=
  if x.kind=1 then ins frm (x.right.rightP frm (x.left.leftP frm [])) ⟨1,x.left.atom,[],x.right.atom,[],[],[],0,0,0⟩
  else if x.kind=2 then
    ins frm (x.left.rightP frm (x.right.leftP frm (ins frm (x.right.rightP frm (x.left.leftP frm [])) ⟨1,x.left.atom,[],x.right.atom,[],[],[],0,0,0⟩))) ⟨1,x.right.atom,[],x.left.atom,[],[],[],0,0,0⟩
  else if x.kind=3 then ins frm (x.right.leftP frm (x.left.leftP frm [])) ⟨2,x.left.atom,x.right.atom,[33],[],[],[],0,0,0⟩
  else if x.kind=4 then ins frm (x.right.rightP frm []) ⟨4,[42],[],x.right.atom,x.role,[],[],0,0,0⟩
  else if x.kind=5 then ins frm [] ⟨5,[],[],[],x.roles.headD [],[],x.role,0,0,0⟩
  else if x.kind=6 then chainP frm x.role (x.roles.drop 1) (x.roles.headD []) []
  else if x.kind=7 then ins frm [] ⟨7,[],[],[],x.role,[],[],0,0,0⟩
  else if x.kind=8 then ins frm (x.right.rightP frm []) ⟨1,[123]++x.a++[125],[],x.right.atom,[],[],[],0,0,0⟩
  else ins frm [] ⟨3,[123]++x.a++[125],[],[123]++x.b++[125],x.role,[],[],0,0,0⟩
structure Good (x:Ax):Prop where
  k1:1≤x.kind
  k9:x.kind≤9
  left:x.kind≤3→x.left.check=0
  right:x.kind≤4∨x.kind=8→x.right.check=0
  role:x.kind=4∨x.kind=5∨x.kind=6∨x.kind=7∨x.kind=9→bi_ x.role=true
  roles:∀ r∈x.roles,bi_ r=true
  one:x.kind=5→x.roles.length=1
  chain:x.kind=6→2≤x.roles.length∧x.roles.length≤4
  a:x.kind=8∨x.kind=9→aO_ x.a=true
  b:x.kind=9→aO_ x.b=true
theorem good_of {x:Ax} (h:x.check=0):Good x:=by
 unfold check at h
 split at h
 ·cases h
 rename_i q
 split at h
 ·cases h
 rename_i d
 split at h
 ·rename_i B;exact absurd h B.2
 rename_i B
 split at h
 ·rename_i C;exact absurd h C.2
 rename_i C
 clear h;simp only[Bool.not_eq_false]at q d
 have hk:1≤x.kind∧x.kind≤9:=by
   unfold shaped at q
   split at q
   · cases q
   · rename_i E;simp only[not_or]at E;omega
 have y:x.kind=1∨x.kind=2∨x.kind=3∨x.kind=4∨x.kind=5∨x.kind=6∨x.kind=7∨x.kind=8∨x.kind=9:=by omega
 unfold shaped at q;rw[if_neg za_]at q
 have A:∀ r∈x.roles,bi_ r=true:=by
   unfold namedU at d;simp only[Bool.and_eq_true]at d;exact fun r A=>List.all_eq_true.1 d.2 r A
 unfold namedU at d
 rcases y with e|e|e|e|e|e|e|e|e<;>simp[us,tD_,e]at q d B C <;>
   refine⟨by omega,by omega,fun _=>?_,fun _=>?_,fun _=>?_,A,fun _=>?_,fun _=>?_,fun _=>?_,fun _=>?_⟩ <;>
   first|omega|assumption|exact d.1|exact d.2.1|exact d.2.2.1|(simp_all;done)|(exact⟨by omega,by omega⟩)
end Ax
def Clw {α:Type} (E:α→α→Bool→Prop) (n:Nat) (f:Nat→α) (c:Nat→Bool):Prop :=
  0<n∧f n=f 0∧(∀ m,m<n→E (f m) (f (m+1)) (c m))∧∃ m,m<n∧c m=true
def Clo {α:Type} (E:α→α→Bool→Prop) (n:Nat):Prop:=∃ (f:Nat→α) (c:Nat→Bool),Clw E n f c
theorem vU_ {p:Nat→Prop} {n:Nat} (h:p n):∃ m,p m∧m≤n∧∀ k,p k→m≤k:=by
 induction n using Nat.strongRecOn with
 | ind n ih =>
   by_cases g:∃ k,k<n∧p k
   · obtain⟨k,hk,d⟩:=g
     obtain⟨m,q,x,e⟩:=ih k hk d;exact⟨m,q,by omega,e⟩
   · exact⟨n,h,Nat.le_refl _,fun k hk=>Nat.not_lt.1 fun hl=>g ⟨k,hl,hk⟩⟩
theorem Clw.inj {α:Type} {E:α→α→Bool→Prop} {n:Nat} {f:Nat→α} {c:Nat→Bool} (h:Clw E n f c) (hm:∀ k,Clo E k→n≤k):∀ a b,a<b→b<n→f a≠f b:=by
 intro a b C F e;obtain⟨_,H,hE,d,G,y⟩:=h
 by_cases g:a≤d∧d<b
 ·have:=hm (b - a) ⟨fun m=>f (a+m),fun m=>c (a+m),by omega,by simp only[Nat.add_zero];rw[show a+(b - a)=b by omega,e],fun m x=>by
    have:=hE (a+m) za_;rwa [Nat.add_assoc]at this,d - a,by omega,by dsimp only;rw[show a+(d - a)=d by omega];exact y⟩
  omega
 have:=hm (n - (b - a)) ⟨fun m=>if m<a then f m else f (m+(b - a)),fun m=>if m<a then c m else c (m+(b - a)),by omega,?_,?_,?_⟩
 ·omega
 ·dsimp only
  rw[if_neg za_,show n - (b - a)+(b - a)=n by omega,H]
  by_cases A:0<a
  ·rw[if_pos A]
  rw[if_neg A,show 0+(b - a)=b by omega,← e,show a=0 by omega]
 ·intro m x
  dsimp only
  by_cases q:m<a
  ·rw[if_pos q,if_pos q]
   by_cases B:m+1<a
   ·rw[if_pos B];exact hE m za_
   rw[if_neg B,show m+1+(b - a)=b by omega,← e,show a=m+1 by omega];exact hE m za_
  rw[if_neg q,if_neg q,if_neg za_];have:=hE (m+(b - a)) za_;rwa [show m+(b - a)+1=m+1+(b - a) by omega]at this
 by_cases q:d<a
 ·exact⟨d,by omega,by dsimp only;rw[if_pos q];exact y⟩
 exact⟨d - (b - a),by omega,by dsimp only;rw[if_neg za_,show d - (b - a)+(b - a)=d by omega];exact y⟩
def sig (c:Nat→Bool):Nat→Bool
  | 0=>false
  | n+1=>sig c n||c n
theorem mN_ {c:Nat→Bool}:∀ {n:Nat},sig c n=true↔∃ m,m<n∧c m=true
 | 0=>by simp[sig]
 | n+1=>by
   simp only[sig,Bool.or_eq_true,mN_ (n:=n)];constructor
   · rintro (⟨m,q,d⟩|h)
     · exact⟨m,by omega,d⟩
     · exact⟨n,by omega,h⟩
   · rintro ⟨m,q,d⟩
     by_cases e:m=n
     · subst e;exact .inr d
     · exact .inl ⟨m,by omega,d⟩
theorem oo_ {c d:Nat→Bool}:∀ {n:Nat},(∀ m,m<n→c m=d m)→sig c n=sig d n
  | 0,_=>rfl
  | n+1,h=>by simp only[sig];rw[oo_ (n:=n) fun m hm=>h m za_,h n za_]
def Wlk {α:Type} (E:α→α→Bool→Prop) (x y:α) (b:Bool) (n:Nat):Prop :=
  ∃ (f:Nat→α) (c:Nat→Bool),f 0=x∧f n=y∧(∀ m,m<n→E (f m) (f (m+1)) (c m))∧sig c n=b
theorem Wlk.nil {α:Type} {E:α→α→Bool→Prop} (x:α):Wlk E x x false 0:=⟨fun _=>x,fun _=>false,rfl,rfl,fun m h=>absurd h za_,rfl⟩
theorem Wlk.snoc {α:Type} {E:α→α→Bool→Prop} {x y z:α} {b d:Bool} {n:Nat} (h:Wlk E x y b n) (e:E y z d):Wlk E x z (b||d) (n+1):=by
 obtain⟨f,c,q,C,B,A⟩:=h;refine⟨fun m=>if m≤n then f m else z,fun m=>if m<n then c m else d,?_,?_,?_,?_⟩
 ·simp[q]
 ·dsimp only;rw[if_neg za_]
 ·intro m hm
  by_cases g:m<n
  ·dsimp only;rw[if_pos za_,if_pos za_,if_pos g];exact B m g
  obtain rfl:m=n:=by omega
  dsimp only;rw[if_pos za_,if_neg za_,if_neg g,C];exact e
 simp only[sig,Nat.lt_irrefl,if_false];rw[oo_ (d:=c) fun m hm=>by rw[if_pos hm],A]
theorem Wlk.clo {α:Type} {E:α→α→Bool→Prop} {x:α} {n:Nat} (h:Wlk E x x true n):Clo E n:=by
  obtain⟨f,c,q,d,e,y⟩:=h;obtain⟨m,hm,A⟩:=mN_.1 y;exact⟨f,c,by omega,by rw[q,d],e,m,hm,A⟩
structure Wy where
  role:Nat
  strict:Bool
  before:Nat
  many:Nat
def gE (G:List (List (Nat×Bool))) (i j:Nat) (c:Bool):Prop:=∃ l,G[i]? = some l∧(j,c)∈l
def lV_ (W:List Wy) (r:Nat) (b:Bool):Bool:=W.any fun w=>w.role==r&&w.strict==b
theorem oJ_ {W:List Wy} {r:Nat} {b:Bool}:lV_ W r b=true↔∃ w∈W,w.role=r∧w.strict=b:=by
  unfold lV_;rw[List.any_eq_true];simp only[Bool.and_eq_true,beq_iff_eq]
def Dn (start:Nat) (W:List Wy) (w:Wy) (s:Nat×Bool):Prop :=
  ¬(s.1=start∧(w.strict||s.2)=true)∧∃ w'∈W,w'.role=s.1∧w'.strict=(w.strict||s.2)∧w'.many≤w.many+1
theorem Dn.mono {d:Nat} {W V:List Wy} {w:Wy} {s:Nat×Bool} (h:Dn d W w s) (A:∀ x∈W,x∈V):Dn d V w s:=by
  obtain⟨q,w',y,e⟩:=h;exact⟨q,w',A _ y,e⟩
structure BI (G:List (List (Nat×Bool))) (start:Nat) (W:List Wy) (a k:Nat):Prop where
  z:W[0]? = some ⟨start,false,0,0⟩
  role:∀ (i:Nat) (w:Wy),W[i]? = some w→w.role<G.length
  bef:∀ (i:Nat) (w:Wy),W[i]? = some w→0<i→w.before<i
  wlk:∀ (i:Nat) (w:Wy),W[i]? = some w→Wlk (gE G) start w.role w.strict w.many
  mono:∀ (i j:Nat) (w x:Wy),i≤j→W[i]? = some w→W[j]? = some x→w.many≤x.many
  top:∀ (j:Nat) (w x:Wy),W[a]? = some w→W[j]? = some x→x.many≤w.many+1
  done:∀ (i:Nat) (w:Wy) (l:List (Nat×Bool)),i<a→W[i]? = some w→G[w.role]? = some l→∀ s∈l,Dn start W w s
  cur:∀ (w:Wy) (l:List (Nat×Bool)),W[a]? = some w→G[w.role]? = some l→∀ s∈l.take k,Dn start W w s
  nd:∀ (i j:Nat) (w x:Wy),i<j→W[i]? = some w→W[j]? = some x→¬(w.role=x.role∧w.strict=x.strict)
  many:∀ (i:Nat) (w:Wy),W[i]? = some w→w.many≤i
theorem BI.init {G:List (List (Nat×Bool))} {d:Nat} (h:d<G.length):BI G d [⟨d,false,0,0⟩] 0 0:=by
 have e:∀ (i:Nat) (w:Wy),[(⟨d,false,0,0⟩:Wy)][i]? = some w→i=0∧w=⟨d,false,0,0⟩:=fun i w q=>by
   have hl:=(List.getElem?_eq_some_iff.1 q).1;simp only[List.length_singleton]at hl;obtain rfl:i=0:=by omega
   simp only[List.getElem?_cons_zero,Option.some.injEq]at q;exact⟨rfl,q.symm⟩
 refine⟨rfl,fun i w q=>?_,fun i w q hi=>?_,fun i w q=>?_,fun i j w x _ q y=>?_,fun j w x q y=>?_,fun i w l hi=>by omega,fun w l _ _ s A=>by simp at A,fun i j w x B q y=>?_,fun i w q=>?_⟩
 ·obtain⟨_,rfl⟩:=e i w q;exact h
 ·obtain⟨rfl,_⟩:=e i w q;omega
 ·obtain⟨_,rfl⟩:=e i w q;exact Wlk.nil _
 ·obtain⟨_,rfl⟩:=e i w q;exact Nat.zero_le _
 ·obtain⟨_,rfl⟩:=e j x y;exact Nat.zero_le _
 ·obtain⟨rfl,_⟩:=e i w q;obtain⟨rfl,_⟩:=e j x y;omega
 obtain⟨_,rfl⟩:=e i w q;exact Nat.zero_le _
theorem BI.found {G:List (List (Nat×Bool))} {e a k:Nat} {W:List Wy} (h:BI G e W a k) {w:Wy} {l:List (Nat×Bool)} {s:Nat×Bool} (A:W[a]? = some w) (hl:G[w.role]? = some l) (y:l[k]? = some s) (q:s.1=e) (x:(w.strict||s.2)=true):Clo (gE G) (w.many+1):=by
  have:=(h.wlk a w A).snoc (z:=s.1) (d:=s.2) ⟨l,hl,List.mem_of_getElem? y⟩;rw[q,x]at this;exact this.clo
theorem mD_ {α:Type} {l:List α} {k:Nat} {x:α} (h:l[k]? = some x):l.take (k+1)=l.take k++[x]:=by rw[List.take_add_one,h];rfl
theorem BI.skip {G:List (List (Nat×Bool))} {d a k:Nat} {W:List Wy} (h:BI G d W a k) {w:Wy} {l:List (Nat×Bool)} {s:Nat×Bool} (y:W[a]? = some w) (hl:G[w.role]? = some l) (I:l[k]? = some s) (B:¬(s.1=d∧(w.strict||s.2)=true)) (H:lV_ W s.1 (w.strict||s.2)=true):BI G d W a (k+1):=by
 refine { h with cur:=fun w' J e x C q=>?_ };rw[y]at e;simp only[Option.some.injEq]at e;subst e;rw[hl]at x;simp only[Option.some.injEq]at x;subst x;rw[mD_ I,List.mem_append,List.mem_singleton]at q;rcases q with q|rfl
 ·exact h.cur w l y hl C q
 obtain⟨w',e,E,F⟩:=oJ_.1 H;obtain⟨j,A⟩:=List.getElem?_of_mem e;exact⟨B,w',e,E,F,h.top j w w' y A⟩
theorem BI.push {G:List (List (Nat×Bool))} {A a k:Nat} {W:List Wy} (h:BI G A W a k) {w:Wy} {l:List (Nat×Bool)} {s:Nat×Bool} (E:W[a]? = some w) (hl:G[w.role]? = some l) (M:l[k]? = some s) (N:s.1<G.length) (O:¬(s.1=A∧(w.strict||s.2)=true)) (R:lV_ W s.1 (w.strict||s.2)=false):BI G A (W++[⟨s.1,w.strict||s.2,a,w.many+1⟩]) a (k+1):=by
 have L:a<W.length:=(List.getElem?_eq_some_iff.1 E).1
 have e:∀ (i:Nat) (x:Wy),(W++[(⟨s.1,w.strict||s.2,a,w.many+1⟩:Wy)])[i]? = some x→W[i]? = some x∨(i=W.length∧x=⟨s.1,w.strict||s.2,a,w.many+1⟩):=fun i x d=>by
   rcases Nat.lt_or_ge i W.length with g|g
   · rw[List.getElem?_append_left g]at d;exact .inl d
   · have J:=(List.getElem?_eq_some_iff.1 d).1
     simp only[List.length_append,List.length_singleton]at J;obtain rfl:i=W.length:=by omega
     rw[List.getElem?_append_right (Nat.le_refl _),Nat.sub_self]at d;simp only[List.getElem?_cons_zero,Option.some.injEq]at d;exact .inr ⟨rfl,d.symm⟩
 have H:∀ x:Wy,(W++[(⟨s.1,w.strict||s.2,a,w.many+1⟩:Wy)])[a]? = some x→x=w:=fun x d=>by
   rw[List.getElem?_append_left L,E]at d;simp only[Option.some.injEq]at d;exact d.symm
 have sub:∀ x∈W,x∈W++[(⟨s.1,w.strict||s.2,a,w.many+1⟩:Wy)]:=fun x d=>List.mem_append_left _ d
 refine⟨by rw[List.getElem?_append_left za_];exact h.z,fun i x d=>?_,fun i x d hi=>?_,fun i x d=>?_,fun i j x y F d q=>?_,fun j x y d q=>?_,fun i x K hi d C I B=>?_,fun x K d C I B=>?_,fun i j x y F d q=>?_,fun i x d=>?_⟩
 ·rcases e i x d with d|⟨_,rfl⟩
  ·exact h.role i x d
  exact N
 ·rcases e i x d with d|⟨rfl,rfl⟩
  ·exact h.bef i x d hi
  exact L
 ·rcases e i x d with d|⟨_,rfl⟩
  ·exact h.wlk i x d
  exact (h.wlk a w E).snoc ⟨l,hl,List.mem_of_getElem? M⟩
 ·rcases e j y q with q|⟨rfl,rfl⟩
  ·rcases e i x d with d|⟨rfl,rfl⟩
   ·exact h.mono i j x y F d q
   have:=(List.getElem?_eq_some_iff.1 q).1;omega
  rcases e i x d with d|⟨rfl,rfl⟩
  ·exact h.top i w x E d
  exact Nat.le_refl _
 ·obtain rfl:=H x d
  rcases e j y q with q|⟨rfl,rfl⟩
  ·exact h.top j x y E q
  exact Nat.le_refl _
 ·rw[List.getElem?_append_left za_]at d
  exact (h.done i x K hi d C I B).mono sub
 ·obtain rfl:=H x d
  rw[hl]at C;simp only[Option.some.injEq]at C;subst C;rw[mD_ M,List.mem_append,List.mem_singleton]at B;rcases B with B|rfl
  ·exact (h.cur x l E hl I B).mono sub
  exact⟨O,⟨I.1,x.strict||I.2,a,x.many+1⟩,by simp,rfl,rfl,Nat.le_refl _⟩
 ·rcases e i x d with d|⟨rfl,rfl⟩
  ·rcases e j y q with q|⟨rfl,rfl⟩
   ·exact h.nd i j x y F d q
   rintro ⟨P,Q⟩;have:lV_ W s.1 (w.strict||s.2)=true:=oJ_.2 ⟨x,List.mem_of_getElem? d,P,Q⟩;rw[R]at this;cases this
  rcases e j y q with q|⟨rfl,rfl⟩
  ·have:=(List.getElem?_eq_some_iff.1 q).1;omega
  omega
 rcases e i x d with d|⟨rfl,rfl⟩
 ·exact h.many i x d
 have:=h.many a w E;dsimp only;omega
theorem BI.next {G:List (List (Nat×Bool))} {d a k:Nat} {W:List Wy} (h:BI G d W a k) {w:Wy} {l:List (Nat×Bool)} (C:W[a]? = some w) (hl:G[w.role]? = some l) (hk:l.length≤k):BI G d W (a+1) 0:=by
 refine { h with top:=fun j x y A F=>?_,done:=fun i x E hi A q s B=>?_,cur:=fun x E _ _ s B=>by simp at B }
 ·have H:=h.top j w y C F
  have I:=h.mono a (a+1) w x za_ C A;omega
 by_cases e:i=a
 ·subst e
  rw[C]at A;simp only[Option.some.injEq]at A;subst A;rw[hl]at q;simp only[Option.some.injEq]at q;subst q;exact h.cur w l C hl s (by rw[List.take_of_length_le hk];exact B)
 exact h.done i x E za_ A q s B
theorem BI.none {G:List (List (Nat×Bool))} {d a most:Nat} {W:List Wy} (h:BI G d W a 0) (y:∀ w:Wy,W[a]? = some w→most≤w.many+1) (X:∀ (i:Nat) (l:List (Nat×Bool)),G[i]? = some l→∀ s∈l,s.1<G.length)
    {n:Nat} {f:Nat→Nat} {c:Nat→Bool} (T:Clw (gE G) n f c) (N:f 0=d):most≤n:=by
  apply Nat.not_lt.1
  intro hn;obtain⟨Y,F,hE,S,B,H⟩:=T
  -- where a way with few steps stands,it is done
  have A:∀ (i:Nat) (w:Wy),W[i]? = some w→w.many+1<most→i<a:=fun i w e hm=>by
    apply Nat.not_le.1
    intro C;have P:=(List.getElem?_eq_some_iff.1 e).1;obtain⟨x,M⟩:∃ x,W[a]? = some x:=⟨_,List.getElem?_eq_getElem (show a<W.length by omega)⟩;have O:=y x M;have h2:=h.mono a i x w C M e;omega
  have q:∀ j,j<n→∃ (i:Nat) (w:Wy),W[i]? = some w∧w.role=f j∧w.strict=sig c j∧w.many≤j:=by
    intro j
    induction j with
    | zero=>intro _;exact⟨0,_,h.z,N.symm,rfl,Nat.le_refl _⟩
    | succ j ih =>
      intro Z;obtain⟨i,w,e,I,J,V⟩:=ih za_;obtain⟨l,hl,L⟩:=hE j za_;obtain⟨_,w',E,Q,U,g3⟩:=h.done i w l (A i w e za_) e (by rw[I];exact hl) _ L;obtain⟨R,K⟩:=List.getElem?_of_mem E;exact⟨R,w',K,Q,by rw[U,J];rfl,by omega⟩
  obtain⟨i,w,e,I,J,V⟩:=q (n - 1) za_;obtain⟨l,hl,L⟩:=hE (n - 1) za_;obtain⟨O,_⟩:=h.done i w l (A i w e za_) e (by rw[I];exact hl) _ L;refine O ⟨?_,?_⟩
  · dsimp only;rw[show n - 1+1=n by omega,F,N]
  · rw[J]
    have:=(mN_ (c:=c) (n:=n)).2 ⟨S,B,H⟩;obtain⟨k,rfl⟩:∃ k,n=k+1:=⟨n - 1,by omega⟩;exact this
theorem BI.len {G:List (List (Nat×Bool))} {A a k:Nat} {W:List Wy} (h:BI G A W a k):W.length≤2*G.length:=by
  have C:(W.map fun w=>2*w.role+w.strict.toNat).Nodup:=by
    unfold List.Nodup;rw[List.pairwise_map,List.pairwise_iff_getElem];intro i j hi F E e;refine h.nd i j _ _ E (List.getElem?_eq_getElem hi) (List.getElem?_eq_getElem F) ?_;generalize W[i]=x at e
    generalize W[j]=y at e
    obtain⟨r,b,_,_⟩:=x;obtain⟨q,d,_,_⟩:=y;cases b<;>cases d<;>simp only[Bool.toNat_false,Bool.toNat_true]at e ⊢<;>simp<;>omega
  have B:(W.map fun w=>2*w.role+w.strict.toNat) ⊆ List.range (2*G.length):=by
    intro z H;obtain⟨w,I,rfl⟩:=List.mem_map.1 H;obtain⟨i,hi⟩:=List.getElem?_of_mem I;have:=h.role i w hi;rw[List.mem_range];have J:w.strict.toNat≤1:=by cases w.strict<;>simp
    omega
  have:=C.length_le_of_subset B;rwa [List.length_map,List.length_range]at this
theorem Clw.short {G:List (List (Nat×Bool))} {n:Nat} {f:Nat→Nat} {c:Nat→Bool} (h:Clw (gE G) n f c) (hm:∀ k,Clo (gE G) k→n≤k):n≤G.length:=by
  have e:((List.range n).map f).Nodup:=by
    unfold List.Nodup;rw[List.pairwise_map,List.pairwise_iff_getElem];intro i j hi y x;simp only[List.getElem_range];exact h.inj hm i j x (by simpa using y)
  have d:((List.range n).map f) ⊆ List.range G.length:=by
    intro z A;obtain⟨m,q,rfl⟩:=List.mem_map.1 A;obtain⟨l,hl,_⟩:=h.2.2.1 m (List.mem_range.1 q);exact List.mem_range.2 (List.getElem?_eq_some_iff.1 hl).1
  have:=e.length_le_of_subset d;rwa [List.length_map,List.length_range,List.length_range]at this
theorem wG_ {G:List (List (Nat×Bool))} (h:∀ (n:Nat) (f:Nat→Nat) (c:Nat→Bool),Clw (gE G) n f c→f 0<G.length→G.length+1≤n):∀ n,¬ Clo (gE G) n:=by
  intro n q;obtain⟨m,⟨f,c,e⟩,_,d⟩:=vU_ q;have x:=e.short d;obtain⟨l,hl,_⟩:=e.2.2.1 0 e.1;have y:=h m f c e (List.getElem?_eq_some_iff.1 hl).1;omega
end Go.Vs
namespace Go.Sx
open Go
section
variable {P:Program} {N:Nf} {v0:Vw} {H0:Hp} {R:Exit→Act→World→Prop} {K:List Kt} {fr:Fr} {H:Hp} {Γ:List Fct}
variable {ops:Array Oper} {l:List Oper} {d:Nat} {ty:TypeId} {ps:String} {af:Array Edge}
theorem oh_ {t:TypeId} {x:Operand} {b n:Nat} (i:Nat) {T:TypeId} {fz:Nat×Nat} {us:List Value} (h:∀ w,(isAgg t).run P w=.ok true w) (y:∀ w,(sizeOf t).run P w=.ok n w) (q:us.length=n)
    (e:Fr.ev fr x=some (.pointer (some ⟨b,0,none⟩))) (hi:H[i]? = some (b,.cells us.toArray T fz)):Yld P N fr H Γ (.load t x) ty (.agg us.toArray) :=
  bB_ i h y e hi (by have:=qP_ us;rw[q]at this;exact this)
theorem nb_ {t:TypeId} {x y:Operand} {b n:Nat} (i:Nat) {cur:Array Value} {T:TypeId} {us:List Value} (E:∀ w,(sizeOf t).run P w=.ok n w) (A:us.length=n) (q:us.all Value.oneCell'=true)
    (C:Fr.ev fr x=some (.pointer (some ⟨b,0,none⟩))) (B:Fr.ev fr y=some (.agg us.toArray)) (hi:H[i]? = some (b,.cells cur T (0,0))) (h:cur.size=n)
    (hk:Ops P R N v0 H0 ops l K fr (H.set i (b,.cells us.toArray T (0,0))) Γ) :
    Ops P R N v0 H0 ops (⟨none,.store t x y,ty,ps,af,none⟩::l) K fr H Γ:=by
  refine z_ i E C B hi (by simp[Value.cells,A]) (by simp[h]) q ?_
  have e:(cur.toList.take 0++(Value.agg us.toArray).cells.toList++cur.toList.drop (0+n)).toArray=us.toArray:=by
    have F:cur.toList.length=n:=by simp[h]
    simp[Value.cells,List.drop_of_length_le (show cur.toList.length≤n by omega)]
  rw[e];exact hk
theorem tY_ {b k:Nat} {cur:Array Value} {T:TypeId} {fz:Nat×Nat} {cs:List Value} (i:Nat) (hi:H[i]? = some (b,.cells cur T fz)) (q:cur.toList.take k=cs):∀ v:Vw,v.sat H→ac_ Γ v→∀ j u,cs[j]? = some u→v.w.cell? ((⟨b,0,none⟩:Addr).add j)=some u:=by
 intro v h _ j u e;rw[cj_,Nat.zero_add,fT_ h hi];rw[← q,List.getElem?_take]at e
 split at e
 ·exact e
 cases e
theorem ju_ {k:Act→World→Prop} {e:TypeId} {sz n:Nat} {sv:Value} {q:List Value} {Hr F:Hp} (G:ax_ e sz sv n q Hr) (E:H.Perm (Hr++F))
    (h:∀ ad cap,sv=.slice ad n cap→n≤cap→cap≤maxLen→Ok N v0 H0 k fr F (ai_ ad q::Γ)):Ok N v0 H0 k fr H Γ:=by
  rcases G.2 with⟨A,C,B⟩|⟨g,cap,cur,A,C,B,J,S,L⟩
  · subst A C B
    have O:q=[]:=List.eq_nil_of_length_eq_zero (by simpa using G.1);refine C_ E (nj_ (Γ':=ai_ none q::Γ) (fun v _ Q=>⟨.inl O,Q⟩) (h none 0 rfl (Nat.le_refl _) (Nat.zero_le _)))
  · subst A C
    refine eJ_ (ai_ (some ⟨g,0,none⟩) q) E (fun v M I _=>.inr ⟨g,0,cur,e,(0,0),rfl,M,I,fun j x y=>?_⟩) (h _ cap rfl B J);rw[← L,List.getElem?_take]at y
    split at y
    · rw[Nat.zero_add];simpa using y
    · cases y
end
end Go.Sx
namespace Go.Vs
open Go Go.Sx
theorem Con.one_cells (c:Con):c.cells.all Value.oneCell'=true:=pK_ c
theorem Ax.one_cells (x:Ax):x.cells.all Value.oneCell'=true:=by
  simp only[Ax.cells,List.all_cons,List.all_append,Con.one_cells];rfl
def ge_ (ad:Option Addr) (l:List Ax):Fct where
  p:=fun v=>bu_ v ad (l.flatMap Ax.cells)∧∀ x∈l,x.mem v
  mono:=fun v v' h hp=>⟨(ai_ ad _).mono v v' h hp.1,fun x hx=>x.memF.mono v v' h (hp.2 x hx)⟩
theorem wj_ (frm:Int) (l:List Pc) (p:Pc):ins frm l p≠[]:=by
 unfold ins
 split
 ·rename_i h;intro e;rw[e]at h;simp at h
 simp
theorem Ax.chainP_ne (frm:Int) (ro:Str):∀ (e:List Str) (f:Str) (l:List Pc),e≠[]∨l≠[]→Ax.chainP frm ro e f l≠[]
  | [],f,l,h=>by rcases h with h|h;exact absurd rfl h;exact h
  | r::t,f,l,_=>by simp only[Ax.chainP];exact Ax.chainP_ne frm ro t _ _ (.inr (wj_ _ _ _))
theorem Ax.pieces_ne (frm:Int) {x:Ax} (G:x.Good):x.pieces frm≠[]:=by
  unfold Ax.pieces
  repeat' split
  all_goals first|exact wj_ _ _ _|skip
  rename_i h
  have:=G.chain h;exact Ax.chainP_ne _ _ _ _ _ (.inl (by intro e;rw[List.drop_eq_nil_iff]at e;omega))
def ep_:List Ax→Int
  | []=>0
  | x::l=>if x.check=0 then ep_ l else x.check
def hw_:Nat→List Ax→List Pc→Option (List Pc)
  | _,[],p=>some p
  | i,x::l,p=>if 16384<(p++x.pieces i).length then none else hw_ (i+1) l (p++x.pieces i)
def bz_ (l:List Ax):List Pc×Int :=
  if 1024<l.length then ([],2) else if ep_ l≠0 then ([],ep_ l) else match hw_ 0 l [] with|some p=>(p,0)|none=>([],2)
theorem hP_:∀ (e ys:List Ax),(∀ x∈e,x.check=0)→ep_ (e++ys)=ep_ ys
  | [],_,_=>rfl
  | x::e,ys,h=>by simp only[List.cons_append,ep_,h x zj_,if_true];exact hP_ e ys fun y q=>h y (by simp[q])
theorem fm_:∀ {l:List Ax},(∀ x∈l,x.check=0)→ep_ l=0
  | [],_=>rfl
  | x::l,h=>by simp only[ep_,h x zj_,if_true];exact fm_ fun y e=>h y zaM_
theorem rc_ {l:List Ax} {x:Ax} {i:Nat} (q:l[i]? = some x) (h:∀ y∈l.take i,y.check=0) (A:x.check≠0):ep_ l=x.check:=by
  have e:l=l.take i++x::l.drop (i+1):=by rw[← kp_ q,List.take_append_drop]
  rw[e,hP_ _ _ h];simp only[ep_,A,if_false]
theorem jt_ (frm:Int) {x:Ax} (G:x.Good):(x.pieces frm).length≤1000:=by
 have hl:x.kind≤3→x.left.sz≤64:=fun h=>(Con.check_zero (G.left h)).2
 have e:x.kind≤4∨x.kind=8→x.right.sz≤64:=fun h=>(Con.check_zero (G.right h)).2
 have E:∀ (ro:Str) (y:List Str) (f:Str) (l:List Pc),(Ax.chainP frm ro y f l).length≤l.length+y.length:=by
   intro ro y
   induction y with
   | nil=>intro f l;simp[Ax.chainP]
   | cons r t ih =>
     intro f l;simp only[Ax.chainP];have J:=ih (if t=[] then ro else f++[46]++r) (ins frm l ⟨6,[],[],[],f,r,if t=[] then ro else f++[46]++r,0,0,0⟩);have S:=bv_ frm l ⟨6,[],[],[],f,r,if t=[] then ro else f++[46]++r,0,0,0⟩;simp only[List.length_cons];omega
 have L:=fun (c:Con) l=>Con.leftP_len frm _ c (Nat.le_refl _) l
 have q:=fun (c:Con) l=>Con.rightP_len frm _ c (Nat.le_refl _) l
 have Q:([]:List Pc).length=0:=rfl;unfold Ax.pieces
 split
 ·have:=hl za_;have:=e za_
  have B:=L x.left [];have C:=q x.right (x.left.leftP frm []);have A:=bv_ frm (x.right.rightP frm (x.left.leftP frm [])) ⟨1,x.left.atom,[],x.right.atom,[],[],[],0,0,0⟩;omega
 split
 ·have:=hl za_;have:=e za_
  have B:=L x.left [];have C:=q x.right (x.left.leftP frm []);have A:=bv_ frm (x.right.rightP frm (x.left.leftP frm [])) ⟨1,x.left.atom,[],x.right.atom,[],[],[],0,0,0⟩;have I:=L x.right (ins frm (x.right.rightP frm (x.left.leftP frm [])) ⟨1,x.left.atom,[],x.right.atom,[],[],[],0,0,0⟩);have M:=q x.left (x.right.leftP frm (ins frm (x.right.rightP frm (x.left.leftP frm [])) ⟨1,x.left.atom,[],x.right.atom,[],[],[],0,0,0⟩));have O:=bv_ frm (x.left.rightP frm (x.right.leftP frm (ins frm (x.right.rightP frm (x.left.leftP frm [])) ⟨1,x.left.atom,[],x.right.atom,[],[],[],0,0,0⟩))) ⟨1,x.right.atom,[],x.left.atom,[],[],[],0,0,0⟩;omega
 split
 ·have:=hl za_;have:=e za_
  have B:=L x.left [];have C:=L x.right (x.left.leftP frm []);have A:=bv_ frm (x.right.leftP frm (x.left.leftP frm [])) ⟨2,x.left.atom,x.right.atom,[33],[],[],[],0,0,0⟩;omega
 split
 ·have:=e za_
  have B:=q x.right [];have A:=bv_ frm (x.right.rightP frm []) ⟨4,[42],[],x.right.atom,x.role,[],[],0,0,0⟩;omega
 split
 ·have:=bv_ frm [] ⟨5,[],[],[],x.roles.headD [],[],x.role,0,0,0⟩;omega
 split
 ·rename_i F
  have:=G.chain F;have:=E x.role (x.roles.drop 1) (x.roles.headD []) [];simp only[List.length_drop]at this;omega
 split
 ·have:=bv_ frm [] ⟨7,[],[],[],x.role,[],[],0,0,0⟩;omega
 split
 ·have:=e za_
  have B:=q x.right [];have A:=bv_ frm (x.right.rightP frm []) ⟨1,[123]++x.a++[125],[],x.right.atom,[],[],[],0,0,0⟩;omega
 have:=bv_ frm [] ⟨3,[123]++x.a++[125],[],[123]++x.b++[125],x.role,[],[],0,0,0⟩;omega
end Go.Vs
