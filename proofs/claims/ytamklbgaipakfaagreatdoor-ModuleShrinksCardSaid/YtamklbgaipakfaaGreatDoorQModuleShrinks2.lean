/-
  Part of the proof of the law ModuleShrinks over this seat: the small logic, the data, the contracts of functions (no condition).
-/
import Derived.Test.YtamklbgaipakfaaGreatDoorQModuleShrinks1
import Derived.RangeFuncRecord
import Derived.Lib.Bytealg
import Derived.Below
import Derived.MapKept
import Derived.Deep.Draws
import Derived.Sort.Grow
import Derived.Lib.Join
import Derived.Lib.ItoaLen
import Derived.Laws.StructEq
set_option linter.unusedVariables false
set_option linter.unusedSimpArgs false
set_option linter.unusedSectionVars false
set_option maxHeartbeats 1000000
namespace Go.Sx
open Go
section
variable {F:Fence} {n:Nat} {P:Program} {N:Nat} {D:List Deferred} {v0:Vw} {H0:Hp} {R:Exit→Act→World→Prop} {K:List Kt} {fr:Fr} {H:Hp} {Γ:List Fct}
variable {ops:Array Oper} {l:List Oper} {d:Nat} {ty:TypeId} {ps:String} {af:Array Edge}
theorem bT_ (hF:Opn F) {op:Op} {dst:Option Nat} {j t:Nat} {want:Bool} (hj:gg_ ops j=some t) (hx:Fr.get fr t=some (.bool want))
    (h:ez_ F n P R N D v0 H0 ops (⟨dst,op,ty,ps,af,none⟩::l) K fr H Γ):ez_ F n P R N D v0 H0 ops (⟨dst,op,ty,ps,af,some (j,want)⟩::l) K fr H Γ :=
  fun a v h1 h2 h3 h4=>by
    have hw:Region.wanted (⟨dst,op,ty,ps,af,some (j,want)⟩:Oper) (yielded ops a.tmps)=true:=by
      have e:=es_ (a:=⟨a.tmps,[]⟩) h1.sat hj hx
      simp only at e
      simp[Region.wanted,e]
    have hw':Region.wanted (⟨dst,op,ty,ps,af,none⟩:Oper) (yielded ops a.tmps)=true:=rfl
    have:=h a v h1 h2 h3 h4
    unfold wpListIn at this ⊢
    rw[if_pos hw']at this
    rw[if_pos hw]
    exact this
theorem eT_ (hF:Opn F) {op:Op} {j t:Nat} {want:Bool} {x:Value} (hj:gg_ ops j=some t) (hx:Fr.get fr t=some x) (hne:(match x with|.bool b=>Bool.xor b want|_=>true)=true) (hN:Nat.blt d N=true)
    (h:ez_ F n P R N D v0 H0 ops l K ((d,undef)::fr) H Γ):ez_ F n P R N D v0 H0 ops (⟨some d,op,ty,ps,af,some (j,want)⟩::l) K fr H Γ :=
  fun a v h1 h2 h3 h4=>by
    have hw:Region.wanted (⟨some d,op,ty,ps,af,some (j,want)⟩:Oper) (yielded ops a.tmps)=false:=by
      have e:=es_ (a:=⟨a.tmps,[]⟩) h1.sat hj hx
      simp only at e
      simp only[Region.wanted,e]
      cases x<;>first|rfl|(rename_i b;cases b<;>cases want<;>simp_all)
    unfold wpListIn
    rw[if_neg (by rw[hw];exact Bool.false_ne_true)]
    exact⟨fun f _=>hF.fn f,h _ v (h1.put hN) h2 h3 h4⟩
end
end Go.Sx
namespace Go.Sx
open Go
section
variable {P:Program} {N:Nat} {v0:Vw} {H0:Hp} {R:Exit→Act→World→Prop} {K:List Kt} {fr:Fr} {H F:Hp} {Γ:List Fct}
theorem eS_ {v:Vw} {l:Nat} {o o':Obj} (h:v.sat ((l,o)::F)):(⟨v.im,v.w.putObj l o',v.sl⟩:Vw).sat ((l,o')::F)∧v.to ((l,o)::F) ⟨v.im,v.w.putObj l o',v.sl⟩ ((l,o')::F):=by
  have hl:=(h.own (l,o) List.mem_cons_self).1
  have:=eR_ (i:=0) (o':=o') (w':=v.w.putObj l o') h rfl rfl rfl rfl (Nat.le_refl _) (by simp) (World.putObj_heap_same (Array.getElem?_eq_some_iff.1 hl).1) (fun k hk=>World.putObj_heap_other hk)
  simpa using this
theorem eF_ {ι:Type} {c:Code} (frs:ι→Fr) (Hs:ι→Hp) (Γs:ι→List Fct) (h1:gj_ Fence.wide 0 P (Mid N v0 H0 frs Hs Γs) N [] v0 H0 c [] fr H Γ) (h2:∀ i,Fin P R N v0 H0 K (frs i) (Hs i) (Γs i)):Run P R N v0 H0 c K fr H Γ:=by
  intro a v g1 g2 g3 g4
  refine wp_mono (wpIn_wide.1 (cT_.1 h1 a v g1 g2 g3 g4)) ?_
  rintro e a' w' ⟨rfl,i,v',rfl,k1,k2,k3,k4⟩
  exact h2 i a' v' k1 k2 k3 k4
def pC_ {σ τ:Type} (v0:Vw) (H0:Hp) (Hj:σ→Hp) (Hx:τ→Hp) (HL:Hp) (res:σ ⊕ τ):Exit→Act→World→Prop
  | .normal,_,w=>∃ s' v,res=.inl s'∧v.w=w∧v.sat (Hj s'++HL)∧v0.to H0 v (Hj s'++HL)
  | .ret,_,w=>∃ t v,res=.inr t∧v.w=w∧v.sat (Hx t++HL)∧v0.to H0 v (Hx t++HL)
  | _,_,_=>False
def oc_ {σ τ:Type} (Gj:σ→Hp) (Gx:τ→Hp):σ ⊕ τ→Hp
  | .inl s=>Gj s
  | .inr t=>Gx t
def HLp (l D:Nat) (r:Loop):Hp:=[(l,.loop r),(D,.deferred (some []))]
theorem jG_ {σ τ ι:Type} {l D:Nat} {rec:Loop} {pm:Nat} {x:Value} {Hj:σ→Hp} {Hx:τ→Hp} {s:σ} {res:σ ⊕ τ} (frA:ι→Fr) (HA:ι→Hp)
    (hp:rec.params=#[pm]) (hst:rec.state=.ready) (hpe:rec.pending=none) (ht:Fr.sat N fr ⟨rec.tmps,[]⟩) (hpm:Nat.blt pm N=true)
    (hassign:∀ n v0 H0 HL,gj_ (Fence.wide.inRound l) n P (Mid N v0 H0 frA (fun i=>HA i++HL) (fun _=>Γ)) N [] v0 H0 rec.assign [] ((pm,x)::fr) (Hj s++HL) Γ)
    (hbody:∀ n v0 H0 HL i,gj_ (Fence.wide.inRound l) n P (pC_ v0 H0 Hj Hx HL res) N [] v0 H0 rec.body [] (frA i) (HA i++HL) Γ) :
    hE_ P l x (Hj s++HLp l D rec) Γ (fun _:Unit=>.bool res.isLeft) (fun _=>oc_ (fun s'=>Hj s'++HLp l D rec) (fun t=>Hx t++HLp l D { rec with state:=.done,pending:=some .ret }) res) (fun _=>[]):=by
  intro v hs hΓ
  have hpl:∀ (X:Hp) r,(X++HLp l D r).Perm ((l,.loop r)::(X++[(D,.deferred (some []))])):=fun X r=>by
    unfold HLp
    exact List.perm_middle
  have hl:v.w.heap[l]? = some (.loop rec):=((hs.perm (hpl _ _)).own _ List.mem_cons_self).1
  refine⟨rec.fn,_,rec.assign,rec.body,run_yield hl (by simp[hp]),fun n=>roundIn_of_wpIn trivial ?_⟩
  have htm:(rec.params.zip #[x]).foldl (fun tmps (t,a)=>tmps.setIfInBounds t a) rec.tmps=rec.tmps.setIfInBounds pm x:=by simp[hp]
  rw[htm]
  have hsat:Fr.sat N ((pm,x)::fr) ⟨rec.tmps.setIfInBounds pm x,[]⟩:=ht.put hpm
  refine wpIn_mono (cT_.1 (hassign n v (Hj s++HLp l D rec) (HLp l D rec)) ⟨rec.tmps.setIfInBounds pm x,[]⟩ v hsat hs (Vw.to.refl _ _) hΓ) ?_
  rintro e a1 w1 ⟨rfl,i,v1,rfl,k1,k2,k3,k4⟩
  have k2':=k2.perm (hpl _ _)
  have hl1:=(k2'.own _ List.mem_cons_self).1
  obtain⟨m1,m2⟩:=eS_ (o':=.loop { rec with state:=.busy }) k2'
  refine⟨_,run_beginRound hl1 hst,?_⟩
  have m3:=m1.perm (hpl (HA i) { rec with state:=.busy }).symm
  have m4:v.to (Hj s++HLp l D rec) ⟨v1.im,v1.w.putObj l (.loop { rec with state:=.busy }),v1.sl⟩ (HA i++HLp l D { rec with state:=.busy }) :=
    (k3.trans ((m2.permL (hpl _ _).symm).subR fun b hb=>((hpl (HA i) { rec with state:=.busy }).map Prod.fst).mem_iff.1 hb))
  have k4':=aD_ (m2.le k2') k4
  refine wpIn_mono (cT_.1 (hbody n v (Hj s++HLp l D rec) (HLp l D { rec with state:=.busy }) i) a1 ⟨v1.im,_,v1.sl⟩ k1 m3 m4 k4') ?_
  intro e2 a2 w2 hq
  cases e2 with
  | normal =>
    obtain⟨s',v2,rfl,rfl,q1,q2⟩:=hq
    have q1':=q1.perm (hpl _ _)
    have hl2:=(q1'.own _ List.mem_cons_self).1
    obtain⟨z1,z2⟩:=eS_ (o':=.loop rec) q1'
    have er:({ rec with state:=.ready,pending:=none }:Loop)=rec:=by cases rec;simp_all
    refine⟨_,_,run_endRound none hl2,(),⟨v2.im,v2.w.putObj l (.loop rec),v2.sl⟩,rfl,?_,z1.perm (hpl _ _).symm,trivial,q2.trans ((z2.permL (hpl _ _).symm).subR fun b hb=>((hpl (Hj s') rec).map Prod.fst).mem_iff.1 hb)⟩
    simp[er]
  | ret =>
    obtain⟨t,v2,rfl,rfl,q1,q2⟩:=hq
    have q1':=q1.perm (hpl _ _)
    have hl2:=(q1'.own _ List.mem_cons_self).1
    obtain⟨z1,z2⟩:=eS_ (o':=.loop { rec with state:=.done,pending:=some .ret }) q1'
    exact⟨_,_,run_endRound (some .ret) hl2,(),⟨v2.im,v2.w.putObj l (.loop { rec with state:=.done,pending:=some .ret }),v2.sl⟩,rfl,rfl,z1.perm (hpl _ _).symm,trivial,
      q2.trans ((z2.permL (hpl _ _).symm).subR fun b hb=>((hpl (Hx t) { rec with state:=.done,pending:=some .ret }).map Prod.fst).mem_iff.1 hb)⟩
  | exit id=>exact hq.elim
  | goto t=>exact hq.elim
  | panic c=>exact hq.elim
  | outgrown=>exact hq.elim
theorem bh_ {n:Nat}:∀ (K:List Kt) (e:Exit) (a:Act) (w:World),eh_ Fence.wide n P R K e a w→post P R K e a w
 | [],_,_,_,h=>h
 | .seq c::K,.normal,a,w,h=>wp_mono (wpIn_wide.1 h) (fun e a w hq=>bh_ K e a w hq)
 | .seq _::K,.exit _,a,w,h=>bh_ K _ a w h
 | .seq _::K,.goto _,a,w,h=>bh_ K _ a w h
 | .seq _::K,.ret,a,w,h=>bh_ K _ a w h
 | .seq _::K,.panic _,a,w,h=>bh_ K _ a w h
 | .seq _::K,.outgrown,a,w,h=>bh_ K _ a w h
 | .inv J::_,.normal,_,_,h=>h
 | .inv _::K,.exit _,a,w,h=>bh_ K _ a w h
 | .inv _::K,.goto _,a,w,h=>bh_ K _ a w h
 | .inv _::K,.ret,a,w,h=>bh_ K _ a w h
 | .inv _::K,.panic _,a,w,h=>bh_ K _ a w h
 | .inv _::K,.outgrown,a,w,h=>bh_ K _ a w h
 | .blk id::K,.exit id',a,w,h=>by
   simp only[eh_,post]at h ⊢
   split
   · rename_i e;rw[if_pos e]at h;exact bh_ K _ a w h
   · rename_i e;rw[if_neg e]at h;exact bh_ K _ a w h
 | .blk _::K,.normal,a,w,h=>bh_ K _ a w h
 | .blk _::K,.goto _,a,w,h=>bh_ K _ a w h
 | .blk _::K,.ret,a,w,h=>bh_ K _ a w h
 | .blk _::K,.panic _,a,w,h=>bh_ K _ a w h
 | .blk _::K,.outgrown,a,w,h=>bh_ K _ a w h
def pi_ (D:Nat):List Deferred:=[{ target:=.collected D,args:=#[] }]
theorem lj_ {σ τ α:Type} {g:Operand} {pm:Nat} {assign body:Code} {gf:FuncId} {caps:List Value} {Hj:σ→Hp} {Hx:τ→Hp} {Hc:Hp} {Γx:α→List Fct} {Γi:List Fct} {xv:α→Value} {good:α→Prop} {stp:α→σ→σ ⊕ τ}
    (s0:σ) (res:σ ⊕ τ) (hg:Fr.ev fr g=some (.func (.func gf) #[] caps.toArray)) (hH:H.Perm (Hc++Hj s0)) (hΓi:∀ v,v.sat H→ag_ Γ v→ag_ Γi v)
    (hround:∀ l D (rec:Loop),rec.params=#[pm]→rec.state=.ready→rec.pending=none→Fr.sat N fr ⟨rec.tmps,[]⟩→rec.assign=assign→rec.body=body→∀ s x,good x →
      hE_ P l (xv x) (Hj s++HLp l D rec) (Γx x) (fun _:Unit=>.bool (stp x s).isLeft) (fun _=>oc_ (fun s'=>Hj s'++HLp l D rec) (fun t=>Hx t++HLp l D { rec with state:=.done,pending:=some .ret }) (stp x s)) (fun _=>[]))
    (hit:∀ l (Gj:σ→Hp) (Gx:τ→Hp),(∀ s x,good x→hE_ P l (xv x) (Gj s) (Γx x) (fun _:Unit=>.bool (stp x s).isLeft) (fun _=>oc_ Gj Gx (stp x s)) (fun _=>[])) →
      Tri P gf (.func (.yield l) #[] #[]::caps).toArray (Hc++Gj s0) Γi (fun _:Unit=>.tuple #[]) (fun _=>Hc++oc_ Gj Gx res) (fun _=>[]))
    (hnext:∀ s',res=.inl s'→∀ D l r,pD_ Fence.wide 0 P R N (pi_ D) v0 H0 K fr (Hc++Hj s'++HLp l D r) Γ)
    (hret:∀ t,res=.inr t→∀ D l r,OkD N (pi_ D) v0 H0 (R .ret) fr (Hc++Hx t++HLp l D r) Γ) :
    Run P R N v0 H0 (.rangeFunc g #[pm] assign body) K fr H Γ:=by
  intro a v h1 h2 h3 h4
  refine wpIn_wide (n:=0) |>.1 (wpIn_mono (Q:=eh_ Fence.wide 0 P R K) (wpIn_rangeFunc fun fn _=>?_) fun e a w hq=>bh_ K e a w hq)
  obtain⟨a1,a2⟩:=fR_ (w':=v.w.alloc (.deferred (some []))) (o:=.deferred (some [])) h2 rfl rfl rfl rfl (Nat.le_refl _)
  obtain⟨rec,hrec⟩:∃ rec:Loop,rec={ state:=.ready,pending:=none,fn,tmps:=a.tmps,params:=#[pm],assign,body,defers:=v.w.heap.size }:=⟨_,rfl⟩
  obtain⟨b1,b2⟩:=fR_ (w':=(v.w.alloc (.deferred (some []))).alloc (.loop rec)) (o:=.loop rec) a1 rfl rfl rfl rfl (Nat.le_refl _)
  have hsz:(v.w.alloc (Obj.deferred (some []))).heap.size=v.w.heap.size+1:=by simp
  have b1':(⟨v.im,(v.w.alloc (.deferred (some []))).alloc (.loop rec),v.sl⟩:Vw).sat ((v.w.heap.size+1,.loop rec)::(v.w.heap.size,.deferred (some []))::H):=hsz▸b1
  have b2':v.to H ⟨v.im,(v.w.alloc (.deferred (some []))).alloc (.loop rec),v.sl⟩ ((v.w.heap.size+1,.loop rec)::(v.w.heap.size,.deferred (some []))::H):=a2.trans (hsz▸b2)
  have hperm:((v.w.heap.size+1,Obj.loop rec)::(v.w.heap.size,.deferred (some []))::H).Perm (Hc++(Hj s0++HLp (v.w.heap.size+1) v.w.heap.size rec)):=by
    rw[← List.append_assoc]
    exact (List.perm_append_comm (l₁:=HLp (v.w.heap.size+1) v.w.heap.size rec) (l₂:=H)).trans (hH.append_right _)
  have hT:=hit (v.w.heap.size+1) (fun s=>Hj s++HLp (v.w.heap.size+1) v.w.heap.size rec) (fun t=>Hx t++HLp (v.w.heap.size+1) v.w.heap.size { rec with state:=.done,pending:=some .ret })
    (hround _ _ rec (by rw[hrec]) (by rw[hrec]) (by rw[hrec]) (by rw[hrec];exact⟨h1.size,rfl,h1.val⟩) (by rw[hrec]) (by rw[hrec]))
  have hΓ2:=aD_ (b2'.le h2) (hΓi v h2 h4)
  have hΓ3:=aD_ (b2'.le h2) h4
  have he:=h1.ev hg
  refine⟨v.w.heap.size+1,pi_ v.w.heap.size,(v.w.alloc (.deferred (some []))).alloc (.loop rec),⟨.fn (.func gf) caps.toArray,#[.func (.yield (v.w.heap.size+1)) #[] #[]]⟩,(v.w.alloc (.deferred (some []))).alloc (.loop rec),gf,(.func (.yield (v.w.heap.size+1)) #[] #[]::caps).toArray,_,?_,?_,fun _ _=>trivial,?_,fun h=>(by cases h),callsIn_wide.2 ((hT.run ⟨v.im,_,v.sl⟩ (b1'.perm hperm) hΓ2).mono ?_)⟩
  · rw[hrec];exact run_enterLoop_outer _ _ _ _ _
  · simp only[resolve,rangeCall,List.map_toArray,List.map_cons,List.map_nil,he,Deferred.ofValue]
    rfl
  · have:=hT.callable (.func (.yield (v.w.heap.size+1)) #[] #[]::caps).toArray ((v.w.alloc (.deferred (some []))).alloc (.loop rec))
    simpa [invoke] using this
  · rintro e w' ⟨_,v',rfl,rfl,g1,g2,g3⟩
    have g3':=b2'.trans (g3.permL hperm.symm)
    have hΓ4:=aD_ (g3'.le h2) h4
    have hsd:∀ D',SatD N D' fr { a with defers:=D'++a.defers }:=fun D'=>⟨⟨h1.size,rfl,h1.val⟩,by show D'++a.defers=D';rw[h1.defers];simp⟩
    have hpl:∀ (X Y:Hp) r,(Y++(X++HLp (v.w.heap.size+1) v.w.heap.size r)).Perm ((v.w.heap.size+1,.loop r)::(Y++X++[(v.w.heap.size,.deferred (some []))])):=fun X Y r=>by
      unfold HLp
      rw[← List.append_assoc]
      exact List.perm_middle
    cases res with
    | inl s' =>
      have q:=g1.perm (hpl (Hj s') Hc rec)
      have hl:=(q.own _ List.mem_cons_self).1
      obtain⟨z1,z2⟩:=eS_ (o':=.loop { rec with state:=.exhausted }) q
      have zp:((v.w.heap.size+1,Obj.loop { rec with state:=.exhausted })::(Hc++Hj s'++[(v.w.heap.size,.deferred (some []))])).Perm (Hc++Hj s'++HLp (v.w.heap.size+1) v.w.heap.size { rec with state:=.exhausted }):=by
        have:=(hpl (Hj s') Hc { rec with state:=.exhausted }).symm
        rw[← List.append_assoc]at this
        exact this
      refine⟨rec.pending,_,run_endLoop hl (by rw[hrec];simp),?_⟩
      have hpn:rec.pending=none:=by rw[hrec]
      split
      case h_2=>rename_i c hc;rw[hpn]at hc;cases hc
      exact hnext s' rfl _ _ _ _ ⟨v'.im,_,v'.sl⟩ (hsd _) (z1.perm zp) (h3.trans (g3'.trans ((z2.permL (hpl _ _ _).symm).subR fun b hb=>(zp.map Prod.fst).mem_iff.2 hb))) (aD_ (z2.le q) hΓ4)
    | inr t =>
      have q:=g1.perm (hpl (Hx t) Hc _)
      have hl:=(q.own _ List.mem_cons_self).1
      obtain⟨z1,z2⟩:=eS_ (o':=.loop { rec with state:=.exhausted,pending:=some .ret }) q
      have zp:((v.w.heap.size+1,Obj.loop { rec with state:=.exhausted,pending:=some .ret })::(Hc++Hx t++[(v.w.heap.size,.deferred (some []))])).Perm (Hc++Hx t++HLp (v.w.heap.size+1) v.w.heap.size { rec with state:=.exhausted,pending:=some .ret }):=by
        have:=(hpl (Hx t) Hc { rec with state:=.exhausted,pending:=some .ret }).symm
        rw[← List.append_assoc]at this
        exact this
      refine⟨some .ret,_,run_endLoop hl (by simp),?_⟩
      refine wpIn_ret (lq_ K _ _ (hret t rfl _ _ _ _ ⟨v'.im,_,v'.sl⟩ (hsd _) (z1.perm zp) (h3.trans (g3'.trans ((z2.permL (hpl _ _ _).symm).subR fun b hb=>(zp.map Prod.fst).mem_iff.2 hb))) (aD_ (z2.le q) hΓ4)))
theorem ec_ {f:FuncId} {fn:Func} {c:Code} {args:List Value} {ι:Type} {ret:ι→Value} {H':ι→Hp} {Γ':ι→List Fct}
    (hf : P.funcs[f]? = some fn) (hb : fn.body = some c) (hn : (fn.name == "runtime.NumGoroutine") = false) (hN : fn.ntmps = N) (hl : Nat.ble args.length N = true)
    (h:∀ v0,Run P (bodyPostM Fence.wide 0 P fn (jt_ v0 H ret H' Γ')) N v0 H c [] (iJ_ 0 args) H Γ):Tri P f args.toArray H Γ ret H' Γ':=by
  refine⟨callable hf hb hn,fun v h1 h2=>callsIn_wide.1 (callsIn_of_wp_marks (n:=0) hf hb trivial ?_)⟩
  have hl':args.length≤N:=Nat.le_of_ble_eq_true hl
  have:=h v ⟨args.toArray++Array.replicate (fn.ntmps - args.toArray.size) undef,[]⟩ v ⟨by simp[hN];omega,rfl,fun t x ht=>?_⟩ h1 (Vw.to.refl _ _) h2
  · exact wpIn_wide.2 this
  · obtain⟨_,h4⟩:=hz_ args 0 t x ht
    simp only[Nat.sub_zero]at h4
    have hlt:=(List.getElem?_eq_some_iff.1 h4).1
    rw[Array.getElem?_append_left (by simpa using hlt)]
    simpa using h4
theorem retM {fn:Func} {ι:Type} {G:Hp} {ret:ι→Value} {H':ι→Hp} {Γ':ι→List Fct} (x:ι) (hx:∀ (a:Act) (v:Vw),Fr.sat N fr a→v.sat H→ag_ Γ v→(results fn a.tmps).run P v.w=.ok (ret x) v.w) (hH:H.Perm (H' x++G))
    (hΓ:∀ v,v.sat H→ag_ Γ v→ag_ (Γ' x) v):Ok N v0 H0 (bodyPostM Fence.wide 0 P fn (jt_ v0 H0 ret H' Γ') .ret) fr H Γ:=by
  intro a v h1 h2 h3 h4
  show LeavesInM Fence.wide 0 P fn a.tmps _ a.defers .returning v.w
  rw[h1.defers]
  exact⟨ret x,hx a v h1 h2 h4,x,v,rfl,rfl,(h2.perm hH).sub,hΓ v h2 h4,h3.subR fun b hb=>by
    have:b∈(H' x++G).map Prod.fst:=by rw[List.map_append];exact List.mem_append_left _ hb
    exact (hH.map Prod.fst).mem_iff.2 this⟩
theorem ln_ {fn:Func} {ι:Type} {D:Nat} {G:Hp} {ret:ι→Value} {H':ι→Hp} {Γ':ι→List Fct} (x:ι) (hx:∀ (a:Act) (v:Vw),Fr.sat N fr a→v.sat G→(results fn a.tmps).run P v.w=.ok (ret x) v.w) (hH:H.Perm ((D,.deferred (some []))::(G)))
    (hG:∃ G',G.Perm (H' x++G')) (hΓ:Γ' x=[]):OkD N (pi_ D) v0 H0 (bodyPostM Fence.wide 0 P fn (jt_ v0 H0 ret H' Γ') .ret) fr H Γ:=by
  intro a v h1 h2 h3 h4
  show LeavesInM Fence.wide 0 P fn a.tmps _ a.defers .returning v.w
  rw[h1.defers]
  have q:=h2.perm hH
  have hl:=(q.own _ List.mem_cons_self).1
  obtain⟨z1,z2⟩:=eS_ (o':=.deferred none) q
  have z3:(⟨v.im,v.w.putObj D (.deferred none),v.sl⟩:Vw).sat G:=⟨fun p hp=>z1.own p (List.mem_cons_of_mem _ hp),by have:=z1.nodup;rw[List.map_cons,List.nodup_cons]at this;exact this.2,z1.lt⟩
  obtain⟨G',hG'⟩:=hG
  refine⟨by simp,.inl ⟨D,_,rfl,run_takeDeferred hl,ret x,?_,x,⟨v.im,_,v.sl⟩,rfl,rfl,(z3.perm hG').sub,by rw[hΓ];trivial,?_⟩⟩
  · exact hx ⟨a.tmps,[]⟩ ⟨v.im,_,v.sl⟩ h1.sat z3
  · refine (h3.trans (z2.permL hH.symm)).subR fun b hb=>?_
    have:b∈(H' x++G').map Prod.fst:=by rw[List.map_append];exact List.mem_append_left _ hb
    rw[List.map_cons]
    exact List.mem_cons_of_mem _ ((hG'.map Prod.fst).mem_iff.2 this)
end
end Go.Sx
namespace Go.Vs
abbrev Str:=List UInt8
def ek_ (c:UInt8):Bool:=(decide (97≤c.toNat)&&decide (c.toNat≤122))||(decide (65≤c.toNat)&&decide (c.toNat≤90))
def eN_ (c:UInt8):Bool:=ek_ c||decide (c.toNat=95)||(decide (48≤c.toNat)&&decide (c.toNat≤57))
def iW_ (s:Str):Bool:=s.all eN_
def kws:List Str:=[[97,110,100],[115,111,109,101],[105,110],[116,111],[110,111,116,104,105,110,103],[101,118,101,114,121,116,104,105,110,103],[111,110,101],[111,102],[111,112,101,110],[112,114,105,118,97,116,101],[115,117,98],[115,97,109,101],[100,105,115,106,111,105,110,116],[100,111,109,97,105,110],[114,111,108,101],[99,104,97,105,110],[114,101,102,108,101,120,105,118,101],[116,121,112,101],[108,105,110,107],[115,101,108,101,99,116],[119,104,101,114,101],[111,114]]
def bq_ (s:Str):Bool:=kws.contains s
def gp_ (s:Str):Bool:=!(s==[])&&ek_ (s.headD 0)&&iW_ s&&!bq_ s
def cx_ (s:Str):Bool:=decide (2≤s.length)&&decide (s.length≤24)&&decide ((s.headD 0).toNat=95)&&iW_ s
def ixS (c:UInt8):Str→Option Nat
  | []=>none
  | b::s=>if b=c then some 0 else (ixS c s).map (·+1)
def bk_ (s:Str):Bool:=decide (s.length≤24)&&match ixS 58 s with
  | none=>gp_ s
  | some k=>gp_ (s.take k)&&gp_ (s.drop (k+1))
def aQ_ (s:Str):Bool:=bk_ s||cx_ s
theorem ms_ (c:UInt8):∀ s:Str,Lib.indexByte s c=match ixS c s with|none=>-1|some k=>(k:Int)
 | []=>rfl
 | b::s=>by
   have ih:=ms_ c s
   simp only[Lib.indexByte,ixS]
   by_cases h:b=c
   · simp[h]
   · simp only[beq_iff_eq,h,if_false]
     cases hx:ixS c s with
     | none=>rw[hx]at ih;simp[ih]
     | some k=>rw[hx]at ih;simp only[ih];rw[if_neg (by omega)];simp
theorem tg_ {c:UInt8}:∀ {s:Str} {k:Nat},ixS c s=some k→k<s.length
 | [],k,h=>by simp[ixS]at h
 | b::s,k,h=>by
   simp only[ixS]at h
   split at h
   · simp at h;subst h;simp
   · cases hx:ixS c s with
     | none=>rw[hx]at h;simp at h
     | some j=>rw[hx]at h;simp at h;subst h;have:=tg_ hx;simp;omega
theorem gf_ {c:UInt8}:∀ {s t:Str},ixS c s=none→ixS c (s++t)=(ixS c t).map (·+s.length)
 | [],t,_=>by simp
 | b::s,t,h=>by
   simp only[ixS]at h
   split at h
   · cases h
   · rename_i hb
     cases hx:ixS c s with
     | some j=>rw[hx]at h;simp at h
     | none =>
       simp only[List.cons_append,ixS,hb,if_false]
       rw[gf_ hx]
       cases ixS c t<;>simp;omega
theorem tf_ (s:Str) (k:Nat) {b:UInt8} (c:UInt8) (hc:s[k]? = some c) (h:ixS b (s.take k)=none) (hne:c≠b):ixS b (s.take (k+1))=none:=by
  rw[List.take_add_one,hc,gf_ h]
  simp[ixS,hne]
theorem fp_ (p:UInt8→Bool) (s:Str) (k:Nat) (c:UInt8) (hc:s[k]? = some c) (h:(s.take k).all p=true) (hp:p c=true):(s.take (k+1)).all p=true:=by
  rw[List.take_add_one,hc];simp_all
theorem hN_ (p:UInt8→Bool) (s:Str) (k:Nat) (c:UInt8) (hc:s[k]? = some c) (hp:p c=false):s.all p=false:=by
  rw[List.all_eq_false]
  exact⟨c,List.mem_of_getElem? hc,by simp[hp]⟩
theorem me_ (p:UInt8→Bool) (s:Str) (k:Nat) (hk:s.length≤k) (h:(s.take k).all p=true):s.all p=true:=by
  rwa [List.take_of_length_le hk]at h
theorem sU_ {m:Str} {r:List Value} {k:Nat} {c:UInt8} (h:m[k]? = some c):Sx.lg (Sx.bytesV m++r) k=some (.int .u8 (c.toNat:Int)):=by
  have hk:k<m.length:=(List.getElem?_eq_some_iff.1 h).1
  rw[Sx.lg_eq,List.getElem?_append_left (by simpa [Sx.bytesV] using hk)]
  simp[Sx.bytesV,h]
end Go.Vs
namespace Go.Vs
open Go Go.Sx
inductive Con where
  | mk (kind:Int) (name:Str) (lo hi:Int) (ad:Option Addr) (cap:Nat) (parts:List Con)
namespace Con
def kind:Con→Int|mk k _ _ _ _ _ _=>k
def name:Con→Str|mk _ n _ _ _ _ _=>n
def lo:Con→Int|mk _ _ l _ _ _ _=>l
def hi:Con→Int|mk _ _ _ h _ _ _=>h
def ad:Con→Option Addr|mk _ _ _ _ a _ _=>a
def cap:Con→Nat|mk _ _ _ _ _ c _=>c
def parts:Con→List Con|mk _ _ _ _ _ _ p=>p
def cells (c:Con):List Value:=[.int .i64 c.kind,str c.name,.int .i64 c.lo,.int .i64 c.hi,.slice c.ad c.parts.length c.cap]
def val (c:Con):Value:=.agg c.cells.toArray
theorem cells_len (c:Con):c.cells.length=5:=rfl
def sz:Con→Nat
  | mk _ _ _ _ _ _ ps=>1+szs ps
where szs:List Con→Nat
  | []=>0
  | p::ps=>sz p+szs ps
theorem sz_pos (c:Con):0<c.sz:=by cases c;simp[sz];omega
theorem sz_mem {p:Con}:∀ {ps:List Con},p∈ps→p.sz≤sz.szs ps
 | q::ps,h=>by
   rcases List.mem_cons.1 h with rfl|h
   · simp[sz.szs]
   · have:=sz_mem h;simp[sz.szs];omega
theorem sz_part {c p:Con} (h:p∈c.parts):p.sz<c.sz:=by
  cases c with
  | mk k n l hi a cp ps=>have:=sz_mem (ps:=ps) h;simp only[sz];omega
def mem:Con→Vw→Prop
  | mk _ _ _ _ a _ ps,v=>bA_ v a (ps.flatMap cells)∧mems ps v
where mems:List Con→Vw→Prop
  | [],_=>True
  | p::ps,v=>mem p v∧mems ps v
theorem mems_iff {v:Vw}:∀ {ps:List Con},mem.mems ps v↔∀ p∈ps,p.mem v
  | []=>by simp[mem.mems]
  | p::ps=>by simp[mem.mems,mems_iff (ps:=ps)]
theorem mem_iff (c:Con) (v:Vw):c.mem v↔bA_ v c.ad (c.parts.flatMap cells)∧∀ p∈c.parts,p.mem v:=by
  cases c with
  | mk k n l hi a cp ps=>simp only[mem,mems_iff,ad,parts]
theorem mem_mono:∀ (n:Nat) (c:Con),c.sz≤n→∀ v v',v.le v'→c.mem v→c.mem v'
  | 0,c,h=>by have:=c.sz_pos;omega
  | n+1,c,h=>fun v v' hl hm=>by
    rw[mem_iff]at hm ⊢
    exact⟨(ac_ c.ad (c.parts.flatMap cells)).mono v v' hl hm.1,fun p hp=>mem_mono n p (by have:=sz_part hp;omega) v v' hl (hm.2 p hp)⟩
def memF (c:Con):Fct:=⟨c.mem,mem_mono c.sz c (Nat.le_refl _)⟩
def ok:Con→Prop
  | mk k n l h _ c ps=>-9223372036854775808≤k∧k≤9223372036854775807∧n.length≤140737488351232∧-9223372036854775808≤l∧l≤9223372036854775807∧-9223372036854775808≤h∧h≤9223372036854775807∧ps.length≤c∧ps.length≤2199023255488∧oks ps
where oks:List Con→Prop
  | []=>True
  | p::ps=>ok p∧oks ps
theorem oks_iff:∀ {ps:List Con},ok.oks ps↔∀ p∈ps,p.ok
  | []=>by simp[ok.oks]
  | p::ps=>by simp[ok.oks,oks_iff (ps:=ps)]
theorem ok_part {c p:Con} (h:c.ok) (hp:p∈c.parts):p.ok:=by
  cases c with
  | mk k n l hi a cp ps=>exact oks_iff.1 h.2.2.2.2.2.2.2.2.2 p hp
theorem ok_name {c:Con} (h:c.ok):c.name.length≤140737488351232:=by cases c;exact h.2.2.1
theorem ok_len {c:Con} (h:c.ok):c.parts.length≤c.cap∧c.parts.length≤2199023255488:=by cases c;exact⟨h.2.2.2.2.2.2.2.1,h.2.2.2.2.2.2.2.2.1⟩
theorem part_cells {c p:Con} {i:Nat} (hp:c.parts[i]? = some p):∀ j y,p.cells[j]? = some y→(c.parts.flatMap cells)[i*5+j]? = some y:=by
  intro j y hj
  have hlt:j<5:=by
    have:=(List.getElem?_eq_some_iff.1 hj).1
    rwa [cells_len]at this
  rw[iL_ cells 5 cells_len c.parts i j p hp hlt]
  exact hj
theorem row_addr {v:Vw} {c p:Con} {i:Nat} (h:c.mem v) (hp:c.parts[i]? = some p):∃ b off,c.ad=some ⟨b,off,none⟩:=by
  have:=((mem_iff c v).1 h).1
  refine this.addr fun e=>?_
  have hc:=part_cells hp 0 _ (List.getElem?_eq_getElem (by rw[cells_len];omega))
  rw[e]at hc
  simp at hc
theorem mem_part {v:Vw} {c p:Con} (h:c.mem v) (hp:p∈c.parts):p.mem v:=((mem_iff c v).1 h).2 p hp
def fits:Con→Nat→Nat→Bool×Nat
  | mk _ _ _ _ _ _ ps,d,n=>if 8<d||64<n+1 then (false,n+1) else fitss ps (d+1) (n+1)
where fitss:List Con→Nat→Nat→Bool×Nat
  | [],_,n=>(true,n)
  | p::ps,d,n=>match fits p d n with
    | (true,m)=>fitss ps d m
    | (false,m)=>(false,m)
theorem fits_eq (c:Con) (d n:Nat):c.fits d n=if 8<d||64<n+1 then (false,n+1) else fits.fitss c.parts (d+1) (n+1):=by cases c;rfl
end Con
end Go.Vs
namespace Go.Sx
section
variable {P:Program} {N:Nf} {v0:Vw} {H0:Hp} {R:Exit→Act→World→Prop} {K:List Kt} {fr:Fr} {H:Hp} {Γ:List Fct}
variable {ops:Array Oper} {l:List Oper} {d:Nat} {ty:TypeId} {ps:String} {af:Array Edge}
open Go Go.Vs
theorem nV_ (c:List Value):mq_ c 0 c.length=some c:=by
  have key:∀ (n off:Nat) (c:List Value),off+n=c.length→mq_ c off n=some (c.drop off):=by
    intro n
    induction n with
    | zero=>intro off c h;simp only[mq_];rw[List.drop_of_length_le (by omega)]
    | succ n ih =>
      intro off c h
      have hlt:off<c.length:=by omega
      simp only[mq_,lg_eq,List.getElem?_eq_getElem hlt,ih (off+1) c (by omega)]
      rw[List.drop_eq_getElem_cons hlt]
  have:=key c.length 0 c (by omega)
  simpa using this
theorem cw_ {t:TypeId} {x:Operand} {b:Nat} (i:Nat) {T:TypeId} {fz:Nat×Nat} {c:Con} (ha:∀ w,(isAgg t).run P w=.ok true w) (hs:∀ w,(sizeOf t).run P w=.ok 5 w)
    (hx:Fr.ev fr x=some (.pointer (some ⟨b,0,none⟩))) (hi:H[i]? = some (b,.cells c.cells.toArray T fz)):Yld P N fr H Γ (.load t x) ty c.val :=
  bs_ i ha hs hx hi (by have:=nV_ c.cells;rw[c.cells_len]at this;exact this)
theorem mO_ (c:Con):c.cells.all Value.oneCell'=true:=rfl
theorem ew_ {t:TypeId} {x y:Operand} {b:Nat} (i:Nat) {cur:Array Value} {T:TypeId} {c:Con} (hs:∀ w,(sizeOf t).run P w=.ok 5 w)
    (hx:Fr.ev fr x=some (.pointer (some ⟨b,0,none⟩))) (hy:Fr.ev fr y=some c.val) (hi:H[i]? = some (b,.cells cur T (0,0))) (hn:cur.size=5)
    (hk:Ops P R N v0 H0 ops l K fr (H.set i (b,.cells c.cells.toArray T (0,0))) Γ) :
    Ops P R N v0 H0 ops (⟨none,.store t x y,ty,ps,af,none⟩::l) K fr H Γ:=by
  refine n_ i hs hx hy hi (by simp[Con.val,Value.cells,c.cells_len]) (by simp[hn]) (mO_ c) ?_
  have e:(cur.toList.take 0++c.val.cells.toList++cur.toList.drop (0+5)).toArray=c.cells.toArray:=by
    have h5:cur.toList.length=5:=by simp[hn]
    simp[Con.val,Value.cells,List.drop_of_length_le (show cur.toList.length≤5 by omega)]
  rw[e]
  exact hk
end
end Go.Sx
namespace Go.Vs.Con
theorem ga_:∀ (xs ys:List Con) (d n m:Nat),fits.fitss xs d n=(true,m)→fits.fitss (xs++ys) d n=fits.fitss ys d m
 | [],ys,d,n,m,h=>by simp only[fits.fitss,Prod.mk.injEq]at h;obtain⟨_,rfl⟩:=h;rfl
 | x::xs,ys,d,n,m,h=>by
   simp only[fits.fitss,List.cons_append]at h ⊢
   split at h
   · rename_i q hq;exact ga_ xs ys d q m h
   · cases h
theorem mF_:∀ (k:Nat) (c:Con),c.sz≤k→∀ d n,(c.fits d n).1=true→(c.fits d n).2≤64
 | 0,c,h=>by have:=c.sz_pos;omega
 | k+1,c,h=>fun d n ht=>by
   rw[fits_eq]at ht ⊢
   split at ht
   · cases ht
   · rename_i hc
     rw[if_neg hc]
     simp only[Bool.or_eq_true,decide_eq_true_eq,not_or,Nat.not_lt]at hc
     have key:∀ (ps:List Con),(∀ p∈ps,p.sz≤k)→∀ n,n≤64→(fits.fitss ps (d+1) n).1=true→(fits.fitss ps (d+1) n).2≤64:=by
       intro ps
       induction ps with
       | nil=>intro _ n hn _;simpa [fits.fitss] using hn
       | cons p ps ih =>
         intro hp n hn ht
         simp only[fits.fitss]at ht ⊢
         split at ht
         · rename_i m hm
           have:=mF_ k p (hp p (by simp)) (d+1) n (by rw[hm])
           rw[hm]at this
           exact ih (fun q hq=>hp q (by simp[hq])) m this ht
         · cases ht
     exact key c.parts (fun p hp=>by have:=sz_part hp;omega) (n+1) (by omega) ht
theorem take_snoc {ps:List Con} {p:Con} {i:Nat} (hp:ps[i]? = some p):ps.take (i+1)=ps.take i++[p]:=by rw[List.take_add_one,hp];rfl
theorem fitss_step {ps:List Con} {p:Con} {i d n m:Nat} (hp:ps[i]? = some p) (h:fits.fitss (ps.take i) d n=(true,m)) (hf:(p.fits d m).1=true) :
    fits.fitss (ps.take (i+1)) d n=(true,(p.fits d m).2)∧(p.fits d m).2≤64:=by
  refine⟨?_,mF_ _ p (Nat.le_refl _) d m hf⟩
  rw[take_snoc hp,ga_ _ _ _ _ _ h]
  simp only[fits.fitss]
  rcases hq:p.fits d m with⟨b,q⟩
  rw[hq]at hf
  simp only at hf
  subst hf
  rfl
theorem fits_no {k lo hi:Int} {nm:Str} {ad:Option Addr} {cap:Nat} {ps:List Con} {p:Con} {i d n m:Nat} (hc:¬ (8<d∨64<n+1)) (hp:ps[i]? = some p) (h:fits.fitss (ps.take i) (d+1) (n+1)=(true,m)) (hf:(p.fits (d+1) m).1=false) :
    (mk k nm lo hi ad cap ps).fits d n=(false,(p.fits (d+1) m).2):=by
  rw[fits_eq,if_neg (by simpa using hc)]
  have e:ps=ps.take i++p::ps.drop (i+1):=by
    have hi:=(List.getElem?_eq_some_iff.1 hp).1
    rw[List.getElem?_eq_getElem hi]at hp
    simp only[Option.some.injEq]at hp
    subst hp
    rw[List.getElem_cons_drop hi,List.take_append_drop]
  show fits.fitss ps (d+1) (n+1)=_
  rw[e,ga_ _ _ _ _ _ h]
  simp only[fits.fitss]
  rcases hq:p.fits (d+1) m with⟨b,q⟩
  rw[hq]at hf
  simp only at hf
  subst hf
  rfl
theorem fits_yes {k lo hx:Int} {nm:Str} {ad:Option Addr} {cap:Nat} {ps:List Con} {i d n m:Nat} (hc:¬ (8<d∨64<n+1)) (hi:ps.length≤i) (h:fits.fitss (ps.take i) (d+1) (n+1)=(true,m)) :
    (mk k nm lo hx ad cap ps).fits d n=(true,m):=by
  rw[fits_eq,if_neg (by simpa using hc)]
  rw[List.take_of_length_le hi]at h
  exact h
end Go.Vs.Con
namespace Go.Vs
open Go Go.Sx
def dL_:List (Int×Int×Int×Bool):=[(0,0,0,false),(0,0,0,false),(0,0,0,false),(1,0,0,false),(2,0,0,false),(0,2,8,false),(1,1,1,false),(1,0,0,true)]
def qa_ (x:Int×Int×Int×Bool):List Value:=[.int .i64 x.1,.int .i64 x.2.1,.int .i64 x.2.2.1,.bool x.2.2.2]
theorem iD_ (x:Int×Int×Int×Bool):(qa_ x).length=4:=rfl
def nd (k:Int):Int×Int×Int×Bool:=(dL_[k.toNat]?).getD (0,0,0,false)
namespace Con
def fieldErr (c:Con):Int :=
  if c.kind<1∨7<c.kind then 21
  else if (c.parts.length:Int)<(nd c.kind).2.1∨(nd c.kind).2.2.1<(c.parts.length:Int)∨((nd c.kind).1=0∧c.name≠[]) then 21
  else if (nd c.kind).2.2.2=true∧(c.lo < -1099511627776∨c.hi<c.lo∨1099511627776<c.hi) then 21
  else if (nd c.kind).2.2.2=false∧(c.lo≠0∨c.hi≠0) then 21
  else if (nd c.kind).1=0∨bk_ c.name=true∨((nd c.kind).1=2∧cx_ c.name=true) then 0
  else 20
def firstErr:Con→Int
  | c@(mk _ _ _ _ _ _ ps)=>if c.fieldErr=0 then firstErrs ps else c.fieldErr
where firstErrs:List Con→Int
  | []=>0
  | p::ps=>if firstErr p=0 then firstErrs ps else firstErr p
theorem jg_ (c:Con):c.firstErr=if c.fieldErr=0 then firstErr.firstErrs c.parts else c.fieldErr:=by cases c;simp only[firstErr,parts]
def check (c:Con):Int:=if (c.fits 0 0).1 then c.firstErr else 21
end Con
end Go.Vs
namespace Go.Sx
open Go Go.Vs
section
variable {P:Program} {N:Nat} {v0:Vw} {H0:Hp} {R:Exit→Act→World→Prop} {K:List Kt} {fr:Fr} {H:Hp} {Γ:List Fct}
theorem ret0 {fn:Func} {ι:Type} {F:Hp} {ret:ι→Value} {H':ι→Hp} {Γ':ι→List Fct} (hr:fn.results=#[]) (x:ι) (hx:.tuple #[]=ret x) (hH:H.Perm (H' x++F))
    (hΓ:∀ v,v.sat H→ag_ Γ v→ag_ (Γ' x) v):Ok N v0 H0 (bodyPost P fn (jt_ v0 H0 ret H' Γ') .ret) fr H Γ :=
  eC_ hH hΓ fun a v h1 h2 h3 h4=>⟨h1.defers,ret x,by rw[results_none hr,hx],x,v,rfl,rfl,h2,h4,h3⟩
theorem dS_ {fn:Func} {ι:Type} {F:Hp} {ret:ι→Value} {H':ι→Hp} {Γ':ι→List Fct} (hr:fn.results=#[]) (x:ι) (hx:.tuple #[]=ret x) (hH:H.Perm (H' x++F))
    (hΓ:∀ v,v.sat H→ag_ Γ v→ag_ (Γ' x) v):Ok N v0 H0 (bodyPost P fn (jt_ v0 H0 ret H' Γ') .normal) fr H Γ :=
  ret0 hr x hx hH hΓ
theorem hS_ {fn:Func} {t b:Nat} {ty T:TypeId} {u:Value} (i:Nat) (hr:fn.results=#[.cell t ty]) (ha:∀ w,(isAgg ty).run P w=.ok false w) (hx:Fr.get fr t=some (.pointer (some ⟨b,0,none⟩))) (hi:H[i]? = some (b,.cells #[u] T (0,0))) (a:Act) (v:Vw) (h1:Fr.sat N fr a) (h2:v.sat H) :
    (results fn a.tmps).run P v.w=.ok u v.w:=by
  have e:=h1.val t _ hx
  have hc:v.w.cell? ⟨b,0,none⟩=some u:=by rw[ei_ h2 hi];rfl
  have hl:=bH_ (t:=ty) (w:=v.w) ha hc
  simp[results,hr,e,asAddr,hl]
variable {F:Fence} {n:Nat} {D:List Deferred} {ops:Array Oper} {l:List Oper} {d:Nat} {ty:TypeId} {ps:String} {af:Array Edge}
theorem hY_ {k:Act→World→Prop} {H' F:Hp} {Γ':List Fct} (hH:H.Perm (H'++F)) (hΓ:∀ v,v.sat H→ag_ Γ v→ag_ Γ' v) (h:OkD N D v0 H0 k fr H' Γ'):OkD N D v0 H0 k fr H Γ :=
  fun a v h1 h2 h3 h4=>h a v h1 (h2.perm hH).sub (h3.subR fun b hb=>by
    have:b∈(H'++F).map Prod.fst:=by rw[List.map_append];exact List.mem_append_left _ hb
    exact (hH.map Prod.fst).mem_iff.2 this) (hΓ v h2 h4)
theorem nP_ {t:TypeId} {x y:Operand} {b:Nat} (hF:Opn F) (i:Nat) {cur:Array Value} {T:TypeId} {c:Con} (hs:∀ w,(sizeOf t).run P w=.ok 5 w)
    (hx:Fr.ev fr x=some (.pointer (some ⟨b,0,none⟩))) (hy:Fr.ev fr y=some c.val) (hi:H[i]? = some (b,.cells cur T (0,0))) (hn:cur.size=5)
    (hk:ez_ F n P R N D v0 H0 ops l K fr (H.set i (b,.cells c.cells.toArray T (0,0))) Γ) :
    ez_ F n P R N D v0 H0 ops (⟨none,.store t x y,ty,ps,af,none⟩::l) K fr H Γ:=by
  refine dQ_ hF i hs hx hy hi (by simp[Con.val,Value.cells,c.cells_len]) (by simp[hn]) (mO_ c) ?_
  have e:(cur.toList.take 0++c.val.cells.toList++cur.toList.drop (0+5)).toArray=c.cells.toArray:=by
    have h5:cur.toList.length=5:=by simp[hn]
    simp[Con.val,Value.cells,List.drop_of_length_le (show cur.toList.length≤5 by omega)]
  rw[e]
  exact hk
theorem ll_ {σ τ:Type} {Hj:σ→Hp} {Hx:τ→Hp} {HL G:Hp} {res:σ ⊕ τ} (s':σ) (hr:res=.inl s') (hH:H.Perm (Hj s'++HL++G)):OkD N [] v0 H0 (pC_ v0 H0 Hj Hx HL res .normal) fr H Γ :=
  hY_ (Γ':=[]) hH (fun _ _ _=>trivial) fun a v h1 h2 h3 _=>⟨s',v,hr,rfl,h2,h3⟩
theorem qZ_ {σ τ:Type} {Hj:σ→Hp} {Hx:τ→Hp} {HL G:Hp} {res:σ ⊕ τ} (t:τ) (hr:res=.inr t) (hH:H.Perm (Hx t++HL++G)):OkD N [] v0 H0 (pC_ v0 H0 Hj Hx HL res .ret) fr H Γ :=
  hY_ (Γ':=[]) hH (fun _ _ _=>trivial) fun a v h1 h2 h3 _=>⟨t,v,hr,rfl,h2,h3⟩
theorem cy_ {ι:Type} {frs:ι→Fr} {Hs:ι→Hp} {Γs:ι→List Fct} (i:ι) {F:Hp} (hfr:Fr.le (frs i) fr) (hH:H.Perm (Hs i++F)) (hΓ:∀ v,v.sat H→ag_ Γ v→ag_ (Γs i) v) :
    OkD N [] v0 H0 (Mid N v0 H0 frs Hs Γs .normal) fr H Γ:=cT_.2 (al_ i hfr hH hΓ)
end
end Go.Sx
namespace Go.Vs.Con
def fold {σ τ:Type} (f:Con→σ→σ ⊕ τ):Con→σ→σ ⊕ τ
  | c@(mk _ _ _ _ _ _ ps),s=>match f c s with|.inl s'=>folds f ps s'|.inr t=>.inr t
where folds {σ τ:Type} (f:Con→σ→σ ⊕ τ):List Con→σ→σ ⊕ τ
  | [],s=>.inl s
  | p::ps,s=>match fold f p s with|.inl s'=>folds f ps s'|.inr t=>.inr t
section
variable {σ τ:Type} {f:Con→σ→σ ⊕ τ}
theorem fold_eq (c:Con) (s:σ):fold f c s=match f c s with|.inl s'=>fold.folds f c.parts s'|.inr t=>.inr t:=by cases c;rw[fold];rfl
theorem fY_:∀ (xs ys:List Con) (s m:σ),fold.folds f xs s=.inl m→fold.folds f (xs++ys) s=fold.folds f ys m
 | [],ys,s,m,h=>by simp only[fold.folds,Sum.inl.injEq]at h;subst h;rfl
 | x::xs,ys,s,m,h=>by
   simp only[fold.folds,List.cons_append]at h ⊢
   split at h
   · rename_i q hq;exact fY_ xs ys q m h
   · cases h
theorem folds_step {ps:List Con} {p:Con} {i:Nat} {s m m':σ} (hp:ps[i]? = some p) (h:fold.folds f (ps.take i) s=.inl m) (hf:fold f p m=.inl m'):fold.folds f (ps.take (i+1)) s=.inl m':=by
  rw[take_snoc hp,fY_ _ _ _ _ h]
  simp only[fold.folds,hf]
theorem folds_no {ps:List Con} {p:Con} {i:Nat} {s m:σ} {t:τ} (hp:ps[i]? = some p) (h:fold.folds f (ps.take i) s=.inl m) (hf:fold f p m=.inr t):fold.folds f ps s=.inr t:=by
  have e:ps=ps.take i++p::ps.drop (i+1):=by
    have hi:=(List.getElem?_eq_some_iff.1 hp).1
    rw[List.getElem?_eq_getElem hi]at hp
    simp only[Option.some.injEq]at hp
    subst hp
    rw[List.getElem_cons_drop hi,List.take_append_drop]
  rw[e,fY_ _ _ _ _ h]
  simp only[fold.folds,hf]
theorem folds_yes {ps:List Con} {i:Nat} {s m:σ} (hi:ps.length≤i) (h:fold.folds f (ps.take i) s=.inl m):fold.folds f ps s=.inl m:=by
  rwa [List.take_of_length_le hi]at h
end
def chk (c:Con) (_:Unit):Unit ⊕ Int:=if c.fieldErr=0 then .inl () else .inr c.fieldErr
theorem fold_chk:∀ (m:Nat) (c:Con),c.sz≤m→fold chk c ()=if c.firstErr=0 then .inl () else .inr c.firstErr
 | 0,c,h=>by have:=c.sz_pos;omega
 | m+1,c,h=>by
   rw[fold_eq,jg_,chk]
   have key:∀ (ps:List Con),(∀ p∈ps,p.sz≤m)→fold.folds chk ps ()=if firstErr.firstErrs ps=0 then .inl () else .inr (firstErr.firstErrs ps):=by
     intro ps
     induction ps with
     | nil=>intro _;simp[fold.folds,firstErr.firstErrs]
     | cons p ps ih =>
       intro hp
       simp only[fold.folds,firstErr.firstErrs]
       rw[fold_chk m p (hp p (by simp))]
       by_cases e:p.firstErr=0
       · simp only[e,if_true]
         exact ih fun q hq=>hp q (by simp[hq])
       · simp[e]
   by_cases e:c.fieldErr=0
   · simp only[e,if_true]
     exact key c.parts fun p hp=>by have:=sz_part hp;omega
   · simp[e]
def cnt (_:Con) (n:Nat):Nat ⊕ Empty:=.inl (n+1)
end Go.Vs.Con
namespace Go.Sx
open Go
theorem jaf {A B:Bool} (h:A=false):false=(A&&B):=by rw[h];rfl
theorem jat {A B r:Bool} (h:A=true) (hb:B=r):r=(A&&B):=by rw[h,← hb];rfl
theorem jot {A B:Bool} (h:A=true):true=(A||B):=by rw[h];rfl
theorem jof {A B r:Bool} (h:A=false) (hb:B=r):r=(A||B):=by rw[h,← hb];rfl
theorem jn {A r:Bool} (h:A=r):(!A)=(!r):=by rw[h]
section
variable {P:Program} {N:Nf} {v0:Vw} {H0:Hp} {R:Exit→Act→World→Prop} {K:List Kt} {fr:Fr} {H:Hp} {Γ:List Fct}
variable {ops:Array Oper} {l:List Oper}
theorem lb_ {Q Q':Exit→Act→World→Prop} {o:Oper} {a:Act} {w:World} {K1 K2:Act→World→Prop} (h:∀ a w,K1 a w→K2 a w) (hp:∀ c a w,Q (.panic c) a w→Q' (.panic c) a w) (ho:∀ a w,Q .outgrown a w→Q' .outgrown a w)
    (hh:o.wp P a w K1 Q):o.wp P a w K2 Q':=by
  unfold Oper.wp at *
  generalize (execOp a.eval o).run P w=r at *
  cases r with
  | ok n w' =>
    cases n<;>simp only[Oper.upon]at hh ⊢ <;>
      first
        | exact h _ _ hh
        | exact Calls.mono hh (fun e w'' he=>by
            cases e with
            | returned v=>exact h _ _ he
            | panicked c=>exact hp _ _ _ he
            | outgrown=>obtain⟨a,w,q⟩:=he;exact⟨a,w,ho _ _ q⟩)
        | exact Rows.mono hh (fun _ _ he=>h _ _ he)
  | halt x w'=>cases x<;>simp only[Oper.upon]at hh ⊢<;>first|exact hp _ _ _ hh|exact hh
theorem hn_ {l2:List Oper}:∀ (l1:List Oper) (a:Act) (w:World),wpList P ops (post P R (.inv (wpList P ops (post P R K) l2)::K)) l1 a w→wpList P ops (post P R K) (l1++l2) a w
 | [],a,w,h=>h
 | o::l1,a,w,h=>by
   simp only[wpList,List.cons_append]at h ⊢
   split
   · rename_i hw
     rw[if_pos hw]at h
     rcases h with h|⟨h,a',w',q⟩
     · exact .inl (lb_ (fun a w q=>hn_ l1 a w q) (fun c a w q=>q) (fun a w q=>q) h)
     · exact .inr ⟨h,a',w',q⟩
   · rename_i hw
     rw[if_neg hw]at h
     exact hn_ l1 _ _ h
def qd_:Nat→List Oper→List Oper
  | 0,_=>[]
  | _,[]=>[]
  | n+1,o::l=>o::qd_ n l
def qe_:Nat→List Oper→List Oper
  | 0,l=>l
  | _,[]=>[]
  | n+1,_::l=>qe_ n l
theorem kn_:∀ (n:Nat) (l:List Oper),qd_ n l++qe_ n l=l
  | 0,_=>rfl
  | n+1,[]=>rfl
  | n+1,o::l=>by show o::(qd_ n l++qe_ n l)=o::l;rw[kn_ n l]
def MetJ (N:Nf) (v0:Vw) (H0:Hp) (fr:Fr) (H:Hp) (Γ:List Fct) (a:Act) (w:World):Prop:=∃ v,v.w=w∧Fr.sat N fr a∧v.sat H∧v0.to H0 v H∧ag_ Γ v
theorem aN_ (n:Nat) (X:Bool) (fr':Bool→Fr) (h1:Ops P R N v0 H0 ops (qd_ n l) (.inv (MetJ N v0 H0 (fr' X) H Γ)::K) fr H Γ)
    (h2:∀ r,X=r→Ops P R N v0 H0 ops (qe_ n l) K (fr' r) H Γ):Ops P R N v0 H0 ops l K fr H Γ:=by
  intro a v g1 g2 g3 g4
  rw[← kn_ n l]
  refine hn_ _ _ _ ?_
  have h3:=h1 a v g1 g2 g3 g4
  refine wpL_mono ?_ _ _ _ h3
  rintro a' w' ⟨v',rfl,k1,k2,k3,k4⟩
  exact h2 X rfl a' v' k1 k2 k3 k4
where wpL_mono {J J':Act→World→Prop} (hJ:∀ a w,J a w→J' a w):∀ (l1:List Oper) (a:Act) (w:World),wpList P ops (post P R (.inv J::K)) l1 a w→wpList P ops (post P R (.inv J'::K)) l1 a w
  | [],a,w,h=>hJ _ _ h
  | o::l1,a,w,h=>by
    simp only[wpList]at h ⊢
    split
    · rename_i hw
      rw[if_pos hw]at h
      rcases h with h|⟨h,a',w',q⟩
      · exact .inl (lb_ (fun a w q=>wpL_mono hJ l1 a w q) (fun c a w q=>q) (fun a w q=>q) h)
      · exact .inr ⟨h,a',w',q⟩
    · rename_i hw
      rw[if_neg hw]at h
      exact wpL_mono hJ l1 _ _ h
theorem met {fr':Fr} (hfr:Fr.le fr' fr):Ok N v0 H0 (MetJ N v0 H0 fr' H Γ) fr H Γ :=
  bp_ fr' hfr fun _ v h1 h2 h3 h4=>⟨v,rfl,h1,h2,h3,h4⟩
end
end Go.Sx
namespace Go.Sx
open Go
theorem o_ {α:Type} {f:α→List Value} {n:Nat} (hf:∀ x,(f x).length=n) {l:List α} {i:Nat} {x:α} (hx:l[i]? = some x):∀ j y,(f x)[j]? = some y→(l.flatMap f)[i*n+j]? = some y:=by
  intro j y hj
  have hlt:j<n:=by
    have:=(List.getElem?_eq_some_iff.1 hj).1
    rwa [hf]at this
  rw[iL_ f n hf l i j x hx hlt]
  exact hj
theorem q_ {α:Type} {f:α→List Value} {n:Nat} (hf:∀ x,(f x).length=n) (h0:0<n) {v:Vw} {ad:Option Addr} {l:List α} {i:Nat} {x:α} (h:bA_ v ad (l.flatMap f)) (hx:l[i]? = some x):∃ b off,ad=some ⟨b,off,none⟩:=by
  refine h.addr fun e=>?_
  have hc:=o_ hf hx 0 _ (List.getElem?_eq_getElem (by rw[hf];exact h0))
  rw[e]at hc
  simp at hc
def aJ_ (s:List UInt8):List Value:=[str s]
theorem ak_ (s:List UInt8):(aJ_ s).length=1:=rfl
end Go.Sx
namespace Go.Vs
open Go Go.Sx
structure Ax where
  kind:Int
  opn:Bool
  left:Con
  right:Con
  ad:Option Addr
  cap:Nat
  roles:List Str
  role:Str
  a:Str
  b:Str
namespace Ax
def cells (x:Ax):List Value:=.int .i64 x.kind::.bool x.opn::(x.left.cells++(x.right.cells++[.slice x.ad x.roles.length x.cap,str x.role,str x.a,str x.b]))
def val (x:Ax):Value:=.agg x.cells.toArray
theorem cells_len (x:Ax):x.cells.length=16:=by simp[cells,Con.cells_len]
def mem (x:Ax) (v:Vw):Prop:=x.left.mem v∧x.right.mem v∧bA_ v x.ad (x.roles.flatMap aJ_)
def memF (x:Ax):Fct:=⟨x.mem,fun v v' h hp=>⟨x.left.memF.mono v v' h hp.1,x.right.memF.mono v v' h hp.2.1,(ac_ x.ad (x.roles.flatMap aJ_)).mono v v' h hp.2.2⟩⟩
structure ok (x:Ax):Prop where
  lo:-9223372036854775808≤x.kind
  hi:x.kind≤9223372036854775807
  left:x.left.ok
  right:x.right.ok
  len:x.roles.length≤x.cap
  cap:x.roles.length≤8796093021952
  roles:∀ r∈x.roles,r.length≤140737488351232
  role:x.role.length≤140737488351232
  a:x.a.length≤140737488351232
  b:x.b.length≤140737488351232
end Ax
def Con.empty (c:Con):Bool:=((((c.kind==0)&&(c.name==[]))&&(c.lo==0))&&(c.hi==0))&&((c.parts.length:Int)==0)
def Con.bare:Con→Bool
  | mk k _ _ _ _ _ ps=>(k==4)||((k==5)&&bares ps)
where bares:List Con→Bool
  | []=>false
  | p::ps=>bare p||bares ps
theorem Con.bares_any:∀ (ps:List Con),Con.bare.bares ps=ps.any Con.bare
  | []=>rfl
  | p::ps=>by simp[Con.bare.bares,Con.bares_any ps]
theorem Con.bare_eq (c:Con):c.bare=((c.kind==4)||((c.kind==5)&&c.parts.any Con.bare)):=by cases c;simp only[Con.bare,Con.bares_any,kind,parts]
structure Use where
  left:Bool
  right:Bool
  role:Bool
  a:Bool
  b:Bool
  least:Int
  most:Int
def Use.cells (u:Use):List Value:=[.bool u.left,.bool u.right,.bool u.role,.bool u.a,.bool u.b,.int .i64 u.least,.int .i64 u.most]
theorem Use.cells_len (u:Use):u.cells.length=7:=rfl
def nj_:List Use:=[⟨false,false,false,false,false,0,0⟩,⟨true,true,false,false,false,0,0⟩,⟨true,true,false,false,false,0,0⟩,⟨true,true,false,false,false,0,0⟩,⟨false,true,true,false,false,0,0⟩,
  ⟨false,false,true,false,false,1,1⟩,⟨false,false,true,false,false,2,4⟩,⟨false,false,true,false,false,0,0⟩,⟨false,true,false,true,false,0,0⟩,⟨false,false,true,true,true,0,0⟩]
def us (k:Int):Use:=(nj_[k.toNat]?).getD ⟨false,false,false,false,false,0,0⟩
namespace Ax
def shaped (x:Ax):Bool :=
  if x.kind<1∨9<x.kind then false else
    let u:=us x.kind
    (((((((u.left||x.left.empty)&&(u.right||x.right.empty))&&(u.role||(x.role==[])))&&(u.a||(x.a==[])))&&(u.b||(x.b==[])))&&decide (u.least≤(x.roles.length:Int)))&&decide ((x.roles.length:Int)≤u.most))
def namedU (x:Ax) (u:Use):Bool:=!(u.role&&!bk_ x.role||u.a&&!aQ_ x.a||u.b&&!aQ_ x.b)&&x.roles.all bk_
def check (x:Ax):Int :=
  if x.shaped=false then 22
  else if x.namedU (us x.kind)=false then 20
  else if (us x.kind).left=true∧x.left.check≠0 then x.left.check
  else if (us x.kind).right=true∧x.right.check≠0 then x.right.check
  else if x.kind=2∧(x.left.bare=true∨x.right.bare=true) then 22
  else if (x.kind=1∨x.kind=4∨x.kind=8)∧x.right.bare=true then 22
  else 0
end Ax
end Go.Vs
namespace Go.Vs
open Go Go.Sx
structure NUse where
  a:Bool
  b:Bool
  c:Bool
  r:Bool
  s:Bool
  t:Bool
  numbers:Bool
def NUse.cells (u:NUse):List Value:=[.bool u.a,.bool u.b,.bool u.c,.bool u.r,.bool u.s,.bool u.t,.bool u.numbers]
theorem NUse.cells_len (u:NUse):u.cells.length=7:=rfl
def ge_:List NUse:=[⟨false,false,false,false,false,false,false⟩,⟨true,false,true,false,false,false,false⟩,⟨true,true,true,false,false,false,false⟩,⟨true,false,true,true,false,false,false⟩,⟨true,false,true,true,false,false,false⟩,
  ⟨false,false,false,true,false,true,false⟩,⟨false,false,false,true,true,true,false⟩,⟨false,false,false,true,false,false,false⟩,⟨true,false,false,true,false,false,true⟩,⟨false,false,true,true,false,false,true⟩]
def nus (k:Int):NUse:=(ge_[k.toNat]?).getD ⟨false,false,false,false,false,false,false⟩
end Go.Vs
namespace Go.Sx
open Go
def bj_ (b:Nat) (o:Obj):Fct where
  p:=fun v=>v.im b∧v.w.heap[b]? = some o
  mono:=fun v v' h hp=>⟨h.imUp b hp.1,by rw[h.block b hp.1];exact hp.2⟩
section
variable {P:Program} {N:Nf} {v0:Vw} {H0:Hp} {R:Exit→Act→World→Prop} {K:List Kt} {fr:Fr} {H:Hp} {Γ:List Fct}
variable {ops:Array Oper} {l:List Oper} {d:Nat} {ty:TypeId} {ps:String} {af:Array Edge}
theorem gB_ {k:Act→World→Prop} {b:Nat} {o:Obj} (i:Nat) (hi:H[i]? = some (b,o)) (h:Ok N v0 H0 k fr (H.eraseIdx i) (bj_ b o::Γ)):Ok N v0 H0 k fr H Γ :=
  eD_ (bj_ b o) (eB_ hi) (fun _ h1 h2 _=>⟨h1,h2⟩) h
theorem ds_ {t:TypeId} (hN:Nat.blt d N.n=true) (hk:∀ b,Ops P R N v0 H0 ops l K ((d,.map (some b))::fr) ((b,.map #[] 0)::H) Γ) :
    Ops P R N v0 H0 ops (⟨some d,.makeMap t none,ty,ps,af,none⟩::l) K fr H Γ :=
  gT_ (x:=fun b=>.map (some b)) hN (fun a v h1 _ _=>by simp[execOp,Instr.makeMap,newObj];rfl) hk
def ji_ (P:Program) (k:TypeId) (key:Value):Prop:=∀ e w,(Instr.checkKey e 10000 k key).run P w=.ok () w
def cP_ (P:Program) (k:TypeId) (key:Value) (es:List MapEntry) (r:Option (Nat×Value)):Prop:=∀ w,(Instr.findKey k key es).run P w=.ok r w
theorem bD_ {k:TypeId} {i:IntKind} {n:Int} (hd:P.underlying k=some (.int i)):ji_ P k (.int i n):=fun e w=>by
  exact key (9999) e w
where key (m:Nat) (e:Bool) (w:World):(Instr.checkKey e (m+1) k (.int i n)).run P w=.ok () w:=by simp[Instr.checkKey,run_underlying hd]
theorem aP_ {k:TypeId} {dd:TypeDesc} {key:Value} {es:List MapEntry} {r:Option (Nat×Value)} (hd:P.underlying k=some dd) (h:Instr.findNow dd key es 0=some r):cP_ P k key es r:=fun w=>by
  simp[Instr.findKey,run_underlying hd,h]
theorem eo_ {t kt et:TypeId} {x y:Operand} {b c i:Nat} {es:Array MapEntry} {key u:Value} (hu:∀ w,(underlying t).run P w=.ok (.map kt et) w) (hx:Fr.ev fr x=some (.map (some b))) (hy:Fr.ev fr y=some key)
    (hm:∀ v,v.sat H→ag_ Γ v→v.w.heap[b]? = some (.map es c)) (hk:ji_ P kt key) (hf:cP_ P kt key es.toList (some (i,u))):Yld P N fr H Γ (.lookup t x y false) ty u :=
  fun a v h1 h2 h4 _ _ _=>by
    have hb:=MapKept.run_getObj_map (P:=P) (hm v h2 h4)
    simp[execOp,h1.ev hx,h1.ev hy,Instr.lookup,hu,hb,hk _ _,hf _]
theorem eP_ {t kt et:TypeId} {x y:Operand} {b c:Nat} {es:Array MapEntry} {key z:Value} (hu:∀ w,(underlying t).run P w=.ok (.map kt et) w) (hz:∀ w,(zeroValue et).run P w=.ok z w) (hx:Fr.ev fr x=some (.map (some b))) (hy:Fr.ev fr y=some key)
    (hm:∀ v,v.sat H→ag_ Γ v→v.w.heap[b]? = some (.map es c)) (hk:ji_ P kt key) (hf:cP_ P kt key es.toList none):Yld P N fr H Γ (.lookup t x y false) ty z :=
  fun a v h1 h2 h4 _ _ _=>by
    have hb:=MapKept.run_getObj_map (P:=P) (hm v h2 h4)
    simp[execOp,h1.ev hx,h1.ev hy,Instr.lookup,hu,hb,hk _ _,hf _,hz]
theorem aW_ {o:Op} {t kt et:TypeId} {x y z:Operand} {b c:Nat} (i:Nat) {es:Array MapEntry} {key u:Value} (ho:o=.insert t x y z∨o=.mapUpdate t x y z) (hu:∀ w,(underlying t).run P w=.ok (.map kt et) w)
    (hx:Fr.ev fr x=some (.map (some b))) (hy:Fr.ev fr y=some key) (hz:Fr.ev fr z=some u) (hi:H[i]? = some (b,.map es c)) (hk:ji_ P kt key) (hf:cP_ P kt key es.toList none)
    (hkk:Ops P R N v0 H0 ops l K fr (H.set i (b,.map (es.push ⟨key,u,c⟩) (c+1))) Γ):Ops P R N v0 H0 ops (⟨none,o,ty,ps,af,none⟩::l) K fr H Γ :=
  cF_ rfl fun a v h1 h2 h3 h4=>by
    have hb:=(h2.own _ (List.mem_of_getElem? hi)).1
    have hg:=MapKept.run_getObj_map (P:=P) hb
    have hs:=MapKept.run_setObj_map (P:=P) (.map (es.push ⟨key,u,c⟩) (c+1)) hb
    have he:(execOp a.eval ⟨none,o,ty,ps,af,none⟩).run P v.w=.ok .skip { v.w with heap:=v.w.heap.setIfInBounds b (.map (es.push ⟨key,u,c⟩) (c+1)) }:=by
      rcases ho with rfl|rfl<;>simp[execOp,h1.ev hx,h1.ev hy,h1.ev hz,Instr.mapUpdate,hu,hg,hk _ _,hf _,hs]
    unfold Oper.wp
    rw[he]
    have hh:=MapKept.heap_set (o':=.map (es.push ⟨key,u,c⟩) (c+1)) hb
    obtain⟨g1,g2⟩:=eR_ (w':={ v.w with heap:=v.w.heap.setIfInBounds b (.map (es.push ⟨key,u,c⟩) (c+1)) }) h2 hi rfl rfl rfl (Nat.le_refl _) (by simp) hh.1 (fun k hk=>hh.2 k hk)
    exact hkk a _ h1 g1 (h3.trans g2) (aD_ (g2.le h2) h4)
theorem cH_ {f:FuncId} {args:Array Value} {r:Value} (hc:eJ_ P f) (h:∀ v:Vw,v.sat H→ag_ Γ v→Calls P f args v.w fun e w'=>e=.returned r∧RowKit.Below v.w.heap.size v.w w'∧(v.sl∨v.w.drawn≤w'.drawn)):Tri P f args H Γ (fun _:Unit=>r) (fun _=>H) (fun _=>[]) :=
  ⟨hc,fun v h1 h2=>(h v h1 h2).mono fun e w' ⟨he,hb,hd⟩=>by
    have hsz:v.w.heap.size≤w'.heap.size:=hb.size
    have hlt:∀ p∈H,p.1<v.w.heap.size:=fun p hp=>(Array.getElem?_eq_some_iff.1 (h1.own p hp).1).1
    refine⟨(),⟨v.im,w',v.sl⟩,he,rfl,⟨fun p hp=>⟨?_,(h1.own p hp).2⟩,h1.nodup,fun b hbb=>Nat.lt_of_lt_of_le (h1.lt b hbb) hsz⟩,trivial,⟨hb.os,hb.tape,hb.output,hsz,fun b hbb _=>hb.block b hbb,fun _ h=>h,fun _ h=>.inl h,fun _ h=>.inl h,rfl,hd⟩⟩
    show w'.heap[p.1]? = _
    rw[hb.block p.1 (hlt p hp)]
    exact (h1.own p hp).1⟩
theorem px_ (w:World) (k:Nat) (os:Array Obj):RowKit.Below w.heap.size w (Go.Sort.grow (w.drewN k) os) :=
  ⟨rfl,rfl,rfl,by simp[Go.Sort.grow],fun b hb=>by simp only[Go.Sort.grow,World.heap_drewN];rw[Array.getElem?_append_left hb]⟩
theorem fo_ {t e:TypeId} {sz by':Nat} {z:Value} (hu:P.underlying t=some (.slice e)) (hi:(P.info? e).map (fun i=>(i.zero,i.size,i.bytes))=some (some z,sz,by')) (hz:z.cells.size=sz) (hp:0<sz):Elt P t e sz by':=by
  refine⟨hu,?_,hp⟩
  cases h:P.info? e with
  | none=>rw[h]at hi;cases hi
  | some i =>
    rw[h]at hi
    simp only[Option.map_some,Option.some.injEq,Prod.mk.injEq]at hi
    exact⟨i,z,rfl,hi.1,hi.2.1,hi.2.2,hz⟩
theorem bC_ {b:Nat} {cs:List Value} {T:TypeId} {fz:Nat×Nat} (i:Nat) (hi:H[i]? = some (b,.cells cs.toArray T fz)):∀ v:Vw,v.sat H→ag_ Γ v→∀ j u,cs[j]? = some u→v.w.cell? ((⟨b,0,none⟩:Addr).add j)=some u:=by
  intro v h1 _ j u hj
  rw[cp_,Nat.zero_add,ei_ h1 hi]
  simpa using hj
theorem cr_ {N:Nat} {fn:Func} {ι:Type} {F:Hp} {ret:ι→Value} {H':ι→Hp} {Γ':ι→List Fct} (x:ι) (hx:∀ (a:Act) (v:Vw),Fr.sat N fr a→v.sat H→(results fn a.tmps).run P v.w=.ok (ret x) v.w) (hH:H.Perm (H' x++F))
    (hΓ:∀ v,v.sat H→ag_ Γ v→ag_ (Γ' x) v):Ok N v0 H0 (bodyPost P fn (jt_ v0 H0 ret H' Γ') .ret) fr H Γ :=
  fun a v h1 h2 h3 h4=>⟨h1.defers,ret x,hx a v h1 h2,x,v,rfl,rfl,(h2.perm hH).sub,hΓ v h2 h4,h3.subR fun b hb=>by
    have:b∈(H' x++F).map Prod.fst:=by rw[List.map_append];exact List.mem_append_left _ hb
    exact (hH.map Prod.fst).mem_iff.2 this⟩
theorem dT_ {fn:Func} {t b n:Nat} {ty T:TypeId} {us:List Value} (i:Nat) (hr:fn.results=#[.cell t ty]) (ha:∀ w,(isAgg ty).run P w=.ok true w) (hs:∀ w,(sizeOf ty).run P w=.ok n w) (hn:us.length=n) (hx:Fr.get fr t=some (.pointer (some ⟨b,0,none⟩)))
    (hi:H[i]? = some (b,.cells us.toArray T (0,0))) (a:Act) (v:Vw) (h1:Fr.sat N fr a) (h2:v.sat H):(results fn a.tmps).run P v.w=.ok (.agg us.toArray) v.w:=by
  have e:=h1.val t _ hx
  have hl:=dm_ (t:=ty) (w:=v.w) (b:=b) (off:=0) ha hs hn (fun j y hj=>by rw[Nat.zero_add,ei_ h2 hi];simpa using hj)
  simp[results,hr,e,asAddr,hl]
theorem tO_ {Hs:Hp} {Γs:List Fct} {fuel:Nat} {listed:Array Bool} (is:List Nat) (hr:Region.ready .any ops listed=is) (hne:is≠[])
    (h:∀ i,i∈is→∃ o,ops[i]? = some o∧Ops P R N v0 H0 ops [o] (.inv (Nx P R ops Hs Γs fuel (listed.setIfInBounds i true) K)::K) fr H Γ):Any P R N v0 H0 ops Hs Γs (fuel+1) listed K fr H Γ:=by
  intro a v h1 h2 h3 h4
  refine wpAnyH_all hr hne fun j hj=>?_
  obtain⟨o,hi,h⟩:=h j hj
  have:=h a v h1 h2 h3 h4
  unfold wpOp
  simp only[hi]
  unfold wpList at this
  split
  · rename_i hw
    rw[if_pos hw]at this
    rcases this with q|q
    · left
      unfold Oper.wp at q ⊢
      generalize (execOp a.eval o).run P v.w=r at q ⊢
      cases r with
      | ok n w' =>
        cases n<;>simp only[Oper.upon]at q ⊢<;>exact q
      | halt x w' =>
        cases x<;>simp only[Oper.upon]at q ⊢
        case panic u=>exact q
    · exact .inr q
  · rename_i hw
    rw[if_neg hw]at this
    exact this
theorem jD_ {Hs:Hp} {Γs:List Fct} {fuel:Nat} {listed:Array Bool} (i j:Nat) {o o':Oper} (hi:ops[i]? = some o) (hj:ops[j]? = some o') (hr:Region.ready .any ops listed=[i,j])
    (h:Ops P R N v0 H0 ops [o] (.inv (Nx P R ops Hs Γs fuel (listed.setIfInBounds i true) K)::K) fr H Γ) (h':Ops P R N v0 H0 ops [o'] (.inv (Nx P R ops Hs Γs fuel (listed.setIfInBounds j true) K)::K) fr H Γ):Any P R N v0 H0 ops Hs Γs (fuel+1) listed K fr H Γ :=
  tO_ [i,j] hr (by simp) fun k hk=>by
    simp only[List.mem_cons,List.not_mem_nil,or_false]at hk
    rcases hk with rfl|rfl
    · exact⟨o,hi,h⟩
    · exact⟨o',hj,h'⟩
theorem ar_.some {e:TypeId} {sz n:Nat} {sv:Value} {xs:List Value} {Hr:Hp} (h:ar_ e sz sv n xs Hr) (hn:n≠0) :
    ∃ g cap cur,sv=.slice (some ⟨g,0,none⟩) n cap∧Hr=[(g,.cells cur e (0,0))]∧n≤cap∧cap≤maxLen∧cur.size=cap*sz∧cur.toList.take (n*sz)=xs:=by
  rcases h.2 with⟨_,h2,_⟩|h2
  · exact absurd h2 hn
  · exact h2
theorem gU_ {us:List Value} (h:us.all Value.oneCell'=true):∀ u∈us,u.oneCell'=true:=fun u hu=>List.all_eq_true.1 h u hu
theorem bf_ {id:Nat} (Hs:Hp) (hm:P.follows .mixedOrders=true) (h:Any P R N v0 H0 ops Hs Γ ops.size (Array.replicate ops.size false) K fr H Γ):Run P R N v0 H0 (.region id ops true) K fr H Γ:=nt_ Hs Γ hm h
theorem retG {N:Nat} {fn:Func} {ι:Type} {F:Hp} {ret:ι→Value} {H':ι→Hp} {Γ':ι→List Fct} (x:ι) (hx:∀ (a:Act) (v:Vw),Fr.sat N fr a→v.sat H→ag_ Γ v→(results fn a.tmps).run P v.w=.ok (ret x) v.w) (hH:H.Perm (H' x++F))
    (hΓ:∀ v,v.sat H→ag_ Γ v→ag_ (Γ' x) v):Ok N v0 H0 (bodyPost P fn (jt_ v0 H0 ret H' Γ') .ret) fr H Γ :=
  fun a v h1 h2 h3 h4=>⟨h1.defers,ret x,hx a v h1 h2 h4,x,v,rfl,rfl,(h2.perm hH).sub,hΓ v h2 h4,h3.subR fun b hb=>by
    have:b∈(H' x++F).map Prod.fst:=by rw[List.map_append];exact List.mem_append_left _ hb
    exact (hH.map Prod.fst).mem_iff.2 this⟩
theorem um_ {fn:Func} {s t:Nat} {ad ad':Addr} {ty ty':TypeId} {u u':Value} {a:Act} {w:World} (hr:fn.results=#[.cell s ty,.cell t ty']) (ha:∀ w,(isAgg ty).run P w=.ok false w) (ha':∀ w,(isAgg ty').run P w=.ok false w) (h1:Fr.sat N fr a) (hs:Fr.get fr s=some (.pointer (some ad))) (ht:Fr.get fr t=some (.pointer (some ad')))
    (hc:w.cell? ad=some u) (hc':w.cell? ad'=some u'):(results fn a.tmps).run P w=.ok (.tuple #[u,u']) w:=by
  have e:=h1.val s _ hs
  have e':=h1.val t _ ht
  simp[results,hr,e,e',asAddr,bH_ ha hc,bH_ ha' hc']
theorem kj_ {b:Nat} {cs:List Value} {T:TypeId} {fz:Nat×Nat} {v:Vw} (j:Nat) {u:Value} (h:(bj_ b (.cells cs.toArray T fz)).p v) (hu:cs[j]? = some u):v.w.cell? ⟨b,j,none⟩=some u:=by
  simp[World.cell?,h.2,hu]
theorem bN_ {t:TypeId} {x:Operand} {b off:Nat} {cs:List Value} {T:TypeId} {fz:Nat×Nat} {u:Value} {ty:TypeId} (ha:∀ w,(isAgg t).run P w=.ok false w) (hx:Fr.ev fr x=some (.pointer (some ⟨b,off,none⟩))) (ho:∀ v,v.sat H→ag_ Γ v→(bj_ b (.cells cs.toArray T fz)).p v) (hu:cs[off]? = some u):Yld P N fr H Γ (.load t x) ty u :=
  fu_ hx fun v h2 h4=>bH_ ha (kj_ off (ho v h2 h4) hu)
end
end Go.Sx
namespace Go.Vs
open Go Go.Sx
namespace Con
def text:Con→Str
  | mk k nm lo hi _ _ ps =>
    if k=1 then [101,118,101,114,121,116,104,105,110,103]
    else if k=2 then [110,111,116,104,105,110,103]
    else if k=3 then nm
    else if k=4 then [123]++nm++[125]
    else if k=5 then Lib.join (operands ps) [32,97,110,100,32]
    else if k=6 then Lib.join [[115,111,109,101],nm,(operands ps).headD []] [32]
    else Lib.join [nm,[105,110],Lib.itoa lo,[116,111],Lib.itoa hi] [32]
where operands:List Con→List Str
  | []=>[]
  | p::ps=>(if p.kind=5 then [40]++text p++[41] else text p)::operands ps
def operand (c:Con):Str:=if c.kind=5 then [40]++c.text++[41] else c.text
theorem jb_:∀ (ps:List Con),text.operands ps=ps.map operand
  | []=>rfl
  | p::ps=>by simp only[text.operands,List.map_cons,jb_ ps,operand]
theorem text_eq (c:Con):c.text =
    if c.kind=1 then [101,118,101,114,121,116,104,105,110,103]
    else if c.kind=2 then [110,111,116,104,105,110,103]
    else if c.kind=3 then c.name
    else if c.kind=4 then [123]++c.name++[125]
    else if c.kind=5 then Lib.join (c.parts.map operand) [32,97,110,100,32]
    else if c.kind=6 then Lib.join [[115,111,109,101],c.name,(c.parts.map operand).headD []] [32]
    else Lib.join [c.name,[105,110],Lib.itoa c.lo,[116,111],Lib.itoa c.hi] [32]:=by
  cases c;simp only[text,jb_];rfl
theorem id_ (sep:Str):∀ (xs:List Str),(Lib.join xs sep).length≤(xs.map fun x=>x.length+sep.length).sum
  | []=>by simp[Lib.join_nil]
  | [x]=>by simp[Lib.join_one]
  | x::y::r=>by
    have h:=id_ sep (y::r)
    have e:Lib.join (x::y::r) sep=x++sep++Lib.join (y::r) sep:=by simp[Lib.join,List.intercalate]
    rw[e]
    simp only[List.length_append,List.map_cons,List.sum_cons]at h ⊢
    omega
def fine (c:Con):Prop:=c.firstErr=0
theorem gG_:∀ {ps:List Con},firstErr.firstErrs ps=0↔∀ p∈ps,p.firstErr=0
 | []=>by simp[firstErr.firstErrs]
 | p::ps=>by
   simp only[firstErr.firstErrs,List.mem_cons,forall_eq_or_imp]
   by_cases h:p.firstErr=0
   · simp[h,gG_ (ps:=ps)]
   · simp[h]
theorem ig_ (c:Con):c.fine↔c.fieldErr=0∧∀ p∈c.parts,p.fine:=by
 unfold fine
 rw[jg_]
 by_cases h:c.fieldErr=0
 ·simp[h,gG_]
 simp[h]
theorem fine_part {c p:Con} (h:c.fine) (hp:p∈c.parts):p.fine:=((ig_ c).1 h).2 p hp
structure Fields (c:Con):Prop where
  k1:1≤c.kind
  k7:c.kind≤7
  nm:c.name.length≤24
  le:(nd c.kind).2.1≤c.parts.length
  mo:c.parts.length≤(nd c.kind).2.2.1
theorem plain_len {s:Str} (h:bk_ s=true):s.length≤24:=by
  unfold bk_ at h
  split at h<;>simp_all
theorem reserved_len {s:Str} (h:cx_ s=true):s.length≤24:=by
  unfold cx_ at h
  simp at h
  omega
theorem fields_of {c:Con} (h:c.fieldErr=0):Fields c:=by
 unfold fieldErr at h
 split at h
 ·cases h
 rename_i h1
 split at h
 ·cases h
 rename_i h2
 split at h
 ·cases h
 split at h
 ·cases h
 split at h
 ·rename_i h5
  simp only[not_or,not_and]at h1 h2
  refine⟨by omega,by omega,?_,by omega,by omega⟩
  rcases h5 with h5|h5|h5
  ·have:=h2.2.2 h5
   simp only[ne_eq,Decidable.not_not]at this
   rw[this];simp
  ·exact plain_len h5
  exact reserved_len h5.2
 cases h
theorem fields {c:Con} (h:c.fine):Fields c:=fields_of ((ig_ c).1 h).1
theorem text_len:∀ (m:Nat) (c:Con),c.sz≤m→c.ok→c.fine→c.text.length+10≤100*c.sz
 | 0,c,h=>by have:=c.sz_pos;omega
 | m+1,c,h=>fun hok hf=>by
   have F:=fields hf
   have hz:=c.sz_pos
   have hpart:∀ p∈c.parts,p.operand.length+8≤100*p.sz:=fun p hp=>by
     have:=text_len m p (by have:=sz_part hp;omega) (ok_part hok hp) (fine_part hf hp)
     unfold operand
     split<;>simp<;>omega
   have hsum:(c.parts.map fun p=>p.operand.length+5).sum≤100*(c.sz - 1):=by
     have key:∀ ps:List Con,(∀ p∈ps,p.operand.length+8≤100*p.sz)→(ps.map fun p=>p.operand.length+5).sum≤100*sz.szs ps:=by
       intro ps
       induction ps with
       | nil=>intro _;simp[sz.szs]
       | cons p ps ih =>
         intro hp
         have h1:=hp p (by simp)
         have h2:=ih fun q hq=>hp q (by simp[hq])
         simp only[List.map_cons,List.sum_cons,sz.szs]
         omega
     have:=key c.parts hpart
     cases c with
     | mk k n l hi a cp ps=>simp only[sz,parts]at this ⊢;omega
   rw[text_eq]
   have hlo:(Lib.itoa c.lo).length≤21:=by cases c;exact Lib.itoa_length_le _ hok.2.2.2.1 hok.2.2.2.2.1
   have hhi:(Lib.itoa c.hi).length≤21:=by cases c;exact Lib.itoa_length_le _ hok.2.2.2.2.2.1 hok.2.2.2.2.2.2.1
   have hnm:=F.nm
   split
   · simp;omega
   · split
     · simp;omega
     · split
       · omega
       · split
         · simp;omega
         · split
           · have:=id_ [32,97,110,100,32] (c.parts.map operand)
             simp only[List.map_map,List.length_cons,List.length_nil]at this
             have e:(c.parts.map ((fun x:Str=>x.length+(0+1+1+1+1+1)) ∘ operand)).sum=(c.parts.map fun p=>p.operand.length+5).sum:=rfl
             rw[e]at this
             omega
           · split
             · rename_i h6
               have h1:1≤c.parts.length:=by have:=F.le;rw[h6]at this;simp[nd,dL_]at this;omega
               obtain⟨p,ps,hps⟩:=List.exists_cons_of_length_pos h1
               have:=id_ [32] [[115,111,109,101],c.name,(c.parts.map operand).headD []]
               simp only[hps,List.map_cons,List.headD_cons,List.map_nil,List.sum_cons,List.sum_nil,List.length_cons,List.length_nil]at this hsum ⊢
               omega
             · have:=id_ [32] [c.name,[105,110],Lib.itoa c.lo,[116,111],Lib.itoa c.hi]
               simp only[List.map_cons,List.map_nil,List.sum_cons,List.sum_nil,List.length_cons,List.length_nil]at this
               omega
theorem mE_:∀ (m:Nat) (c:Con),c.sz≤m→∀ d n,(c.fits d n).1=true→(c.fits d n).2=n+c.sz
 | 0,c,h=>by have:=c.sz_pos;omega
 | m+1,c,h=>fun d n ht=>by
   rw[fits_eq]at ht ⊢
   split at ht
   · cases ht
   · rename_i hc
     rw[if_neg hc]
     have key:∀ ps:List Con,(∀ p∈ps,p.sz≤m)→∀ n,(fits.fitss ps (d+1) n).1=true→(fits.fitss ps (d+1) n).2=n+sz.szs ps:=by
       intro ps
       induction ps with
       | nil=>intro _ n _;simp[fits.fitss,sz.szs]
       | cons p ps ih =>
         intro hp n ht
         simp only[fits.fitss]at ht ⊢
         split at ht
         · rename_i q hq
           have h1:=mE_ m p (hp p (by simp)) (d+1) n (by rw[hq])
           rw[hq]at h1
           have h2:=ih (fun q hq=>hp q (by simp[hq])) q ht
           simp only[sz.szs]
           simp only at h1
           omega
         · cases ht
     have:=key c.parts (fun p hp=>by have:=sz_part hp;omega) (n+1) ht
     rw[this]
     cases c with
     | mk k nn l hi a cp ps=>simp only[sz,parts];omega
theorem check_zero {c:Con} (h:c.check=0):c.fine∧c.sz≤64:=by
 unfold check at h
 split at h
 ·rename_i hf
  have h1:=mE_ _ c (Nat.le_refl _) 0 0 hf
  have h2:=mF_ _ c (Nat.le_refl _) 0 0 hf
  exact⟨h,by omega⟩
 cases h
def textN (c:Con):Str:=if c.check=0 then c.text else []
theorem textN_len {c:Con} (hok:c.ok):c.textN.length≤6400:=by
 unfold textN
 split
 ·rename_i h
  obtain⟨h1,h2⟩:=check_zero h
  have:=text_len _ c (Nat.le_refl _) hok h1
  omega
 simp
def operandN (c:Con):Str:=if c.kind=5 then [40]++c.textN++[41] else c.textN
def atom (c:Con):Str :=
  if c.kind=1 then [42] else if c.kind=2 then [33] else if c.kind=3 then c.name else if c.kind=4 then [123]++c.name++[125] else [60]++c.textN++[62]
end Con
theorem le_ {cur:Array Value} {n:Nat} {xs:List Str} (h:cur.toList.take (n*1)=xs.flatMap aJ_):∀ (j:Nat) (x:Str),xs[j]? = some x→cur[j]? = some (str x):=by
 intro j x hj
 have h1:=o_ ak_ hj 0 (str x) rfl
 rw[← h,Nat.mul_one,Nat.add_zero]at h1
 rw[List.getElem?_take]at h1
 split at h1
 ·simpa using h1
 cases h1
theorem pN_ (xs:List Str):∀ (j:Nat) (x:Str),xs[j]? = some x→(xs.map str).toArray[j]? = some (str x):=by
  intro j x hj
  simp[hj]
end Go.Vs
namespace Go.Sx
open Go
section
variable {P:Program}
theorem qr_ {d:Nat} {xs ys:Array Value} (w:World):(Op.eqFields d xs ys []).run P w=.ok true w:=by simp[Op.eqFields]
theorem dp_ {d : Nat} {xs ys : Array Value} {f : Field} {fs : List Field} {a b : Value} {r s : Bool} {w : World} (hn : (f.name == "_") = false) (hg : ∀ w, (isAgg f.type).run P w = .ok false w) (ha : xs[f.offset]? = some a) (hb : ys[f.offset]? = some b)
    (he:(Op.equalIn d f.type a b).run P w=.ok r w) (hr:(Op.eqFields d xs ys fs).run P w=.ok s w):(Op.eqFields d xs ys (f::fs)).run P w=.ok (r&&s) w:=by
  have hn' : f.name ≠ "_" := by simpa using hn
  simp only[Op.eqFields,hn',ne_eq,not_false_eq_true,if_true,part,Sem.run_bind,hg,Result.andThen_ok,Bool.false_eq_true,if_false,ha,hb,Sem.run_pure,he]
  cases r
  · simp
  · simpa using hr
theorem eqI {d:Nat} {t:TypeId} {k:IntKind} {a b:Int} (h:P.underlying t=some (.int k)) (w:World):(Op.equalIn (d+1) t (.int k a) (.int k b)).run P w=.ok (a==b) w:=run_equalIn_int w d t k k a b h
theorem eqS {d:Nat} {t:TypeId} {a b:List UInt8} (h:P.underlying t=some .string) (w:World):(Op.equalIn (d+1) t (str a) (str b)).run P w=.ok (a==b) w:=by
  have:=run_equalIn_string w d t ⟨a.toArray⟩ ⟨b.toArray⟩ h
  simp only[ByteArray.toList_eq]at this
  exact this
theorem ckF {e : Bool} {n : Nat} {t : TypeId} {fs : Array Field} {xs : Array Value} {w : World} (hu : P.underlying t = some (.struct fs)) (h : ∀ f ∈ fs.toList, (f.name == "_") = false ∧ (∀ w, (isAgg f.type).run P w = .ok false w) ∧ ∃ a, xs[f.offset]? = some a ∧ (∀ w, (Instr.checkKey e n f.type a).run P w = .ok () w)) :
    (Instr.checkKey e (n+1) t (.agg xs)).run P w=.ok () w:=by
  simp only[Instr.checkKey,Sem.run_bind,run_underlying hu,Result.andThen_ok]
  rw[← Array.forIn_toList]
  generalize fs.toList=l at h
  induction l with
  | nil=>simp
  | cons f l ih =>
    obtain⟨h1,h2,a,h3,h4⟩:=h f (by simp)
    have hn' : f.name ≠ "_" := by simpa using h1
    simp only[List.forIn_cons,hn',ne_eq,not_false_eq_true,if_true,part,Sem.run_bind,h2,Result.andThen_ok,Bool.false_eq_true,if_false,h3,Sem.run_pure,h4]
    exact ih fun g hg=>h g (by simp[hg])
theorem ih_ {α:Type} [DecidableEq α] {k:TypeId} {fs:Array Field} {val:α→Value} (hu:P.underlying k=some (.struct fs)) (heq:∀ p q w,(Op.equal k (val p) (val q)).run P w=.ok (decide (p=q)) w) (p:α) :
    ∀ (l:List α) (es:List MapEntry) (i:Nat),es.map (·.key)=l.map val→(p ∉ l→∀ w,(Instr.findAsking k (val p) es i).run P w=.ok none w)∧(p∈l→(∀ x∈es,x.val=.bool true)→∃ j,∀ w,(Instr.findAsking k (val p) es i).run P w=.ok (some (j,.bool true)) w)
  | [],es,i,h=>by
    have:es=[]:=by simpa using h
    subst this
    simp[Instr.findAsking]
  | q::l,[],i,h=>by simp at h
  | q::l,e::es,i,h=>by
    simp only[List.map_cons,List.cons.injEq]at h
    have ih:=ih_ hu heq p l es (i+1) h.2
    by_cases hpq:p=q
    · subst hpq
      refine⟨fun hn=>absurd List.mem_cons_self hn,fun _ hv=>⟨i,fun w=>?_⟩⟩
      simp only[Instr.findAsking,Sem.run_bind,h.1,heq,Result.andThen_ok,decide_true,if_true,Sem.run_pure,hv e (by simp)]
    · refine⟨fun hn w=>?_,fun hm hv=>?_⟩
      · simp only[Instr.findAsking,Sem.run_bind,h.1,heq,Result.andThen_ok,hpq,decide_false,Bool.false_eq_true,if_false]
        exact ih.1 (fun h=>hn (List.mem_cons_of_mem _ h)) w
      · obtain⟨j,hj⟩:=ih.2 (by simpa [hpq] using hm) fun x hx=>hv x (by simp[hx])
        refine⟨j,fun w=>?_⟩
        simp only[Instr.findAsking,Sem.run_bind,h.1,heq,Result.andThen_ok,hpq,decide_false,Bool.false_eq_true,if_false]
        exact hj w
theorem gb_ {α:Type} [DecidableEq α] {k:TypeId} {fs:Array Field} {val:α→Value} (hu:P.underlying k=some (.struct fs)) (heq:∀ p q w,(Op.equal k (val p) (val q)).run P w=.ok (decide (p=q)) w) (p:α) (l:List α) (es:List MapEntry) (h:es.map (·.key)=l.map val) :
    (p ∉ l→cP_ P k (val p) es none)∧(p∈l→(∀ x∈es,x.val=.bool true)→∃ j,cP_ P k (val p) es (some (j,.bool true))):=by
  have hA:=ih_ hu heq p l es 0 h
  have hnow:∀ (e:MapEntry) (r:List MapEntry),Instr.findNow (.struct fs) (val p) (e::r) 0=none:=fun e r=>by simp[Instr.findNow,Instr.sameNow]
  cases es with
  | nil =>
    have:l=[]:=by simpa using h.symm
    subst this
    exact⟨fun _ w=>by simp[Instr.findKey,run_underlying hu,Instr.findNow],fun h=>by simp at h⟩
  | cons e r =>
    refine⟨fun hn w=>?_,fun hm hv=>?_⟩
    · simp only[Instr.findKey,Sem.run_bind,run_underlying hu,Result.andThen_ok,hnow]
      exact hA.1 hn w
    · obtain⟨j,hj⟩:=hA.2 hm hv
      refine⟨j,fun w=>?_⟩
      simp only[Instr.findKey,Sem.run_bind,run_underlying hu,Result.andThen_ok,hnow]
      exact hj w
end
end Go.Sx
namespace Go.Vs
open Go Go.Sx
structure Pc where
  kind:Int
  a:Str
  b:Str
  c:Str
  r:Str
  s:Str
  t:Str
  lo:Int
  hi:Int
  frm:Int
  deriving DecidableEq
namespace Pc
def cells (p:Pc):List Value:=[.int .i64 p.kind,str p.a,str p.b,str p.c,str p.r,str p.s,str p.t,.int .i64 p.lo,.int .i64 p.hi,.int .i64 p.frm]
def val (p:Pc):Value:=.agg p.cells.toArray
theorem cells_len (p:Pc):p.cells.length=10:=rfl
theorem cells_one (p:Pc):p.cells.all Value.oneCell'=true:=rfl
def eqb (p q:Pc):Bool:=(p.kind==q.kind)&&((p.a==q.a)&&((p.b==q.b)&&((p.c==q.c)&&((p.r==q.r)&&((p.s==q.s)&&((p.t==q.t)&&((p.lo==q.lo)&&((p.hi==q.hi)&&((p.frm==q.frm)&&true)))))))))
theorem eqb_eq (p q:Pc):p.eqb q=decide (p=q):=by
  rw[Bool.eq_iff_iff]
  cases p;cases q
  simp[eqb]
end Pc
def ins (frm:Int) (l:List Pc) (p:Pc):List Pc:=if { p with frm:=frm }∈l then l else l++[{ p with frm:=frm }]
theorem aT_ (frm:Int) (l:List Pc) (p:Pc):(ins frm l p).length≤l.length+1:=by unfold ins;split<;>simp
structure Fc where
  kind:Int
  a:Str
  b:Str
  r:Str
  lo:Int
  hi:Int
  deriving DecidableEq
namespace Fc
def cells (p:Fc):List Value:=[.int .i64 p.kind,str p.a,str p.b,str p.r,.int .i64 p.lo,.int .i64 p.hi]
def val (p:Fc):Value:=.agg p.cells.toArray
theorem cells_len (p:Fc):p.cells.length=6:=rfl
def eqb (p q:Fc):Bool:=(p.kind==q.kind)&&((p.a==q.a)&&((p.b==q.b)&&((p.r==q.r)&&((p.lo==q.lo)&&((p.hi==q.hi)&&true)))))
theorem eqb_eq (p q:Fc):p.eqb q=decide (p=q):=by
  rw[Bool.eq_iff_iff]
  cases p;cases q
  simp[eqb]
end Fc
end Go.Vs
namespace Go.Sx
open Go
theorem aA_ {P:Program} {N:Nf} {fr:Fr} {H:Hp} {Γ:List Fct} {op:Op} {ty:TypeId} {x y:Value} (h:Yld P N fr H Γ op ty x) (e:x=y):Yld P N fr H Γ op ty y:=e▸h
theorem ql_ {α:Type} (f:α→List Value) (n:Nat) (hf:∀ x,(f x).length=n):∀ (l:List α) (i:Nat),(l.flatMap f).drop (i*n)=(l.drop i).flatMap f
  | l,0=>by simp
  | [],i+1=>by simp
  | x::l,i+1=>by
    simp only[List.flatMap_cons,List.drop_succ_cons]
    rw[← ql_ f n hf l i,List.drop_append,hf,List.drop_of_length_le (by rw[hf,Nat.add_mul];omega),List.nil_append]
    congr 1
    rw[Nat.add_mul];omega
theorem jy_ {α:Type} (f:α→List Value) (n:Nat) (hf:∀ x,(f x).length=n):∀ (l:List α) (i:Nat),(l.flatMap f).take (i*n)=(l.take i).flatMap f
  | l,0=>by simp
  | [],i+1=>by simp
  | x::l,i+1=>by
    simp only[List.flatMap_cons,List.take_succ_cons]
    rw[← jy_ f n hf l i,List.take_append,hf,List.take_of_length_le (by rw[hf,Nat.add_mul];omega)]
    congr 2
    rw[Nat.add_mul];omega
theorem bA_.slice {α:Type} {f:α→List Value} {n:Nat} (hf:∀ x,(f x).length=n) {v:Vw} {ad:Option Addr} {l:List α} {cap:Nat} (h:bA_ v ad (l.flatMap f)) (hc:l.length≤cap) (i k:Nat):bA_ v (Sx.sad ad cap i n) (((l.drop i).take k).flatMap f):=by
 refine h.sad _ (fun j x hj=>?_) (by rw[ey_ f n hf];exact Nat.mul_le_mul_right _ hc)
 rw[← jy_ f n hf,← ql_ f n hf,List.getElem?_take]at hj
 split at hj
 ·rwa [List.getElem?_drop]at hj
 cases hj
end Go.Sx
namespace Go.Vs
open Go Go.Sx
namespace Con
def pre (c:Con) (j:Nat):Con:=.mk 5 [] 0 0 (sad c.ad c.cap 0 5) (c.cap - 0) (c.parts.take j)
theorem pre_mem {c:Con} (hok:c.ok) {v:Vw} (h:c.mem v) (j:Nat):(c.pre j).mem v:=by
  rw[mem_iff]at h ⊢
  refine⟨?_,fun p hp=>h.2 p (List.mem_of_mem_take hp)⟩
  have:=h.1.slice cells_len (ok_len hok).1 0 j
  exact this
theorem pre_ok {c:Con} (hok:c.ok) (j:Nat):(c.pre j).ok:=by
 have h:=ok_len hok
 refine⟨by decide,by decide,by simp,by decide,by decide,by decide,by decide,?_,?_,oks_iff.2 fun p hp=>ok_part hok (List.mem_of_mem_take hp)⟩
 ·simp;omega
 rw[List.length_take];omega
def andP (frm:Int) (c:Con):List Con→Nat→Str→List Pc→List Pc
  | [],_,_,l=>l
  | p::r,j,f,l=>andP frm c r (j+1) (c.pre (j+1)).atom (ins frm l ⟨2,f,p.atom,(c.pre (j+1)).atom,[],[],[],0,0,0⟩)
theorem ou_ (frm:Int) (c:Con):∀ (r:List Con) (j:Nat) (f:Str) (l:List Pc),(andP frm c r j f l).length≤l.length+r.length
  | [],_,_,l=>by simp[andP]
  | p::r,j,f,l=>by
    have h1:=ou_ frm c r (j+1) (c.pre (j+1)).atom (ins frm l ⟨2,f,p.atom,(c.pre (j+1)).atom,[],[],[],0,0,0⟩)
    have h2:=aT_ frm l ⟨2,f,p.atom,(c.pre (j+1)).atom,[],[],[],0,0,0⟩
    simp only[andP,List.length_cons]
    omega
def leftP (frm:Int):Con→List Pc→List Pc
  | c@(mk k nm lo hi _ _ ps),l =>
    if k=5 then andP frm c (ps.drop 1) 1 ((ps.map atom).headD []) (lefts frm ps l)
    else if k=6 then ins frm (lefts frm ps l) ⟨4,(ps.map atom).headD [],[],c.atom,nm,[],[],0,0,0⟩
    else if k=7 then ins frm l ⟨9,[],[],c.atom,nm,[],[],lo,hi,0⟩
    else l
where lefts (frm:Int):List Con→List Pc→List Pc
  | [],l=>l
  | p::ps,l=>lefts frm ps (leftP frm p l)
theorem leftP_eq (frm:Int) (c:Con) (l:List Pc):c.leftP frm l =
    if c.kind=5 then andP frm c (c.parts.drop 1) 1 ((c.parts.map atom).headD []) (leftP.lefts frm c.parts l)
    else if c.kind=6 then ins frm (leftP.lefts frm c.parts l) ⟨4,(c.parts.map atom).headD [],[],c.atom,c.name,[],[],0,0,0⟩
    else if c.kind=7 then ins frm l ⟨9,[],[],c.atom,c.name,[],[],c.lo,c.hi,0⟩
    else l:=by cases c;simp only[leftP];rfl
theorem ic_ (frm:Int):∀ (xs ys:List Con) (l:List Pc),leftP.lefts frm (xs++ys) l=leftP.lefts frm ys (leftP.lefts frm xs l)
  | [],_,_=>rfl
  | x::xs,ys,l=>by simp only[List.cons_append,leftP.lefts];exact ic_ frm xs ys _
theorem lefts_step (frm:Int) {ps:List Con} {p:Con} {i:Nat} (hp:ps[i]? = some p) (l:List Pc):leftP.lefts frm (ps.take (i+1)) l=p.leftP frm (leftP.lefts frm (ps.take i) l):=by
  rw[take_snoc hp,ic_];rfl
theorem szs_len:∀ ps:List Con,ps.length≤sz.szs ps
  | []=>by simp[sz.szs]
  | p::ps=>by have:=szs_len ps;have:=p.sz_pos;simp only[sz.szs,List.length_cons];omega
theorem leftP_len (frm:Int):∀ (m:Nat) (c:Con),c.sz≤m→∀ l,(c.leftP frm l).length+2≤l.length+2*c.sz+0+1
 | 0,c,h=>by have:=c.sz_pos;omega
 | m+1,c,h=>fun l=>by
   have key:∀ ps:List Con,(∀ p∈ps,p.sz≤m)→∀ l,(leftP.lefts frm ps l).length+ps.length≤l.length+2*sz.szs ps:=by
     intro ps
     induction ps with
     | nil=>intro _ l;simp[leftP.lefts]
     | cons p ps ih =>
       intro hp l
       have h1:=leftP_len frm m p (hp p (by simp)) l
       have h2:=ih (fun q hq=>hp q (by simp[hq])) (p.leftP frm l)
       simp only[leftP.lefts,sz.szs,List.length_cons]
       omega
   have hk:=key c.parts (fun p hp=>by have:=sz_part hp;omega) l
   have hsz:c.sz=1+sz.szs c.parts:=by cases c;simp only[sz,parts]
   have hl:=szs_len c.parts
   rw[leftP_eq]
   split
   · have:=ou_ frm c (c.parts.drop 1) 1 ((c.parts.map atom).headD []) (leftP.lefts frm c.parts l)
     simp only[List.length_drop]at this
     omega
   · split
     · have:=aT_ frm (leftP.lefts frm c.parts l) ⟨4,(c.parts.map atom).headD [],[],c.atom,c.name,[],[],0,0,0⟩
       omega
     · split
       · have:=aT_ frm l ⟨9,[],[],c.atom,c.name,[],[],c.lo,c.hi,0⟩
         omega
       · omega
def rightP (frm:Int):Con→List Pc→List Pc
  | c@(mk k nm lo hi _ _ ps),l =>
    if k=5 then rights frm c.atom ps l
    else if k=6 then righty frm ps (ins frm l ⟨3,c.atom,[],(ps.map atom).headD [],nm,[],[],0,0,0⟩)
    else if k=7 then ins frm l ⟨8,c.atom,[],[],nm,[],[],lo,hi,0⟩
    else l
where
  rights (frm:Int) (a:Str):List Con→List Pc→List Pc
  | [],l=>l
  | p::ps,l=>rights frm a ps (rightP frm p (ins frm l ⟨1,a,[],p.atom,[],[],[],0,0,0⟩))
  righty (frm:Int):List Con→List Pc→List Pc
  | [],l=>l
  | p::ps,l=>righty frm ps (rightP frm p l)
theorem rightP_eq (frm:Int) (c:Con) (l:List Pc):c.rightP frm l =
    if c.kind=5 then rightP.rights frm c.atom c.parts l
    else if c.kind=6 then rightP.righty frm c.parts (ins frm l ⟨3,c.atom,[],(c.parts.map atom).headD [],c.name,[],[],0,0,0⟩)
    else if c.kind=7 then ins frm l ⟨8,c.atom,[],[],c.name,[],[],c.lo,c.hi,0⟩
    else l:=by cases c;simp only[rightP];rfl
theorem he_ (frm:Int) (a:Str):∀ (xs ys:List Con) (l:List Pc),rightP.rights frm a (xs++ys) l=rightP.rights frm a ys (rightP.rights frm a xs l)
  | [],_,_=>rfl
  | x::xs,ys,l=>by simp only[List.cons_append,rightP.rights];exact he_ frm a xs ys _
theorem rights_step (frm:Int) (a:Str) {ps:List Con} {p:Con} {i:Nat} (hp:ps[i]? = some p) (l:List Pc):rightP.rights frm a (ps.take (i+1)) l=p.rightP frm (ins frm (rightP.rights frm a (ps.take i) l) ⟨1,a,[],p.atom,[],[],[],0,0,0⟩):=by
  rw[take_snoc hp,he_];rfl
theorem rightP_len (frm:Int):∀ (m:Nat) (c:Con),c.sz≤m→∀ l,(c.rightP frm l).length+1≤l.length+2*c.sz
 | 0,c,h=>by have:=c.sz_pos;omega
 | m+1,c,h=>fun l=>by
   have key:∀ ps:List Con,(∀ p∈ps,p.sz≤m)→∀ a l,(rightP.rights frm a ps l).length≤l.length+2*sz.szs ps:=by
     intro ps
     induction ps with
     | nil=>intro _ a l;simp[rightP.rights,sz.szs]
     | cons p ps ih =>
       intro hp a l
       have h0:=aT_ frm l ⟨1,a,[],p.atom,[],[],[],0,0,0⟩
       have h1:=rightP_len frm m p (hp p (by simp)) (ins frm l ⟨1,a,[],p.atom,[],[],[],0,0,0⟩)
       have h2:=ih (fun q hq=>hp q (by simp[hq])) a (p.rightP frm (ins frm l ⟨1,a,[],p.atom,[],[],[],0,0,0⟩))
       simp only[rightP.rights,sz.szs]
       omega
   have key2:∀ ps:List Con,(∀ p∈ps,p.sz≤m)→∀ l,(rightP.righty frm ps l).length≤l.length+2*sz.szs ps:=by
     intro ps
     induction ps with
     | nil=>intro _ l;simp[rightP.righty,sz.szs]
     | cons p ps ih =>
       intro hp l
       have h1:=rightP_len frm m p (hp p (by simp)) l
       have h2:=ih (fun q hq=>hp q (by simp[hq])) (p.rightP frm l)
       simp only[rightP.righty,sz.szs]
       omega
   have hps:∀ p∈c.parts,p.sz≤m:=fun p hp=>by have:=sz_part hp;omega
   have hsz:c.sz=1+sz.szs c.parts:=by cases c;simp only[sz,parts]
   rw[rightP_eq]
   split
   · have:=key c.parts hps c.atom l;omega
   · split
     · have h0:=aT_ frm l ⟨3,c.atom,[],(c.parts.map atom).headD [],c.name,[],[],0,0,0⟩
       have:=key2 c.parts hps (ins frm l ⟨3,c.atom,[],(c.parts.map atom).headD [],c.name,[],[],0,0,0⟩)
       omega
     · split
       · have:=aT_ frm l ⟨8,c.atom,[],[],c.name,[],[],c.lo,c.hi,0⟩
         omega
       · omega
end Con
end Go.Vs
namespace Go.Sx
open Go
theorem bA_.rest {α:Type} {f:α→List Value} {n:Nat} (hf:∀ x,(f x).length=n) {v:Vw} {ad:Option Addr} {l:List α} {cap:Nat} (h:bA_ v ad (l.flatMap f)) (hc:l.length≤cap) (i:Nat):bA_ v (Sx.sad ad cap i n) ((l.drop i).flatMap f):=by
  have:=h.slice hf hc i l.length
  rwa [List.take_of_length_le (by simp)]at this
theorem ik_ {α:Type} {l:List α} {x:α} {i:Nat} (hp:l[i]? = some x):l.drop i=x::l.drop (i+1):=by
  have hi:=(List.getElem?_eq_some_iff.1 hp).1
  rw[List.getElem?_eq_getElem hi]at hp
  simp only[Option.some.injEq]at hp
  subst hp
  exact List.drop_eq_getElem_cons hi
theorem od_ {α:Type} {l:List α} {x d:α} (hp:l[0]? = some x):l.headD d=x:=by cases l<;>simp_all
end Go.Sx
namespace Go.Vs
open Go Go.Sx
namespace Ax
def chainP (frm:Int) (role:Str):List Str→Str→List Pc→List Pc
  | [],_,l=>l
  | r::t,f,l =>
    let all:=if t=[] then role else f++[46]++r
    chainP frm role t all (ins frm l ⟨6,[],[],[],f,r,all,0,0,0⟩)
def pieces (frm:Int) (x:Ax):List Pc :=
  if x.kind=1 then ins frm (x.right.rightP frm (x.left.leftP frm [])) ⟨1,x.left.atom,[],x.right.atom,[],[],[],0,0,0⟩
  else if x.kind=2 then
    ins frm (x.left.rightP frm (x.right.leftP frm (ins frm (x.right.rightP frm (x.left.leftP frm [])) ⟨1,x.left.atom,[],x.right.atom,[],[],[],0,0,0⟩))) ⟨1,x.right.atom,[],x.left.atom,[],[],[],0,0,0⟩
  else if x.kind=3 then ins frm (x.right.leftP frm (x.left.leftP frm [])) ⟨2,x.left.atom,x.right.atom,[33],[],[],[],0,0,0⟩
  else if x.kind=4 then ins frm (x.right.rightP frm []) ⟨4,[42],[],x.right.atom,x.role,[],[],0,0,0⟩
  else if x.kind=5 then ins frm [] ⟨5,[],[],[],x.roles.headD [],[],x.role,0,0,0⟩
  else if x.kind=6 then chainP frm x.role (x.roles.drop 1) (x.roles.headD []) []
  else if x.kind=7 then ins frm [] ⟨7,[],[],[],x.role,[],[],0,0,0⟩
  else if x.kind=8 then ins frm (x.right.rightP frm []) ⟨1,[123]++x.a++[125],[],x.right.atom,[],[],[],0,0,0⟩
  else ins frm [] ⟨3,[123]++x.a++[125],[],[123]++x.b++[125],x.role,[],[],0,0,0⟩
structure Good (x:Ax):Prop where
  k1:1≤x.kind
  k9:x.kind≤9
  left:x.kind≤3→x.left.check=0
  right:x.kind≤4∨x.kind=8→x.right.check=0
  role:x.kind=4∨x.kind=5∨x.kind=6∨x.kind=7∨x.kind=9→bk_ x.role=true
  roles:∀ r∈x.roles,bk_ r=true
  one:x.kind=5→x.roles.length=1
  chain:x.kind=6→2≤x.roles.length∧x.roles.length≤4
  a:x.kind=8∨x.kind=9→aQ_ x.a=true
  b:x.kind=9→aQ_ x.b=true
theorem good_of {x:Ax} (h:x.check=0):Good x:=by
 unfold check at h
 split at h
 ·cases h
 rename_i hs
 split at h
 ·cases h
 rename_i hn
 split at h
 ·rename_i h1;exact absurd h h1.2
 rename_i h1
 split at h
 ·rename_i h2;exact absurd h h2.2
 rename_i h2
 clear h
 simp only[Bool.not_eq_false]at hs hn
 have hk:1≤x.kind∧x.kind≤9:=by
   unfold shaped at hs
   split at hs
   · cases hs
   · rename_i hh;simp only[not_or]at hh;omega
 have hk':x.kind=1∨x.kind=2∨x.kind=3∨x.kind=4∨x.kind=5∨x.kind=6∨x.kind=7∨x.kind=8∨x.kind=9:=by omega
 unfold shaped at hs
 rw[if_neg (by omega)]at hs
 have hr:∀ r∈x.roles,bk_ r=true:=by
   unfold namedU at hn
   simp only[Bool.and_eq_true]at hn
   exact fun r hr=>List.all_eq_true.1 hn.2 r hr
 unfold namedU at hn
 rcases hk' with e|e|e|e|e|e|e|e|e<;>simp[us,nj_,e]at hs hn h1 h2 <;>
   refine⟨by omega,by omega,fun _=>?_,fun _=>?_,fun _=>?_,hr,fun _=>?_,fun _=>?_,fun _=>?_,fun _=>?_⟩ <;>
   first|omega|assumption|exact hn.1|exact hn.2.1|exact hn.2.2.1|(simp_all;done)|(exact⟨by omega,by omega⟩)
end Ax
end Go.Vs
namespace Go.Vs
open Go Go.Sx
def Clw {α:Type} (E:α→α→Bool→Prop) (n:Nat) (f:Nat→α) (c:Nat→Bool):Prop :=
  0<n∧f n=f 0∧(∀ m,m<n→E (f m) (f (m+1)) (c m))∧∃ m,m<n∧c m=true
def Clo {α:Type} (E:α→α→Bool→Prop) (n:Nat):Prop:=∃ (f:Nat→α) (c:Nat→Bool),Clw E n f c
theorem sW_ {p:Nat→Prop} {n:Nat} (h:p n):∃ m,p m∧m≤n∧∀ k,p k→m≤k:=by
 induction n using Nat.strongRecOn with
 | ind n ih =>
   by_cases g:∃ k,k<n∧p k
   · obtain⟨k,hk,hp⟩:=g
     obtain⟨m,h1,h2,h3⟩:=ih k hk hp
     exact⟨m,h1,by omega,h3⟩
   · exact⟨n,h,Nat.le_refl _,fun k hk=>Nat.not_lt.1 fun hl=>g ⟨k,hl,hk⟩⟩
theorem Clw.inj {α:Type} {E:α→α→Bool→Prop} {n:Nat} {f:Nat→α} {c:Nat→Bool} (h:Clw E n f c) (hm:∀ k,Clo E k→n≤k):∀ a b,a<b→b<n→f a≠f b:=by
 intro a b hab hbn e
 obtain⟨_,h0,hE,m0,hm0,hc⟩:=h
 by_cases g:a≤m0∧m0<b
 ·have:=hm (b - a) ⟨fun m=>f (a+m),fun m=>c (a+m),by omega,by simp only[Nat.add_zero];rw[show a+(b - a)=b by omega,e],fun m hmm=>by
    have:=hE (a+m) (by omega)
    rwa [Nat.add_assoc]at this,m0 - a,by omega,by dsimp only;rw[show a+(m0 - a)=m0 by omega];exact hc⟩
  omega
 have:=hm (n - (b - a)) ⟨fun m=>if m<a then f m else f (m+(b - a)),fun m=>if m<a then c m else c (m+(b - a)),by omega,?_,?_,?_⟩
 ·omega
 ·dsimp only
  rw[if_neg (by omega),show n - (b - a)+(b - a)=n by omega,h0]
  by_cases ha:0<a
  ·rw[if_pos ha]
  rw[if_neg ha,show 0+(b - a)=b by omega,← e,show a=0 by omega]
 ·intro m hmm
  dsimp only
  by_cases h1:m<a
  ·rw[if_pos h1,if_pos h1]
   by_cases h2:m+1<a
   ·rw[if_pos h2];exact hE m (by omega)
   rw[if_neg h2,show m+1+(b - a)=b by omega,← e,show a=m+1 by omega];exact hE m (by omega)
  rw[if_neg h1,if_neg h1,if_neg (by omega)]
  have:=hE (m+(b - a)) (by omega)
  rwa [show m+(b - a)+1=m+1+(b - a) by omega]at this
 by_cases h1:m0<a
 ·exact⟨m0,by omega,by dsimp only;rw[if_pos h1];exact hc⟩
 exact⟨m0 - (b - a),by omega,by dsimp only;rw[if_neg (by omega),show m0 - (b - a)+(b - a)=m0 by omega];exact hc⟩
def sig (c:Nat→Bool):Nat→Bool
  | 0=>false
  | n+1=>sig c n||c n
theorem gw_ {c:Nat→Bool}:∀ {n:Nat},sig c n=true↔∃ m,m<n∧c m=true
 | 0=>by simp[sig]
 | n+1=>by
   simp only[sig,Bool.or_eq_true,gw_ (n:=n)]
   constructor
   · rintro (⟨m,h1,h2⟩|h)
     · exact⟨m,by omega,h2⟩
     · exact⟨n,by omega,h⟩
   · rintro ⟨m,h1,h2⟩
     by_cases e:m=n
     · subst e;exact .inr h2
     · exact .inl ⟨m,by omega,h2⟩
theorem lh_ {c d:Nat→Bool}:∀ {n:Nat},(∀ m,m<n→c m=d m)→sig c n=sig d n
  | 0,_=>rfl
  | n+1,h=>by simp only[sig];rw[lh_ (n:=n) fun m hm=>h m (by omega),h n (by omega)]
def Wlk {α:Type} (E:α→α→Bool→Prop) (x y:α) (b:Bool) (n:Nat):Prop :=
  ∃ (f:Nat→α) (c:Nat→Bool),f 0=x∧f n=y∧(∀ m,m<n→E (f m) (f (m+1)) (c m))∧sig c n=b
theorem Wlk.nil {α:Type} {E:α→α→Bool→Prop} (x:α):Wlk E x x false 0:=⟨fun _=>x,fun _=>false,rfl,rfl,fun m h=>absurd h (by omega),rfl⟩
theorem Wlk.snoc {α:Type} {E:α→α→Bool→Prop} {x y z:α} {b d:Bool} {n:Nat} (h:Wlk E x y b n) (e:E y z d):Wlk E x z (b||d) (n+1):=by
 obtain⟨f,c,h1,h2,h3,h4⟩:=h
 refine⟨fun m=>if m≤n then f m else z,fun m=>if m<n then c m else d,?_,?_,?_,?_⟩
 ·simp[h1]
 ·dsimp only;rw[if_neg (by omega)]
 ·intro m hm
  by_cases g:m<n
  ·dsimp only;rw[if_pos (by omega),if_pos (by omega),if_pos g];exact h3 m g
  obtain rfl:m=n:=by omega
  dsimp only;rw[if_pos (by omega),if_neg (by omega),if_neg g,h2];exact e
 simp only[sig,Nat.lt_irrefl,if_false]
 rw[lh_ (d:=c) fun m hm=>by rw[if_pos hm],h4]
theorem Wlk.clo {α:Type} {E:α→α→Bool→Prop} {x:α} {n:Nat} (h:Wlk E x x true n):Clo E n:=by
  obtain⟨f,c,h1,h2,h3,h4⟩:=h
  obtain⟨m,hm,hc⟩:=gw_.1 h4
  exact⟨f,c,by omega,by rw[h1,h2],h3,m,hm,hc⟩
theorem Clw.subst {α:Type} {E:α→α→Bool→Prop} {n j:Nat} {f:Nat→α} {c:Nat→Bool} (h:Clw E n f c) (hj:j<n) {g:Nat→α} {d:Nat→Bool} (h0:g 0=f 0) (h1:g j=f j) (hE:∀ m,m<j→E (g m) (g (m+1)) (d m)) (hs:sig d j=sig c j) :
    Clw E n (fun m=>if m≤j then g m else f m) (fun m=>if m<j then d m else c m):=by
  obtain⟨hn,hc0,hE',m0,hm0,hc⟩:=h
  refine⟨hn,?_,fun m hm=>?_,?_⟩
  · dsimp only;rw[if_neg (by omega),if_pos (by omega),hc0,h0]
  · dsimp only
    by_cases g1:m<j
    · rw[if_pos (by omega),if_pos (by omega),if_pos g1];exact hE m g1
    · by_cases g2:m=j
      · subst g2;rw[if_pos (by omega),if_neg (by omega),if_neg g1,h1];exact hE' m hm
      · rw[if_neg (by omega),if_neg (by omega),if_neg g1];exact hE' m hm
  · by_cases g1:m0<j
    · have:sig d j=true:=by rw[hs];exact gw_.2 ⟨m0,g1,hc⟩
      obtain⟨m,hm,hd⟩:=gw_.1 this
      exact⟨m,by omega,by dsimp only;rw[if_pos hm];exact hd⟩
    · exact⟨m0,hm0,by dsimp only;rw[if_neg g1];exact hc⟩
structure Wy where
  role:Nat
  strict:Bool
  before:Nat
  many:Nat
def gE (G:List (List (Nat×Bool))) (i j:Nat) (c:Bool):Prop:=∃ l,G[i]? = some l∧(j,c)∈l
def jo_ (W:List Wy) (r:Nat) (b:Bool):Bool:=W.any fun w=>w.role==r&&w.strict==b
theorem lE_ {W:List Wy} {r:Nat} {b:Bool}:jo_ W r b=true↔∃ w∈W,w.role=r∧w.strict=b:=by
  unfold jo_
  rw[List.any_eq_true]
  simp only[Bool.and_eq_true,beq_iff_eq]
def Dn (start:Nat) (W:List Wy) (w:Wy) (s:Nat×Bool):Prop :=
  ¬(s.1=start∧(w.strict||s.2)=true)∧∃ w'∈W,w'.role=s.1∧w'.strict=(w.strict||s.2)∧w'.many≤w.many+1
theorem Dn.mono {start:Nat} {W V:List Wy} {w:Wy} {s:Nat×Bool} (h:Dn start W w s) (hs:∀ x∈W,x∈V):Dn start V w s:=by
  obtain⟨h1,w',h2,h3⟩:=h
  exact⟨h1,w',hs _ h2,h3⟩
structure BI (G:List (List (Nat×Bool))) (start:Nat) (W:List Wy) (a k:Nat):Prop where
  z:W[0]? = some ⟨start,false,0,0⟩
  role:∀ (i:Nat) (w:Wy),W[i]? = some w→w.role<G.length
  bef:∀ (i:Nat) (w:Wy),W[i]? = some w→0<i→w.before<i
  wlk:∀ (i:Nat) (w:Wy),W[i]? = some w→Wlk (gE G) start w.role w.strict w.many
  mono:∀ (i j:Nat) (w x:Wy),i≤j→W[i]? = some w→W[j]? = some x→w.many≤x.many
  top:∀ (j:Nat) (w x:Wy),W[a]? = some w→W[j]? = some x→x.many≤w.many+1
  done:∀ (i:Nat) (w:Wy) (l:List (Nat×Bool)),i<a→W[i]? = some w→G[w.role]? = some l→∀ s∈l,Dn start W w s
  cur:∀ (w:Wy) (l:List (Nat×Bool)),W[a]? = some w→G[w.role]? = some l→∀ s∈l.take k,Dn start W w s
  nd:∀ (i j:Nat) (w x:Wy),i<j→W[i]? = some w→W[j]? = some x→¬(w.role=x.role∧w.strict=x.strict)
  many:∀ (i:Nat) (w:Wy),W[i]? = some w→w.many≤i
theorem BI.init {G:List (List (Nat×Bool))} {start:Nat} (h:start<G.length):BI G start [⟨start,false,0,0⟩] 0 0:=by
 have key:∀ (i:Nat) (w:Wy),[(⟨start,false,0,0⟩:Wy)][i]? = some w→i=0∧w=⟨start,false,0,0⟩:=fun i w hw=>by
   have hl:=(List.getElem?_eq_some_iff.1 hw).1
   simp only[List.length_singleton]at hl
   obtain rfl:i=0:=by omega
   simp only[List.getElem?_cons_zero,Option.some.injEq]at hw
   exact⟨rfl,hw.symm⟩
 refine⟨rfl,fun i w hw=>?_,fun i w hw hi=>?_,fun i w hw=>?_,fun i j w x _ hw hx=>?_,fun j w x hw hx=>?_,fun i w l hi=>by omega,fun w l _ _ s hs=>by simp at hs,fun i j w x hij hw hx=>?_,fun i w hw=>?_⟩
 ·obtain⟨_,rfl⟩:=key i w hw;exact h
 ·obtain⟨rfl,_⟩:=key i w hw;omega
 ·obtain⟨_,rfl⟩:=key i w hw;exact Wlk.nil _
 ·obtain⟨_,rfl⟩:=key i w hw;exact Nat.zero_le _
 ·obtain⟨_,rfl⟩:=key j x hx;exact Nat.zero_le _
 ·obtain⟨rfl,_⟩:=key i w hw;obtain⟨rfl,_⟩:=key j x hx;omega
 obtain⟨_,rfl⟩:=key i w hw;exact Nat.zero_le _
theorem BI.found {G:List (List (Nat×Bool))} {start a k:Nat} {W:List Wy} (h:BI G start W a k) {w:Wy} {l:List (Nat×Bool)} {s:Nat×Bool} (hw:W[a]? = some w) (hl:G[w.role]? = some l) (hs:l[k]? = some s) (h1:s.1=start) (h2:(w.strict||s.2)=true):Clo (gE G) (w.many+1):=by
  have:=(h.wlk a w hw).snoc (z:=s.1) (d:=s.2) ⟨l,hl,List.mem_of_getElem? hs⟩
  rw[h1,h2]at this
  exact this.clo
theorem jO_ {α:Type} {l:List α} {k:Nat} {x:α} (h:l[k]? = some x):l.take (k+1)=l.take k++[x]:=by rw[List.take_add_one,h];rfl
theorem BI.skip {G:List (List (Nat×Bool))} {start a k:Nat} {W:List Wy} (h:BI G start W a k) {w:Wy} {l:List (Nat×Bool)} {s:Nat×Bool} (hw:W[a]? = some w) (hl:G[w.role]? = some l) (hs:l[k]? = some s) (h1:¬(s.1=start∧(w.strict||s.2)=true)) (h2:jo_ W s.1 (w.strict||s.2)=true):BI G start W a (k+1):=by
 refine { h with cur:=fun w' l' hw' hl' s' hs'=>?_ }
 rw[hw]at hw'
 simp only[Option.some.injEq]at hw'
 subst hw'
 rw[hl]at hl'
 simp only[Option.some.injEq]at hl'
 subst hl'
 rw[jO_ hs,List.mem_append,List.mem_singleton]at hs'
 rcases hs' with hs'|rfl
 ·exact h.cur w l hw hl s' hs'
 obtain⟨w',hw',e1,e2⟩:=lE_.1 h2
 obtain⟨j,hj⟩:=List.getElem?_of_mem hw'
 exact⟨h1,w',hw',e1,e2,h.top j w w' hw hj⟩
theorem BI.push {G:List (List (Nat×Bool))} {start a k:Nat} {W:List Wy} (h:BI G start W a k) {w:Wy} {l:List (Nat×Bool)} {s:Nat×Bool} (hw:W[a]? = some w) (hl:G[w.role]? = some l) (hs:l[k]? = some s) (hr:s.1<G.length) (h1:¬(s.1=start∧(w.strict||s.2)=true)) (h2:jo_ W s.1 (w.strict||s.2)=false):BI G start (W++[⟨s.1,w.strict||s.2,a,w.many+1⟩]) a (k+1):=by
 have ha:a<W.length:=(List.getElem?_eq_some_iff.1 hw).1
 have key:∀ (i:Nat) (x:Wy),(W++[(⟨s.1,w.strict||s.2,a,w.many+1⟩:Wy)])[i]? = some x→W[i]? = some x∨(i=W.length∧x=⟨s.1,w.strict||s.2,a,w.many+1⟩):=fun i x hx=>by
   rcases Nat.lt_or_ge i W.length with g|g
   · rw[List.getElem?_append_left g]at hx;exact .inl hx
   · have hlt:=(List.getElem?_eq_some_iff.1 hx).1
     simp only[List.length_append,List.length_singleton]at hlt
     obtain rfl:i=W.length:=by omega
     rw[List.getElem?_append_right (Nat.le_refl _),Nat.sub_self]at hx
     simp only[List.getElem?_cons_zero,Option.some.injEq]at hx
     exact .inr ⟨rfl,hx.symm⟩
 have hwa:∀ x:Wy,(W++[(⟨s.1,w.strict||s.2,a,w.many+1⟩:Wy)])[a]? = some x→x=w:=fun x hx=>by
   rw[List.getElem?_append_left ha,hw]at hx
   simp only[Option.some.injEq]at hx
   exact hx.symm
 have sub:∀ x∈W,x∈W++[(⟨s.1,w.strict||s.2,a,w.many+1⟩:Wy)]:=fun x hx=>List.mem_append_left _ hx
 refine⟨by rw[List.getElem?_append_left (by omega)];exact h.z,fun i x hx=>?_,fun i x hx hi=>?_,fun i x hx=>?_,fun i j x y hij hx hy=>?_,fun j x y hx hy=>?_,fun i x l' hi hx hl' s' hs'=>?_,fun x l' hx hl' s' hs'=>?_,fun i j x y hij hx hy=>?_,fun i x hx=>?_⟩
 ·rcases key i x hx with hx|⟨_,rfl⟩
  ·exact h.role i x hx
  exact hr
 ·rcases key i x hx with hx|⟨rfl,rfl⟩
  ·exact h.bef i x hx hi
  exact ha
 ·rcases key i x hx with hx|⟨_,rfl⟩
  ·exact h.wlk i x hx
  exact (h.wlk a w hw).snoc ⟨l,hl,List.mem_of_getElem? hs⟩
 ·rcases key j y hy with hy|⟨rfl,rfl⟩
  ·rcases key i x hx with hx|⟨rfl,rfl⟩
   ·exact h.mono i j x y hij hx hy
   have:=(List.getElem?_eq_some_iff.1 hy).1;omega
  rcases key i x hx with hx|⟨rfl,rfl⟩
  ·exact h.top i w x hw hx
  exact Nat.le_refl _
 ·obtain rfl:=hwa x hx
  rcases key j y hy with hy|⟨rfl,rfl⟩
  ·exact h.top j x y hw hy
  exact Nat.le_refl _
 ·rw[List.getElem?_append_left (by omega)]at hx
  exact (h.done i x l' hi hx hl' s' hs').mono sub
 ·obtain rfl:=hwa x hx
  rw[hl]at hl'
  simp only[Option.some.injEq]at hl'
  subst hl'
  rw[jO_ hs,List.mem_append,List.mem_singleton]at hs'
  rcases hs' with hs'|rfl
  ·exact (h.cur x l hw hl s' hs').mono sub
  exact⟨h1,⟨s'.1,x.strict||s'.2,a,x.many+1⟩,by simp,rfl,rfl,Nat.le_refl _⟩
 ·rcases key i x hx with hx|⟨rfl,rfl⟩
  ·rcases key j y hy with hy|⟨rfl,rfl⟩
   ·exact h.nd i j x y hij hx hy
   rintro ⟨e1,e2⟩
   have:jo_ W s.1 (w.strict||s.2)=true:=lE_.2 ⟨x,List.mem_of_getElem? hx,e1,e2⟩
   rw[h2]at this
   cases this
  rcases key j y hy with hy|⟨rfl,rfl⟩
  ·have:=(List.getElem?_eq_some_iff.1 hy).1;omega
  omega
 rcases key i x hx with hx|⟨rfl,rfl⟩
 ·exact h.many i x hx
 have:=h.many a w hw;dsimp only;omega
theorem BI.next {G:List (List (Nat×Bool))} {start a k:Nat} {W:List Wy} (h:BI G start W a k) {w:Wy} {l:List (Nat×Bool)} (hw:W[a]? = some w) (hl:G[w.role]? = some l) (hk:l.length≤k):BI G start W (a+1) 0:=by
 refine { h with top:=fun j x y hx hy=>?_,done:=fun i x l' hi hx hl' s hs=>?_,cur:=fun x l' _ _ s hs=>by simp at hs }
 ·have h1:=h.top j w y hw hy
  have h2:=h.mono a (a+1) w x (by omega) hw hx
  omega
 by_cases e:i=a
 ·subst e
  rw[hw]at hx
  simp only[Option.some.injEq]at hx
  subst hx
  rw[hl]at hl'
  simp only[Option.some.injEq]at hl'
  subst hl'
  exact h.cur w l hw hl s (by rw[List.take_of_length_le hk];exact hs)
 exact h.done i x l' (by omega) hx hl' s hs
theorem BI.none {G:List (List (Nat×Bool))} {start a most:Nat} {W:List Wy} (h:BI G start W a 0) (hend:∀ w:Wy,W[a]? = some w→most≤w.many+1) (hG:∀ (i:Nat) (l:List (Nat×Bool)),G[i]? = some l→∀ s∈l,s.1<G.length)
    {n:Nat} {f:Nat→Nat} {c:Nat→Bool} (hc:Clw (gE G) n f c) (hf:f 0=start):most≤n:=by
  apply Nat.not_lt.1
  intro hn
  obtain⟨h0,hcl,hE,m0,hm0,hcm⟩:=hc
  -- where a way with few steps stands,it is done
  have old:∀ (i:Nat) (w:Wy),W[i]? = some w→w.many+1<most→i<a:=fun i w hw hm=>by
    apply Nat.not_le.1
    intro hle
    have hlt:=(List.getElem?_eq_some_iff.1 hw).1
    obtain⟨x,hx⟩:∃ x,W[a]? = some x:=⟨_,List.getElem?_eq_getElem (show a<W.length by omega)⟩
    have h1:=hend x hx
    have h2:=h.mono a i x w hle hx hw
    omega
  have reach:∀ j,j<n→∃ (i:Nat) (w:Wy),W[i]? = some w∧w.role=f j∧w.strict=sig c j∧w.many≤j:=by
    intro j
    induction j with
    | zero=>intro _;exact⟨0,_,h.z,hf.symm,rfl,Nat.le_refl _⟩
    | succ j ih =>
      intro hj
      obtain⟨i,w,hw,e1,e2,e3⟩:=ih (by omega)
      obtain⟨l,hl,hs⟩:=hE j (by omega)
      obtain⟨_,w',hw',g1,g2,g3⟩:=h.done i w l (old i w hw (by omega)) hw (by rw[e1];exact hl) _ hs
      obtain⟨i',hi'⟩:=List.getElem?_of_mem hw'
      exact⟨i',w',hi',g1,by rw[g2,e2];rfl,by omega⟩
  obtain⟨i,w,hw,e1,e2,e3⟩:=reach (n - 1) (by omega)
  obtain⟨l,hl,hs⟩:=hE (n - 1) (by omega)
  obtain⟨h1,_⟩:=h.done i w l (old i w hw (by omega)) hw (by rw[e1];exact hl) _ hs
  refine h1 ⟨?_,?_⟩
  · dsimp only;rw[show n - 1+1=n by omega,hcl,hf]
  · rw[e2]
    have:=(gw_ (c:=c) (n:=n)).2 ⟨m0,hm0,hcm⟩
    obtain⟨k,rfl⟩:∃ k,n=k+1:=⟨n - 1,by omega⟩
    exact this
theorem BI.len {G:List (List (Nat×Bool))} {start a k:Nat} {W:List Wy} (h:BI G start W a k):W.length≤2*G.length:=by
  have hnd:(W.map fun w=>2*w.role+w.strict.toNat).Nodup:=by
    unfold List.Nodup
    rw[List.pairwise_map,List.pairwise_iff_getElem]
    intro i j hi hj hij e
    refine h.nd i j _ _ hij (List.getElem?_eq_getElem hi) (List.getElem?_eq_getElem hj) ?_
    generalize W[i]=x at e
    generalize W[j]=y at e
    obtain⟨r,b,_,_⟩:=x
    obtain⟨q,d,_,_⟩:=y
    cases b<;>cases d<;>simp only[Bool.toNat_false,Bool.toNat_true]at e ⊢<;>simp<;>omega
  have hsub:(W.map fun w=>2*w.role+w.strict.toNat) ⊆ List.range (2*G.length):=by
    intro z hz
    obtain⟨w,hw,rfl⟩:=List.mem_map.1 hz
    obtain⟨i,hi⟩:=List.getElem?_of_mem hw
    have:=h.role i w hi
    rw[List.mem_range]
    have hb:w.strict.toNat≤1:=by cases w.strict<;>simp
    omega
  have:=hnd.length_le_of_subset hsub
  rwa [List.length_map,List.length_range]at this
theorem Clw.short {G:List (List (Nat×Bool))} {n:Nat} {f:Nat→Nat} {c:Nat→Bool} (h:Clw (gE G) n f c) (hm:∀ k,Clo (gE G) k→n≤k):n≤G.length:=by
  have hnd:((List.range n).map f).Nodup:=by
    unfold List.Nodup
    rw[List.pairwise_map,List.pairwise_iff_getElem]
    intro i j hi hj hij
    simp only[List.getElem_range]
    exact h.inj hm i j hij (by simpa using hj)
  have hsub:((List.range n).map f) ⊆ List.range G.length:=by
    intro z hz
    obtain⟨m,hm',rfl⟩:=List.mem_map.1 hz
    obtain⟨l,hl,_⟩:=h.2.2.1 m (List.mem_range.1 hm')
    exact List.mem_range.2 (List.getElem?_eq_some_iff.1 hl).1
  have:=hnd.length_le_of_subset hsub
  rwa [List.length_map,List.length_range,List.length_range]at this
theorem tE_ {G:List (List (Nat×Bool))} (hno:∀ (n:Nat) (f:Nat→Nat) (c:Nat→Bool),Clw (gE G) n f c→f 0<G.length→G.length+1≤n):∀ n,¬ Clo (gE G) n:=by
  intro n hn
  obtain⟨m,⟨f,c,hc⟩,_,hmin⟩:=sW_ hn
  have h1:=hc.short hmin
  obtain⟨l,hl,_⟩:=hc.2.2.1 0 hc.1
  have h2:=hno m f c hc (List.getElem?_eq_some_iff.1 hl).1
  omega
end Go.Vs
