/-
  Part of the proof of the law ModuleShrinks over this seat: the small logic, the data, the contracts of functions (no condition).
-/
import Derived.Test.YtamklbgaipakfaaGreatDoorQModuleShrinks0
import Derived.WalkKit
import Derived.OrdersHeld
import Derived.Deep.LoopGhost
import Derived.RangeFuncIn
import Derived.RangeFuncLeaves
import Derived.TacticsIn
set_option linter.unusedVariables false
set_option linter.unusedSimpArgs false
set_option linter.unusedSectionVars false
set_option maxHeartbeats 1000000
namespace Go.Sx
open Go
structure Vw where
  im:Nat→Prop
  w:World
  sl:Prop
abbrev Fr:=List (Nat×Value)
abbrev Hp:=List (Nat×Obj)
def Fr.get:Fr→Nat→Option Value
  | [],_=>none
  | (t,v)::r,n=>bif Nat.beq t n then some v else Fr.get r n
structure Nf where
  n:Nat
  D:List Deferred
instance:Coe Nat Nf:=⟨fun n=>⟨n,[]⟩⟩
structure Fr.sat (N:Nf) (fr:Fr) (a:Act):Prop where
  size:a.tmps.size=N.n
  defers:a.defers=N.D
  val:∀ t v,Fr.get fr t=some v→a.tmps[t]? = some v
structure Vw.sat (v:Vw) (H:Hp):Prop where
  own:∀ p,p∈H→v.w.heap[p.1]? = some p.2∧¬ v.im p.1
  nodup:(H.map Prod.fst).Nodup
  lt:∀ b,v.im b→b<v.w.heap.size
structure Vw.to (v:Vw) (H:Hp) (v':Vw) (H':Hp):Prop where
  os:v'.w.os=v.w.os
  tape:v'.w.tape=v.w.tape
  output:v'.w.output=v.w.output
  size:v.w.heap.size≤v'.w.heap.size
  block:∀ b,b<v.w.heap.size→b ∉ H.map Prod.fst→v'.w.heap[b]? = v.w.heap[b]?
  imUp:∀ b,v.im b→v'.im b
  imNew:∀ b,v'.im b→v.im b∨b∈H.map Prod.fst∨v.w.heap.size≤b
  hNew:∀ b,b∈H'.map Prod.fst→b∈H.map Prod.fst∨v.w.heap.size≤b
  sl:v'.sl=v.sl
  dr:v.sl∨v.w.drawn≤v'.w.drawn
structure Vw.le (v v':Vw):Prop where
  imUp:∀ b,v.im b→v'.im b
  block:∀ b,v.im b→v'.w.heap[b]? = v.w.heap[b]?
  sl:v'.sl=v.sl
structure Fct where
  p:Vw→Prop
  mono:∀ v v',v.le v'→p v→p v'
def ag_:List Fct→Vw→Prop
  | [],_=>True
  | f::l,v=>f.p v∧ag_ l v
theorem eU_ {a b:List Fct} {v:Vw}:ag_ (a++b) v↔ag_ a v∧ag_ b v:=by
  induction a with
  | nil=>simp[ag_]
  | cons f l ih=>simp[ag_,ih,and_assoc]
theorem aD_ {l:List Fct} {v v':Vw} (h:v.le v'):ag_ l v→ag_ l v':=by
  induction l with
  | nil=>exact fun _=>trivial
  | cons f l ih=>exact fun⟨a,b⟩=>⟨f.mono _ _ h a,ih b⟩
theorem Vw.to.le {v v':Vw} {H H':Hp} (hs:v.sat H) (h:v.to H v' H'):v.le v' :=
  ⟨h.imUp,fun b hb=>h.block b (hs.lt b hb) (fun hm=>by
    obtain⟨p,hp,rfl⟩:=List.mem_map.1 hm
    exact (hs.own p hp).2 hb),h.sl⟩
theorem Vw.to.refl (v:Vw) (H:Hp):v.to H v H :=
  ⟨rfl,rfl,rfl,Nat.le_refl _,fun _ _ _=>rfl,fun _ h=>h,fun _ h=>.inl h,fun _ h=>.inl h,rfl,.inr (Nat.le_refl _)⟩
theorem Vw.to.trans {a b c:Vw} {Ha Hb Hc:Hp} (h:a.to Ha b Hb) (k:b.to Hb c Hc):a.to Ha c Hc where
 os:=k.os.trans h.os
 tape:=k.tape.trans h.tape
 output:=k.output.trans h.output
 size:=Nat.le_trans h.size k.size
 block:=fun x hx hn=>by
   rw[k.block x (Nat.lt_of_lt_of_le hx h.size) (fun hm=>(h.hNew x hm).elim hn (fun hl=>by omega))]
   exact h.block x hx hn
 imUp:=fun x hx=>k.imUp x (h.imUp x hx)
 imNew:=fun x hx=>by
   rcases k.imNew x hx with h1|h1|h1
   · exact h.imNew x h1
   · exact .inr (h.hNew x h1)
   · exact .inr (.inr (Nat.le_trans h.size h1))
 hNew:=fun x hx=>by
   rcases k.hNew x hx with h1|h1
   · exact h.hNew x h1
   · exact .inr (Nat.le_trans h.size h1)
 sl:=k.sl.trans h.sl
 dr:=by
   rcases h.dr with h1|h1
   · exact .inl h1
   · rcases k.dr with h2|h2
     · exact .inl (by rw[← h.sl];exact h2)
     · exact .inr (Nat.le_trans h1 h2)
theorem Vw.to.frame {v v':Vw} {H H' F:Hp} (hs:v.sat (H++F)) (hs':v'.sat H') (h:v.to H v' H') :
    v'.sat (H'++F)∧v.to (H++F) v' (H'++F):=by
  have hnd:=hs.nodup
  rw[List.map_append,List.nodup_append]at hnd
  have hF:∀ p,p∈F→p.1 ∉ H.map Prod.fst:=fun p hp hm=>hnd.2.2 _ hm _ (List.mem_map_of_mem hp) rfl
  have hlt:∀ p,p∈F→p.1<v.w.heap.size:=fun p hp=>by
    have:=(hs.own p (List.mem_append_right _ hp)).1
    exact (Array.getElem?_eq_some_iff.1 this).1
  have hnew:∀ p,p∈F→p.1 ∉ H'.map Prod.fst:=fun p hp hm=>by
    rcases h.hNew _ hm with h1|h1
    · exact hF p hp h1
    · have:=hlt p hp;omega
  refine⟨⟨fun p hp=>?_,?_,hs'.lt⟩,?_⟩
  · rcases List.mem_append.1 hp with h1|h1
    · exact hs'.own p h1
    · have h2:=hs.own p (List.mem_append_right _ h1)
      refine⟨by rw[h.block _ (hlt p h1) (hF p h1)];exact h2.1,fun hi=>?_⟩
      rcases h.imNew _ hi with h3|h3|h3
      · exact h2.2 h3
      · exact hF p h1 h3
      · have:=hlt p h1;omega
  · rw[List.map_append,List.nodup_append]
    refine⟨hs'.nodup,hnd.2.1,fun x hx y hy e=>?_⟩
    subst e
    obtain⟨p,hp,rfl⟩:=List.mem_map.1 hy
    exact hnew p hp hx
  · refine⟨h.os,h.tape,h.output,h.size,fun b hb hn=>h.block b hb (fun hm=>hn ?_),h.imUp,fun b hb=>?_,fun b hb=>?_,h.sl,h.dr⟩
    · rw[List.map_append];exact List.mem_append_left _ hm
    · rcases h.imNew b hb with h1|h1|h1
      · exact .inl h1
      · exact .inr (.inl (by rw[List.map_append];exact List.mem_append_left _ h1))
      · exact .inr (.inr h1)
    · rw[List.map_append]at hb ⊢
      rcases List.mem_append.1 hb with h1|h1
      · rcases h.hNew b h1 with h2|h2
        · exact .inl (List.mem_append_left _ h2)
        · exact .inr h2
      · exact .inl (List.mem_append_right _ h1)
theorem Vw.sat.perm {v:Vw} {H H':Hp} (h:v.sat H) (p:H.Perm H'):v.sat H' :=
  ⟨fun x hx=>h.own x (p.mem_iff.2 hx),(p.map _).nodup_iff.1 h.nodup,h.lt⟩
theorem Vw.sat.sub {v:Vw} {H F:Hp} (h:v.sat (H++F)):v.sat H :=
  ⟨fun x hx=>h.own x (List.mem_append_left _ hx),by have:=h.nodup;rw[List.map_append,List.nodup_append]at this;exact this.1,h.lt⟩
theorem Vw.to.permL {v v':Vw} {H K H':Hp} (h:v.to H v' H') (p:H.Perm K):v.to K v' H':=by
  have e:∀ b,b∈H.map Prod.fst↔b∈K.map Prod.fst:=fun b=>(p.map _).mem_iff
  exact⟨h.os,h.tape,h.output,h.size,fun b hb hn=>h.block b hb (fun hm=>hn ((e b).1 hm)),h.imUp,
    fun b hb=>(h.imNew b hb).imp id (Or.imp (e b).1 id),fun b hb=>(h.hNew b hb).imp (e b).1 id,h.sl,h.dr⟩
theorem Vw.to.subR {v v':Vw} {H H' K:Hp} (h:v.to H v' H') (p:∀ b,b∈K.map Prod.fst→b∈H'.map Prod.fst):v.to H v' K :=
  ⟨h.os,h.tape,h.output,h.size,h.block,h.imUp,h.imNew,fun b hb=>h.hNew b (p b hb),h.sl,h.dr⟩
def Ok (N:Nf) (v0:Vw) (H0:Hp) (k:Act→World→Prop) (fr:Fr) (H:Hp) (Γ:List Fct):Prop :=
  ∀ a v,Fr.sat N fr a→v.sat H→v0.to H0 v H→ag_ Γ v→k a v.w
inductive Kt where
  | seq (c:Code)
  | blk (id:Nat)
  | inv (J:Act→World→Prop)
def post (P:Program) (R:Exit→Act→World→Prop):List Kt→Exit→Act→World→Prop
  | [],e,a,w=>R e a w
  | .seq c::K,.normal,a,w=>c.wp P (post P R K) a w
  | .seq _::K,e,a,w=>post P R K e a w
  | .inv J::_,.normal,a,w=>J a w
  | .inv _::K,e,a,w=>post P R K e a w
  | .blk id::K,.exit id',a,w=>if id'=id then post P R K .normal a w else post P R K (.exit id') a w
  | .blk _::K,e,a,w=>post P R K e a w
theorem sE_ (P:Program) (R:Exit→Act→World→Prop) (K:List Kt) (a:Act) (w:World) (h:R .ret a w):post P R K .ret a w:=by
  induction K with
  | nil=>exact h
  | cons x K ih=>cases x<;>exact ih
def unw (id:Nat):List Kt→Option (List Kt)
  | []=>none
  | .blk i::K=>bif Nat.beq id i then some K else unw id K
  | .seq _::K=>unw id K
  | .inv _::K=>unw id K
theorem gS_ {P:Program} {R:Exit→Act→World→Prop} {id:Nat} {K':List Kt} {a:Act} {w:World} :
    ∀ {K:List Kt},unw id K=some K'→post P R K' .normal a w→post P R K (.exit id) a w
  | [],h,_=>by simp[unw]at h
  | .seq _::K,h,hp=>gS_ (K:=K) (by simpa [unw] using h) hp
  | .inv _::K,h,hp=>gS_ (K:=K) (by simpa [unw] using h) hp
  | .blk i::K,h,hp=>by
    simp only[unw]at h
    by_cases e:id=i
    · subst e
      simp only[Nat.beq_refl,cond_true,Option.some.injEq]at h
      subst h
      simp only[post,if_true];exact hp
    · have:Nat.beq id i=false:=by
        cases hb:Nat.beq id i
        · rfl
        · exact absurd (Nat.eq_of_beq_eq_true hb) e
      rw[this,cond_false]at h
      simp only[post,e,if_false]
      exact gS_ h hp
def nxt:List Kt→Option (Code×List Kt)
  | .seq c::K=>some (c,K)
  | .blk _::K=>nxt K
  | _=>none
theorem lp_ {P:Program} {R:Exit→Act→World→Prop} {c:Code} {K':List Kt} {a:Act} {w:World} :
    ∀ {K:List Kt},nxt K=some (c,K')→c.wp P (post P R K') a w→post P R K .normal a w
  | [],h,_=>by simp[nxt]at h
  | .seq _::K,h,hp=>by simp only[nxt,Option.some.injEq,Prod.mk.injEq]at h;obtain⟨rfl,rfl⟩:=h;exact hp
  | .blk _::K,h,hp=>lp_ (K:=K) (by simpa [nxt] using h) hp
  | .inv _::K,h,_=>by simp[nxt]at h
def hx_:List Kt→Option (Act→World→Prop)
  | .inv J::_=>some J
  | .blk _::K=>hx_ K
  | _=>none
theorem nF_ {P:Program} {R:Exit→Act→World→Prop} {J:Act→World→Prop} {a:Act} {w:World} :
    ∀ {K:List Kt},hx_ K=some J→J a w→post P R K .normal a w
  | [],h,_=>by simp[hx_]at h
  | .inv _::K,h,hp=>by simp only[hx_,Option.some.injEq]at h;subst h;exact hp
  | .blk _::K,h,hp=>nF_ (K:=K) (by simpa [hx_] using h) hp
  | .seq _::K,h,_=>by simp[hx_]at h
def eM_:List Kt→Bool
  | []=>true
  | .blk _::K=>eM_ K
  | _=>false
theorem nG_ {P:Program} {R:Exit→Act→World→Prop} {a:Act} {w:World} :
    ∀ {K:List Kt},eM_ K=true→R .normal a w→post P R K .normal a w
  | [],_,hp=>hp
  | .inv _::K,h,_=>by simp[eM_]at h
  | .blk _::K,h,hp=>nG_ (K:=K) (by simpa [eM_] using h) hp
  | .seq _::K,h,_=>by simp[eM_]at h
section code
variable {P:Program} {N:Nf} {v0:Vw} {H0:Hp} {R:Exit→Act→World→Prop} {K:List Kt} {fr:Fr} {H:Hp} {Γ:List Fct}
abbrev Run (P:Program) (R:Exit→Act→World→Prop) (N:Nf) (v0:Vw) (H0:Hp) (c:Code) (K:List Kt) (fr:Fr) (H:Hp) (Γ:List Fct):Prop :=
  Ok N v0 H0 (c.wp P (post P R K)) fr H Γ
abbrev Fin (P:Program) (R:Exit→Act→World→Prop) (N:Nf) (v0:Vw) (H0:Hp) (K:List Kt) (fr:Fr) (H:Hp) (Γ:List Fct):Prop :=
  Ok N v0 H0 (post P R K .normal) fr H Γ
abbrev Ops (P:Program) (R:Exit→Act→World→Prop) (N:Nf) (v0:Vw) (H0:Hp) (ops:Array Oper) (l:List Oper) (K:List Kt) (fr:Fr) (H:Hp) (Γ:List Fct):Prop :=
  Ok N v0 H0 (wpList P ops (post P R K) l) fr H Γ
theorem at_ {x y:Code} (h:Run P R N v0 H0 x (.seq y::K) fr H Γ):Run P R N v0 H0 (.seq x y) K fr H Γ :=
  fun a v h1 h2 h3 h4=>wp_seq (wp_mono (h a v h1 h2 h3 h4) fun e a w hq=>by cases e<;>exact hq)
theorem dr_ {id:Nat} {c:Code} (h:Run P R N v0 H0 c (.blk id::K) fr H Γ):Run P R N v0 H0 (.block id c) K fr H Γ :=
  fun a v h1 h2 h3 h4=>wp_block (wp_mono (h a v h1 h2 h3 h4) fun e a w hq=>by cases e<;>exact hq)
theorem ch_ (h:Fin P R N v0 H0 K fr H Γ):Run P R N v0 H0 .skip K fr H Γ :=
  fun a v h1 h2 h3 h4=>wp_skip (h a v h1 h2 h3 h4)
theorem gy_ {id:Nat} {K':List Kt} (hu:unw id K=some K') (h:Fin P R N v0 H0 K' fr H Γ):Run P R N v0 H0 (.exit id) K fr H Γ :=
  fun a v h1 h2 h3 h4=>wp_exit (gS_ hu (h a v h1 h2 h3 h4))
theorem gR_ (h:Ok N v0 H0 (R .ret) fr H Γ):Run P R N v0 H0 .ret K fr H Γ :=
  fun a v h1 h2 h3 h4=>wp_ret (sE_ P R K a v.w (h a v h1 h2 h3 h4))
theorem ab_ {c:Code} {K':List Kt} (hn:nxt K=some (c,K')) (h:Run P R N v0 H0 c K' fr H Γ):Fin P R N v0 H0 K fr H Γ :=
  fun a v h1 h2 h3 h4=>lp_ hn (h a v h1 h2 h3 h4)
theorem bU_ {J:Act→World→Prop} (hn:hx_ K=some J) (h:Ok N v0 H0 J fr H Γ):Fin P R N v0 H0 K fr H Γ :=
  fun a v h1 h2 h3 h4=>nF_ hn (h a v h1 h2 h3 h4)
theorem jz_ (hn:eM_ K=true) (h:Ok N v0 H0 (R .normal) fr H Γ):Fin P R N v0 H0 K fr H Γ :=
  fun a v h1 h2 h3 h4=>nG_ hn (h a v h1 h2 h3 h4)
theorem X_ {id:Nat} {l:List Oper} (h:Ops P R N v0 H0 l.toArray l K fr H Γ):Run P R N v0 H0 (.region id l.toArray false) K fr H Γ :=
  fun a v h1 h2 h3 h4=>wp_region_lit (h a v h1 h2 h3 h4)
theorem ap_ {ops:Array Oper} (h:Fin P R N v0 H0 K fr H Γ):Ops P R N v0 H0 ops [] K fr H Γ :=
  fun a v h1 h2 h3 h4=>wpList_nil (h a v h1 h2 h3 h4)
def Fr.ev (fr:Fr):Operand→Option Value
  | .tmp t=>Fr.get fr t
  | .const v=>some v
  | .global g=>some (.pointer (some ⟨g,0,none⟩))
  | .func f=>some (.func (.func f) #[] #[])
theorem Fr.sat.ev {a:Act} {x:Operand} {v:Value} (h:Fr.sat N fr a) (hx:Fr.ev fr x=some v):a.eval x=v:=by
  cases x with
  | tmp t=>have:=h.val t v hx;simp[Act.eval,this]
  | const c=>simpa [Fr.ev,Act.eval] using hx
  | global g=>simpa [Fr.ev,Act.eval] using hx
  | func f=>simpa [Fr.ev,Act.eval] using hx
theorem Fr.sat.put {a:Act} {d:Nat} {x:Value} (h:Fr.sat N fr a) (hd:Nat.blt d N.n=true):Fr.sat N ((d,x)::fr) (a.put (some d) x):=by
 have hd':d<N.n:=by simpa [Nat.blt_eq] using hd
 refine⟨by simp[Act.put,h.size],h.defers,fun t v ht=>?_⟩
 simp only[Fr.get]at ht
 by_cases e:d=t
 ·subst e
  simp only[Nat.beq_refl,cond_true,Option.some.injEq]at ht
  subst ht
  simp[Act.put,Array.getElem?_setIfInBounds,h.size,hd']
 have hb:Nat.beq d t=false:=by
   cases hb:Nat.beq d t
   · rfl
   · exact absurd (Nat.eq_of_beq_eq_true hb) e
 rw[hb,cond_false]at ht
 simp only[Act.put]
 rw[Array.getElem?_setIfInBounds_ne e]
 exact h.val t v ht
theorem ux_ {k:Act→World→Prop} (fr':Fr) (hs:∀ t v,Fr.get fr' t=some v→Fr.get fr t=some v) (h:Ok N v0 H0 k fr' H Γ):Ok N v0 H0 k fr H Γ :=
  fun a v h1 h2 h3 h4=>h a v ⟨h1.size,h1.defers,fun t x hx=>h1.val t x (hs t x hx)⟩ h2 h3 h4
def Fr.le:Fr→Fr→Prop
  | [],_=>True
  | (t,v)::r,fr=>Fr.get fr t=some v∧Fr.le r fr
theorem Fr.le_get {fr' fr:Fr} (h:Fr.le fr' fr):∀ t v,Fr.get fr' t=some v→Fr.get fr t=some v:=by
 induction fr' with
 | nil=>intro t v ht;simp[Fr.get]at ht
 | cons p r ih =>
   obtain⟨s,u⟩:=p
   intro t v ht
   simp only[Fr.get]at ht
   by_cases e:s=t
   · subst e
     simp only[Nat.beq_refl,cond_true,Option.some.injEq]at ht
     subst ht;exact h.1
   · have hb:Nat.beq s t=false:=by
       cases hb:Nat.beq s t
       · rfl
       · exact absurd (Nat.eq_of_beq_eq_true hb) e
     rw[hb,cond_false]at ht
     exact ih h.2 t v ht
theorem bp_ {k:Act→World→Prop} (fr':Fr) (hs:Fr.le fr' fr) (h:Ok N v0 H0 k fr' H Γ):Ok N v0 H0 k fr H Γ :=
  ux_ fr' (Fr.le_get hs) h
theorem eC_ {k:Act→World→Prop} {H' F:Hp} {Γ':List Fct} (hH:H.Perm (H'++F)) (hΓ:∀ v,v.sat H→ag_ Γ v→ag_ Γ' v) (h:Ok N v0 H0 k fr H' Γ'):Ok N v0 H0 k fr H Γ :=
  fun a v h1 h2 h3 h4=>h a v h1 (h2.perm hH).sub (h3.subR fun b hb=>by
    have:b∈(H'++F).map Prod.fst:=by rw[List.map_append];exact List.mem_append_left _ hb
    exact (hH.map Prod.fst).mem_iff.2 this) (hΓ v h2 h4)
theorem fe_ {k:Act→World→Prop} {Γ':List Fct} (hΓ:∀ v,v.sat H→ag_ Γ v→ag_ Γ' v) (h:Ok N v0 H0 k fr H Γ'):Ok N v0 H0 k fr H Γ :=
  fun a v h1 h2 h3 h4=>h a v h1 h2 h3 (hΓ v h2 h4)
theorem nu_ {c:Operand} {x y:Code} {t:Bool} (hc:Fr.ev fr c=some (.bool t)) (hx:t=true→Run P R N v0 H0 x K fr H Γ) (hy:t=false→Run P R N v0 H0 y K fr H Γ) :
    Run P R N v0 H0 (.cond c x y) K fr H Γ :=
  fun a v h1 h2 h3 h4=>wp_cond_split (h1.ev hc) (fun e=>hx e a v h1 h2 h3 h4) (fun e=>hy e a v h1 h2 h3 h4)
theorem dh_ {c:Operand} {x y:Code} (hc:Fr.ev fr c=some (.bool true)) (hx:Run P R N v0 H0 x K fr H Γ):Run P R N v0 H0 (.cond c x y) K fr H Γ :=
  nu_ hc (fun _=>hx) (fun e=>by cases e)
theorem bx_ {c:Operand} {x y:Code} (hc:Fr.ev fr c=some (.bool false)) (hy:Run P R N v0 H0 y K fr H Γ):Run P R N v0 H0 (.cond c x y) K fr H Γ :=
  nu_ hc (fun e=>by cases e) (fun _=>hy)
def tU_ {ι:Type} (N:Nf) (v0:Vw) (H0:Hp) (frs:ι→Fr) (Hs:ι→Hp) (Γs:ι→List Fct) (μ:ι→Nat) (n:Nat) (a:Act) (w:World):Prop :=
  ∃ j v,v.w=w∧Fr.sat N (frs j) a∧v.sat (Hs j)∧v0.to H0 v (Hs j)∧ag_ (Γs j) v∧μ j<n
theorem bG_ {ι:Type} {c:Code} (frs:ι→Fr) (Hs:ι→Hp) (Γs:ι→List Fct) (μ:ι→Nat) (i0:ι)
    (round:∀ i,Run P R N v0 H0 c (.inv (tU_ N v0 H0 frs Hs Γs μ (μ i))::K) (frs i) (Hs i) (Γs i)) :
    Run P R N v0 H0 (.loop c) K (frs i0) (Hs i0) (Γs i0):=by
  intro a v h1 h2 h3 h4
  refine wp_loop_ghost (fun n a w=>∃ i v,v.w=w∧Fr.sat N (frs i) a∧v.sat (Hs i)∧v0.to H0 v (Hs i)∧ag_ (Γs i) v∧μ i=n) (μ i0) ⟨i0,v,rfl,h1,h2,h3,h4,rfl⟩ ?_
  rintro n a w ⟨i,v,rfl,g1,g2,g3,g4,rfl⟩
  refine wp_mono (round i a v g1 g2 g3 g4) fun e a' w' hq=>?_
  cases e with
  | normal =>
    obtain⟨j,v',e1,k1,k2,k3,k4,hlt⟩:=hq
    exact⟨μ j,hlt,j,v',e1,k1,k2,k3,k4,rfl⟩
  | exit id=>exact hq
  | goto l=>exact hq
  | ret=>exact hq
  | panic ch=>exact hq
  | outgrown=>exact hq
theorem Y_ {ι:Type} {c:Code} (frs:ι→Fr) (Hs:ι→Hp) (Γs:ι→List Fct) (μ:ι→Nat) (i0:ι) {F:Hp} (hfr:Fr.le (frs i0) fr) (hH:H.Perm (Hs i0++F)) (hΓ:∀ v,v.sat H→ag_ Γ v→ag_ (Γs i0) v)
    (round:∀ i,Run P R N v0 H0 c (.inv (tU_ N v0 H0 frs Hs Γs μ (μ i))::K) (frs i) (Hs i) (Γs i)):Run P R N v0 H0 (.loop c) K fr H Γ :=
  bp_ _ hfr (eC_ hH hΓ (bG_ frs Hs Γs μ i0 round))
theorem z_ {ι:Type} {frs:ι→Fr} {Hs:ι→Hp} {Γs:ι→List Fct} {μ:ι→Nat} {n:Nat} (j:ι) {F:Hp} (hμ:μ j<n) (hfr:Fr.le (frs j) fr) (hH:H.Perm (Hs j++F))
    (hΓ:∀ v,v.sat H→ag_ Γ v→ag_ (Γs j) v):Ok N v0 H0 (tU_ N v0 H0 frs Hs Γs μ n) fr H Γ :=
  bp_ (frs j) hfr (eC_ hH hΓ fun _ v h1 h2 h3 h4=>⟨j,v,rfl,h1,h2,h3,h4,hμ⟩)
end code
end Go.Sx
namespace Go.Sx
open Go
section ops
variable {P:Program} {N:Nf} {v0:Vw} {H0:Hp} {R:Exit→Act→World→Prop} {K:List Kt} {fr:Fr} {H:Hp} {Γ:List Fct}
variable {ops:Array Oper} {l:List Oper} {d:Nat} {ty:TypeId} {ps:String} {af:Array Edge}
theorem cF_ {o:Oper} (hg:o.guard=none) (h:∀ a v,Fr.sat N fr a→v.sat H→v0.to H0 v H→ag_ Γ v→o.wp P a v.w (wpList P ops (post P R K) l) (post P R K)) :
    Ops P R N v0 H0 ops (o::l) K fr H Γ :=
  fun a v h1 h2 h3 h4=>wpList_plain hg fun K' hK=>Oper.wp_mono hK (h a v h1 h2 h3 h4)
def Yld (P:Program) (N:Nf) (fr:Fr) (H:Hp) (Γ:List Fct) (op:Op) (ty:TypeId) (x:Value):Prop :=
  ∀ a v,Fr.sat N fr a→v.sat H→ag_ Γ v→∀ d ps af,(execOp a.eval ⟨d,op,ty,ps,af,none⟩).run P v.w=.ok (.value x) v.w
theorem c_ {op:Op} {x:Value} (he:Yld P N fr H Γ op ty x) (hN:Nat.blt d N.n=true)
    (hk:Ops P R N v0 H0 ops l K ((d,x)::fr) H Γ):Ops P R N v0 H0 ops (⟨some d,op,ty,ps,af,none⟩::l) K fr H Γ :=
  cF_ rfl fun a v h1 h2 h3 h4=>by
    unfold Oper.wp
    rw[he a v h1 h2 h4 (some d) ps af]
    exact hk _ v (h1.put hN) h2 h3 h4
theorem y_ {op:Op} {X:Bool} (he:Yld P N fr H Γ op ty (.bool X)) (hN:Nat.blt d N.n=true)
    (hk:∀ r:Bool,X=r→Ops P R N v0 H0 ops l K ((d,.bool r)::fr) H Γ):Ops P R N v0 H0 ops (⟨some d,op,ty,ps,af,none⟩::l) K fr H Γ :=
  c_ he hN (hk X rfl)
def gg_ (ops:Array Oper) (j:Nat):Option Nat:=(ops[j]?).bind (·.dst)
theorem es_ {a:Act} {j t:Nat} {x:Value} (h:Fr.sat N fr a) (hj:gg_ ops j=some t) (hx:Fr.get fr t=some x) :
    yielded ops a.tmps j=match x with|.bool b=>some b|_=>none:=by
  have e:((ops[j]?).bind (·.dst)).bind (a.tmps[·]?)=some x:=by
    show (gg_ ops j).bind _=_
    rw[hj];exact h.val t x hx
  unfold yielded
  rw[e]
  cases x<;>rfl
theorem az_ {op:Op} {dst:Option Nat} {j t:Nat} {want:Bool} (hj:gg_ ops j=some t) (hx:Fr.get fr t=some (.bool want))
    (h:Ops P R N v0 H0 ops (⟨dst,op,ty,ps,af,none⟩::l) K fr H Γ):Ops P R N v0 H0 ops (⟨dst,op,ty,ps,af,some (j,want)⟩::l) K fr H Γ :=
  fun a v h1 h2 h3 h4=>by
    have hw:Region.wanted (⟨dst,op,ty,ps,af,some (j,want)⟩:Oper) (yielded ops a.tmps)=true:=by
      simp[Region.wanted,es_ h1 hj hx]
    have hw':Region.wanted (⟨dst,op,ty,ps,af,none⟩:Oper) (yielded ops a.tmps)=true:=rfl
    have:=h a v h1 h2 h3 h4
    unfold wpList at this ⊢
    rw[if_pos hw']at this
    rw[if_pos hw]
    exact this
theorem ej_ {op:Op} {j t:Nat} {want:Bool} {x:Value} (hj:gg_ ops j=some t) (hx:Fr.get fr t=some x) (hne:(match x with|.bool b=>Bool.xor b want|_=>true)=true) (hN:Nat.blt d N.n=true)
    (h:Ops P R N v0 H0 ops l K ((d,undef)::fr) H Γ):Ops P R N v0 H0 ops (⟨some d,op,ty,ps,af,some (j,want)⟩::l) K fr H Γ :=
  fun a v h1 h2 h3 h4=>by
    have hw:Region.wanted (⟨some d,op,ty,ps,af,some (j,want)⟩:Oper) (yielded ops a.tmps)=false:=by
      simp only[Region.wanted,es_ h1 hj hx]
      cases x<;>first|rfl|(rename_i b;cases b<;>cases want<;>simp_all)
    exact wpList_skip hw (h _ v (h1.put hN) h2 h3 h4)
theorem H_ {x:Operand} {u:Value} (hx:Fr.ev fr x=some u) :
    Yld P N fr H Γ (.move x) ty (u) :=
  fun a v h1 _ _ _ _ _=>by rw[← h1.ev hx];rfl
theorem aq_ {x:Operand} {u:Value} (hx:Fr.ev fr x=some u) :
    Yld P N fr H Γ (.assign x) ty (u) :=
  fun a v h1 _ _ _ _ _=>by rw[← h1.ev hx];rfl
theorem ck_ {c x y:Operand} {u:Value} (hc:Fr.ev fr c=some (.bool true)) (hx:Fr.ev fr x=some u) :
    Yld P N fr H Γ (.pick c x y) ty (u) :=
  fun a v h1 _ _ _ _ _=>by simp[execOp,h1.ev hc,h1.ev hx,asBool]
theorem dP_ {c x y:Operand} {u:Value} (hc:Fr.ev fr c=some (.bool false)) (hx:Fr.ev fr y=some u) :
    Yld P N fr H Γ (.pick c x y) ty (u) :=
  fun a v h1 _ _ _ _ _=>by simp[execOp,h1.ev hc,h1.ev hx,asBool]
theorem ay_ {t t':TypeId} {x y:Operand} {k:IntKind} {m n:Int} (hx:Fr.ev fr x=some (.int k m)) (hy:Fr.ev fr y=some (.int k n)) :
    Yld P N fr H Γ (.binOp .eql t x y t') ty (.bool ((m==n))) :=
  fun a v h1 _ _ _ _ _=>by simp[execOp,h1.ev hx,h1.ev hy,eqGuard,binOp,Op.intCmp]
theorem bR_ {t t':TypeId} {x y:Operand} {k:IntKind} {m n:Int} (hx:Fr.ev fr x=some (.int k m)) (hy:Fr.ev fr y=some (.int k n)) :
    Yld P N fr H Γ (.binOp .neq t x y t') ty (.bool ((m != n))) :=
  fun a v h1 _ _ _ _ _=>by simp[execOp,h1.ev hx,h1.ev hy,eqGuard,binOp,Op.intCmp]
theorem dN_ {t t':TypeId} {x y:Operand} {k:IntKind} {m n:Int} (hx:Fr.ev fr x=some (.int k m)) (hy:Fr.ev fr y=some (.int k n)) :
    Yld P N fr H Γ (.binOp .lss t x y t') ty (.bool (decide (m<n))) :=
  fun a v h1 _ _ _ _ _=>by simp[execOp,h1.ev hx,h1.ev hy,eqGuard,binOp,Op.intCmp]
theorem fm_ {t t':TypeId} {x y:Operand} {k:IntKind} {m n:Int} (hx:Fr.ev fr x=some (.int k m)) (hy:Fr.ev fr y=some (.int k n)) :
    Yld P N fr H Γ (.binOp .leq t x y t') ty (.bool (decide (m≤n))) :=
  fun a v h1 _ _ _ _ _=>by simp[execOp,h1.ev hx,h1.ev hy,eqGuard,binOp,Op.intCmp]
theorem eb_ {t t':TypeId} {x y:Operand} {k:IntKind} {m n:Int} (hx:Fr.ev fr x=some (.int k m)) (hy:Fr.ev fr y=some (.int k n)) :
    Yld P N fr H Γ (.binOp .gtr t x y t') ty (.bool (decide (n<m))) :=
  fun a v h1 _ _ _ _ _=>by simp[execOp,h1.ev hx,h1.ev hy,eqGuard,binOp,Op.intCmp]
theorem hJ_ {t t':TypeId} {x y:Operand} {k:IntKind} {m n:Int} (hx:Fr.ev fr x=some (.int k m)) (hy:Fr.ev fr y=some (.int k n)) :
    Yld P N fr H Γ (.binOp .geq t x y t') ty (.bool (decide (n≤m))) :=
  fun a v h1 _ _ _ _ _=>by simp[execOp,h1.ev hx,h1.ev hy,eqGuard,binOp,Op.intCmp]
def tm_:BinOp→Int→Int→Option Int
  | .add,a,b=>some (a+b)
  | .sub,a,b=>some (a - b)
  | .mul,a,b=>some (a*b)
  | _,_,_=>none
theorem as_ {op:BinOp} {t t':TypeId} {x y:Operand} {k:IntKind} {m n r:Int} (hx:Fr.ev fr x=some (.int k m)) (hy:Fr.ev fr y=some (.int k n)) (hr:tm_ op m n=some r) (hw:k.wrap r=r) :
    Yld P N fr H Γ (.binOp op t x y t') ty (.int k r) :=
  fun a v h1 _ _ _ _ _=>by
    cases op<;>simp only[tm_,Option.some.injEq,reduceCtorEq]at hr<;>subst hr <;>
      simp[execOp,h1.ev hx,h1.ev hy,eqGuard,binOp,Op.intArith,hw]
theorem aV_ {r:Int} (h1:-9223372036854775808≤r) (h2:r≤9223372036854775807):IntKind.wrap .i64 r=r:=by
  exact IntWalk.i64_in r ⟨h1,h2⟩
theorem aG_ {x:Operand} {t:TypeId} {b:Bool} (hx:Fr.ev fr x=some (.bool b)) :
    Yld P N fr H Γ (.unOp .not t x) ty (.bool !b) :=
  fun a v h1 _ _ _ _ _=>by simp[execOp,h1.ev hx,Op.unary]
def lg:List Value→Nat→Option Value
  | [],_=>none
  | x::_,0=>some x
  | _::r,n+1=>lg r n
theorem lg_eq:∀ (c:List Value) (i:Nat),lg c i=c[i]?
  | [],i=>by simp[lg]
  | x::r,0=>rfl
  | x::r,n+1=>by simpa [lg] using lg_eq r n
def mq_:List Value→Nat→Nat→Option (List Value)
  | _,_,0=>some []
  | c,off,n+1=>match lg c off with
    | some x=>match mq_ c (off+1) n with
      | some r=>some (x::r)
      | none=>none
    | none=>none
theorem lB_:∀ (n off:Nat) (c r:List Value),mq_ c off n=some r→r.length=n∧∀ j v,r[j]? = some v→c[off+j]? = some v
 | 0,off,c,r,h=>by simp only[mq_,Option.some.injEq]at h;subst h;exact⟨rfl,by simp⟩
 | n+1,off,c,r,h=>by
   simp only[mq_]at h
   split at h
   · rename_i x hx
     split at h
     · rename_i q hq
       simp only[Option.some.injEq]at h;subst h
       obtain⟨h1,h2⟩:=lB_ n (off+1) c q hq
       refine⟨by simp[h1],fun j v hj=>?_⟩
       cases j with
       | zero=>simp only[List.getElem?_cons_zero,Option.some.injEq]at hj;subst hj;rw[← lg_eq];exact hx
       | succ j=>rw[show off+(j+1)=off+1+j by omega];exact h2 j v (by simpa using hj)
     · cases h
   · cases h
theorem cp_ (b off n:Nat):(⟨b,off,none⟩:Addr).add n=⟨b,off+n,none⟩:=by unfold Addr.add;split<;>simp_all
theorem bH_ {t:TypeId} {w:World} {ad:Addr} {x:Value} (ha:∀ w,(isAgg t).run P w=.ok false w) (hc:w.cell? ad=some x):(loadVar t ad).run P w=.ok x w:=by
  simp[loadVar,ha,hc]
theorem dm_ {t:TypeId} {w:World} {b off n:Nat} {cs:List Value} (ha:∀ w,(isAgg t).run P w=.ok true w) (hs:∀ w,(sizeOf t).run P w=.ok n w) (hn:cs.length=n)
    (hc:∀ j v,cs[j]? = some v→w.cell? ⟨b,off+j,none⟩=some v):(loadVar t ⟨b,off,none⟩).run P w=.ok (.agg cs.toArray) w:=by
  have:=run_loadCells_list (P:=P) w ⟨b,off,none⟩ cs (fun j v hj=>by rw[cp_];exact hc j v hj)
  rw[hn]at this
  simp[loadVar,ha,hs,this]
theorem ei_ {v:Vw} {i b:Nat} {cur:Array Value} {T:TypeId} {fz:Nat×Nat} (h:v.sat H) (hi:H[i]? = some (b,.cells cur T fz)) (j:Nat):v.w.cell? ⟨b,j,none⟩=cur.toList[j]? := by
  have:=(h.own _ (List.mem_of_getElem? hi)).1
  simp[World.cell?,this]
theorem aO_ {t:TypeId} {x:Operand} {b off:Nat} (i:Nat) {cur:Array Value} {T:TypeId} {fz:Nat×Nat} {u:Value} (ha:∀ w,(isAgg t).run P w=.ok false w)
    (hx:Fr.ev fr x=some (.pointer (some ⟨b,off,none⟩))) (hi:H[i]? = some (b,.cells cur T fz)) (hu:lg cur.toList off=some u) :
    Yld P N fr H Γ (.load t x) ty (u) :=
  fun a v h1 h2 _ _ _ _=>by
    have:=bH_ (P:=P) (w:=v.w) ha (show v.w.cell? ⟨b,off,none⟩=some u by rw[ei_ h2 hi,← lg_eq];exact hu)
    simp[execOp,h1.ev hx,Instr.loadAt,Instr.sureAddr,this]
theorem bs_ {t:TypeId} {x:Operand} {b off n:Nat} (i:Nat) {cur:Array Value} {T:TypeId} {fz:Nat×Nat} {us:List Value} (ha:∀ w,(isAgg t).run P w=.ok true w) (hs:∀ w,(sizeOf t).run P w=.ok n w)
    (hx:Fr.ev fr x=some (.pointer (some ⟨b,off,none⟩))) (hi:H[i]? = some (b,.cells cur T fz)) (hu:mq_ cur.toList off n=some us) :
    Yld P N fr H Γ (.load t x) ty (.agg us.toArray) :=
  fun a v h1 h2 _ _ _ _=>by
    obtain⟨e1,e2⟩:=lB_ n off _ _ hu
    have:=dm_ (P:=P) (w:=v.w) (b:=b) (off:=off) ha hs e1 (fun j y hj=>by rw[ei_ h2 hi];exact e2 j y hj)
    simp[execOp,h1.ev hx,Instr.loadAt,Instr.sureAddr,this]
theorem fu_ {t:TypeId} {x:Operand} {ad:Addr} {u:Value} (hx:Fr.ev fr x=some (.pointer (some ad))) (hu:∀ v,v.sat H→ag_ Γ v→(loadVar t ad).run P v.w=.ok u v.w) :
    Yld P N fr H Γ (.load t x) ty (u) :=
  fun a v h1 h2 h4 _ _ _=>by simp[execOp,h1.ev hx,Instr.loadAt,Instr.sureAddr,hu v h2 h4]
theorem fR_ {v:Vw} {w':World} {o:Obj} (h:v.sat H) (e0:w'.heap=v.w.heap.push o) (e1:w'.os=v.w.os) (e2:w'.tape=v.w.tape) (e3:w'.output=v.w.output) (ed:v.w.drawn≤w'.drawn) :
    (⟨v.im,w',v.sl⟩:Vw).sat ((v.w.heap.size,o)::H)∧v.to H ⟨v.im,w',v.sl⟩ ((v.w.heap.size,o)::H):=by
  have hb:∀ k,k<v.w.heap.size→w'.heap[k]? = v.w.heap[k]? := fun k hk=>by rw[e0,Array.getElem?_push,if_neg (by omega)]
  have hlt:∀ p,p∈H→p.1<v.w.heap.size:=fun p hp=>(Array.getElem?_eq_some_iff.1 (h.own p hp).1).1
  refine⟨⟨fun p hp=>?_,?_,fun b hb'=>?_⟩,e1,e2,e3,by simp[e0],fun b h1 _=>hb b h1,fun _ h=>h,fun _ h=>.inl h,fun b hb'=>?_,rfl,.inr ed⟩
  · rcases List.mem_cons.1 hp with rfl|hp
    · refine⟨by show w'.heap[v.w.heap.size]? = some o;rw[e0];simp,fun hi=>?_⟩
      have:=h.lt _ hi;simp at this
    · exact⟨by show w'.heap[p.1]? = _;rw[hb _ (hlt p hp)];exact (h.own p hp).1,(h.own p hp).2⟩
  · rw[List.map_cons,List.nodup_cons]
    refine⟨fun hm=>?_,h.nodup⟩
    obtain⟨p,hp,e⟩:=List.mem_map.1 hm
    have:=hlt p hp
    simp at e;omega
  · have:=h.lt b hb'
    show b<w'.heap.size
    simp[e0];omega
  · rw[List.map_cons]at hb'
    rcases List.mem_cons.1 hb' with rfl|h1
    · exact .inr (Nat.le_refl _)
    · exact .inl h1
theorem kg_ {op:Op} {β:Type} {x:β→Nat→Value} {o:β→Obj} (q:β→Prop) (hN:Nat.blt d N.n=true)
    (he:∀ a v,Fr.sat N fr a→v.sat H→ag_ Γ v→∃ y w',q y∧(execOp a.eval ⟨some d,op,ty,ps,af,none⟩).run P v.w=.ok (.value (x y v.w.heap.size)) w'∧w'.heap=v.w.heap.push (o y)∧w'.os=v.w.os∧w'.tape=v.w.tape∧w'.output=v.w.output∧v.w.drawn≤w'.drawn)
    (hk:∀ y b,q y→Ops P R N v0 H0 ops l K ((d,x y b)::fr) ((b,o y)::H) Γ):Ops P R N v0 H0 ops (⟨some d,op,ty,ps,af,none⟩::l) K fr H Γ :=
  cF_ rfl fun a v h1 h2 h3 h4=>by
    obtain⟨y,w',hq,hr,e0,e1,e2,e3,ed⟩:=he a v h1 h2 h4
    unfold Oper.wp
    rw[hr]
    obtain⟨g1,g2⟩:=fR_ h2 e0 e1 e2 e3 ed
    exact hk y v.w.heap.size hq _ ⟨v.im,w',v.sl⟩ (h1.put hN) g1 (h3.trans g2) (aD_ (g2.le h2) h4)
theorem gT_ {op:Op} {x:Nat→Value} {o:Obj} (hN:Nat.blt d N.n=true)
    (he:∀ a v,Fr.sat N fr a→v.sat H→ag_ Γ v→(execOp a.eval ⟨some d,op,ty,ps,af,none⟩).run P v.w=.ok (.value (x v.w.heap.size)) (v.w.alloc o))
    (hk:∀ b,Ops P R N v0 H0 ops l K ((d,x b)::fr) ((b,o)::H) Γ):Ops P R N v0 H0 ops (⟨some d,op,ty,ps,af,none⟩::l) K fr H Γ :=
  kg_ (β:=Unit) (x:=fun _ b=>x b) (o:=fun _=>o) (fun _=>True) hN (fun a v h1 h2 h4=>⟨(),v.w.alloc o,trivial,he a v h1 h2 h4,rfl,rfl,rfl,rfl,Nat.le_refl _⟩) (fun _ b _=>hk b)
theorem N_ {t:TypeId} {x:Operand} {u:Value} (hx:Fr.ev fr x=some u) (hN:Nat.blt d N.n=true)
    (hk:∀ b,Ops P R N v0 H0 ops l K ((d,.pointer (some ⟨b,0,none⟩))::fr) ((b,.cells u.cells t (0,0))::H) Γ):Ops P R N v0 H0 ops (⟨some d,.box t x,ty,ps,af,none⟩::l) K fr H Γ :=
  gT_ (x:=fun b=>.pointer (some ⟨b,0,none⟩)) hN (fun a v h1 _ _=>by simp[execOp,h1.ev hx,Instr.box,newVar,newRow,newObj];rfl) hk
theorem G_ {t:TypeId} {z:Value} (hz:∀ w,(zeroValue t).run P w=.ok z w) (hN:Nat.blt d N.n=true)
    (hk:∀ b,Ops P R N v0 H0 ops l K ((d,.pointer (some ⟨b,0,none⟩))::fr) ((b,.cells z.cells t (0,0))::H) Γ):Ops P R N v0 H0 ops (⟨some d,.alloc t,ty,ps,af,none⟩::l) K fr H Γ :=
  gT_ (x:=fun b=>.pointer (some ⟨b,0,none⟩)) hN (fun a v h1 _ _=>by simp[execOp,hz,Instr.alloc,newVar,newRow,newObj];rfl) hk
theorem eR_ {v:Vw} {i b:Nat} {o o':Obj} {w':World} (h:v.sat H) (hi:H[i]? = some (b,o)) (e1:w'.os=v.w.os) (e2:w'.tape=v.w.tape) (e3:w'.output=v.w.output) (ed:v.w.drawn≤w'.drawn) (e4:w'.heap.size=v.w.heap.size)
    (e5:w'.heap[b]? = some o') (e6:∀ k,k≠b→w'.heap[k]? = v.w.heap[k]?):(⟨v.im,w',v.sl⟩:Vw).sat (H.set i (b,o'))∧v.to H ⟨v.im,w',v.sl⟩ (H.set i (b,o')):=by
  have hm:=List.mem_of_getElem? hi
  have hmap:(H.set i (b,o')).map Prod.fst=H.map Prod.fst:=by
    rw[List.map_set]
    apply List.ext_getElem?
    intro j
    rw[List.getElem?_set]
    split
    · rename_i hj;subst hj;rw[List.getElem?_map,hi];simp[(List.getElem?_eq_some_iff.1 hi).1]
    · rfl
  refine⟨⟨fun p hp=>?_,by rw[hmap];exact h.nodup,fun x hx=>?_⟩,e1,e2,e3,by simp[e4],fun x _ hn=>e6 x (fun e=>hn ?_),fun _ h=>h,fun _ h=>.inl h,fun x hx=>.inl (by rw[hmap]at hx;exact hx),rfl,.inr ed⟩
  · obtain⟨j,hj⟩:=List.getElem?_of_mem hp
    rw[List.getElem?_set]at hj
    split at hj
    · rename_i hij
      subst hij
      split at hj
      · simp only[Option.some.injEq]at hj;subst hj
        exact⟨e5,(h.own _ hm).2⟩
      · cases hj
    · rename_i hij
      have hpH:=List.mem_of_getElem? hj
      have hne:p.1≠b:=fun e=>by
        have hnd:=h.nodup
        have g1:(H.map Prod.fst)[i]? = some b:=by simp[hi]
        have g2:(H.map Prod.fst)[j]? = some b:=by simp[hj,e]
        obtain⟨l1,q1⟩:=List.getElem?_eq_some_iff.1 g1
        obtain⟨l2,q2⟩:=List.getElem?_eq_some_iff.1 g2
        exact hij ((List.getElem_inj hnd).1 (q1.trans q2.symm))
      exact⟨by show w'.heap[p.1]? = _;rw[e6 _ hne];exact (h.own p hpH).1,(h.own p hpH).2⟩
  · show x<w'.heap.size
    rw[e4];exact h.lt x hx
  · subst e;exact List.mem_map.2 ⟨_,hm,rfl⟩
theorem n_ {t:TypeId} {x y:Operand} {b off n:Nat} (i:Nat) {cur:Array Value} {T:TypeId} {u:Value} (hs:∀ w,(sizeOf t).run P w=.ok n w)
    (hx:Fr.ev fr x=some (.pointer (some ⟨b,off,none⟩))) (hy:Fr.ev fr y=some u) (hi:H[i]? = some (b,.cells cur T (0,0))) (hn:u.cells.size=n) (hf:Nat.ble (off+n) cur.size=true) (h1c:u.cells.toList.all Value.oneCell'=true)
    (hk:Ops P R N v0 H0 ops l K fr (H.set i (b,.cells (cur.toList.take off++u.cells.toList++cur.toList.drop (off+n)).toArray T (0,0))) Γ) :
    Ops P R N v0 H0 ops (⟨none,.store t x y,ty,ps,af,none⟩::l) K fr H Γ :=
  cF_ rfl fun a v h1 h2 h3 h4=>by
    have hb:=(h2.own _ (List.mem_of_getElem? hi)).1
    have hst:=run_storeCells_at P b off T u.cells.toList 0 cur v.w hb (by simp[hn];exact Nat.le_of_ble_eq_true hf) (fun c hc=>List.all_eq_true.1 h1c c hc)
    have he:(execOp a.eval ⟨none,.store t x y,ty,ps,af,none⟩).run P v.w=.ok .skip (v.w.setRow b (cur.toList.take off++u.cells.toList++cur.toList.drop (off+n)).toArray):=by
      simp only[Nat.add_zero,Array.length_toList,hn]at hst
      simp[execOp,h1.ev hx,h1.ev hy,Instr.storeAt,Instr.sureAddr,storeVar,hs,hn,hst]
    unfold Oper.wp
    rw[he]
    obtain⟨g1,g2⟩:=eR_ (w':=v.w.setRow b (cur.toList.take off++u.cells.toList++cur.toList.drop (off+n)).toArray) h2 hi rfl rfl rfl (Nat.le_refl _) (by simp) (setRow_heap _ _ _ _ _ _ hb) (fun k hk=>setRow_other _ _ _ _ hk)
    exact hk a _ h1 g1 (h3.trans g2) (aD_ (g2.le h2) h4)
theorem dq_ {s:TypeId} {x:Operand} {f b off o:Nat} {fs:Array Field} {fd:Field} {n:Nat} (hu:∀ w,(underlying s).run P w=.ok (.struct fs) w) (hx:Fr.ev fr x=some (.pointer (some ⟨b,off,none⟩))) (hf:fs[f]? = some fd) (ho:fd.offset=o)
    (hs:∀ w,(sizeOf fd.type).run P w=.ok (n+1) w) :
    Yld P N fr H Γ (.fieldAddr s x f) ty (.pointer (some ⟨b,off+o,none⟩)) :=
  fun a v h1 h2 _ _ _ _=>by simp[execOp,h1.ev hx,Instr.fieldAt,hu,hf,Instr.sureAddr,fieldPlace,hs,cp_,ho]
theorem gN_ {t e:TypeId} {x y:Operand} {b off len cap n:Nat} {k:IntKind} {i:Int} (hu:∀ w,(underlying t).run P w=.ok (.slice e) w) (hs:∀ w,(sizeOf e).run P w=.ok n w)
    (hx:Fr.ev fr x=some (.slice (some ⟨b,off,none⟩) len cap)) (hy:Fr.ev fr y=some (.int k i)) (h0:0≤i) (hl:i<len) :
    Yld P N fr H Γ (.indexAddr t x y) ty (.pointer (some ⟨b,off+i.toNat*n,none⟩)) :=
  fun a v h1 h2 _ _ _ _=>by simp[execOp,h1.ev hx,h1.ev hy,Instr.indexAt,hu,asIntOf,hs,cp_,h0,hl]
theorem er_ {t e:TypeId} {x y:Operand} {b off len n:Nat} {k:IntKind} {i:Int} (hu:∀ w,(underlying t).run P w=.ok (.array len e) w) (hs:∀ w,(sizeOf e).run P w=.ok n w)
    (hx:Fr.ev fr x=some (.pointer (some ⟨b,off,none⟩))) (hy:Fr.ev fr y=some (.int k i)) (h0:0≤i) (hl:i<len) :
    Yld P N fr H Γ (.indexAddr t x y) ty (.pointer (some ⟨b,off+i.toNat*n,none⟩)) :=
  fun a v h1 h2 _ _ _ _=>by simp[execOp,h1.ev hx,h1.ev hy,Instr.indexAt,hu,asIntOf,hs,Instr.sureAddr,cp_,h0,hl]
theorem iu_ {x:Operand} {ad:Addr} (hx:Fr.ev fr x=some (.pointer (some ad))) :
    Yld P N fr H Γ (.nilCheck x) ty (.pointer (some ad)) :=
  fun a v h1 h2 _ _ _ _=>by simp[execOp,h1.ev hx]
theorem dl_ {x:Operand} {t e:TypeId} {ad:Option Addr} {len cap:Nat} (hu:∀ w,(underlying t).run P w=.ok (.slice e) w) (hx:Fr.ev fr x=some (.slice ad len cap)) :
    Yld P N fr H Γ (.call ⟨.builtin .len,#[x],#[t]⟩) ty (.int .i64 (len:Int)) :=
  fun a v h1 h2 _ _ _ _=>by simp[execOp,resolve,invoke,builtin,Builtin.len_,h1.ev hx,hu,goInt]
theorem cG_ {x:Operand} {i:Nat} {vs:Array Value} {u:Value} (hx:Fr.ev fr x=some (.tuple vs)) (hu:lg vs.toList i=some u) :
    Yld P N fr H Γ (.extract x i) ty (u) :=
  fun a v h1 h2 _ _ _ _=>by
    rw[lg_eq,Array.getElem?_toList]at hu
    simp[execOp,h1.ev hx,Instr.extract,hu]
def str (l:List UInt8):Value:=.string ⟨l.toArray⟩
theorem str_of (s:ByteArray):Value.string s=str s.data.toList:=rfl
theorem eY_ {t t':TypeId} {x y:Operand} {m n:List UInt8} (hx:Fr.ev fr x=some (str m)) (hy:Fr.ev fr y=some (str n)) :
    Yld P N fr H Γ (.binOp .eql t x y t') ty (.bool ((m==n))) :=
  fun a v h1 _ _ _ _ _=>by simp[execOp,h1.ev hx,h1.ev hy,str,eqGuard,binOp,Op.stringOp]
theorem ea_ {t t':TypeId} {x y:Operand} {m n:List UInt8} (hx:Fr.ev fr x=some (str m)) (hy:Fr.ev fr y=some (str n)) :
    Yld P N fr H Γ (.binOp .neq t x y t') ty (.bool ((m != n))) :=
  fun a v h1 _ _ _ _ _=>by simp[execOp,h1.ev hx,h1.ev hy,str,eqGuard,binOp,Op.stringOp,bne]
theorem cD_ {t t':TypeId} {x y:Operand} {m n:List UInt8} (hx:Fr.ev fr x=some (str m)) (hy:Fr.ev fr y=some (str n)) (hl:m.length+n.length≤9223372036854775807) :
    Yld P N fr H Γ (.binOp .add t x y t') ty (str (m++n)) :=
  fun a v h1 _ _ _ _ _=>by
    have h:=run_string_add_sum (P:=P) v.w ⟨m.toArray⟩ ⟨n.toArray⟩ (by simpa [ByteArray.size] using hl)
    rw[ByteArray.mk_append_mk]at h
    simp[execOp,h1.ev hx,h1.ev hy,str,eqGuard,binOp_string_add,h]
theorem dk_ {x:Operand} {t:TypeId} {m:List UInt8} (hu:∀ w,(underlying t).run P w=.ok .string w) (hx:Fr.ev fr x=some (str m)) :
    Yld P N fr H Γ (.call ⟨.builtin .len,#[x],#[t]⟩) ty (.int .i64 (m.length:Int)) :=
  fun a v h1 h2 _ _ _ _=>by simp[execOp,resolve,invoke,builtin,Builtin.len_,h1.ev hx,hu,goInt,str];rfl
theorem dv_ {x y:Operand} {t:TypeId} {m:List UInt8} {k:IntKind} {i:Int} {c:UInt8} (hu:∀ w,(underlying t).run P w=.ok .string w) (hx:Fr.ev fr x=some (str m)) (hy:Fr.ev fr y=some (.int k i)) (h0:0≤i) (hc:m[i.toNat]? = some c) :
    Yld P N fr H Γ (.index t x y) ty (.int .u8 (c.toNat:Int)) :=
  fun a v h1 h2 _ _ _ _=>by
    have hl:i.toNat<m.length:=(List.getElem?_eq_some_iff.1 hc).1
    have hg:(⟨m.toArray⟩:ByteArray)[i.toNat]? = some c:=by
      rw[ByteArray.getElem?_lt' _ _ (by simpa [ByteArray.size] using hl)]
      have:(⟨m.toArray⟩:ByteArray)[i.toNat]'(by simpa [ByteArray.size] using hl)=m[i.toNat]:=rfl
      rw[this];rw[List.getElem?_eq_getElem hl]at hc;exact hc
    simp[execOp,Instr.index,h1.ev hx,h1.ev hy,asIntOf,hu,str,h0,hg]
def eJ_ (P:Program) (f:FuncId):Prop:=∀ args w,(callFunc f args).run P w=.ok (.enter f args) w
theorem callable {f : FuncId} {fn : Func} {c : Code} (hf : P.funcs[f]? = some fn) (hb : fn.body = some c) (hn : (fn.name == "runtime.NumGoroutine") = false) : eJ_ P f := by
  intro args w
  have hn' : ¬ fn.name = "runtime.NumGoroutine" := by simpa using hn
  simp[callFunc,run_program,hf,hb,hn']
structure Tri (P:Program) (f:FuncId) (args:Array Value) (H:Hp) (Γ:List Fct) {ι:Type} (ret:ι→Value) (H':ι→Hp) (Γ':ι→List Fct):Prop where
  callable:eJ_ P f
  run:∀ v,v.sat H→ag_ Γ v→Calls P f args v.w fun e w'=>∃ x v',e=.returned (ret x)∧v'.w=w'∧v'.sat (H' x)∧ag_ (Γ' x) v'∧v.to H v' (H' x)
def Fr.evs (fr:Fr):List Operand→Option (List Value)
  | []=>some []
  | x::r=>match Fr.ev fr x with
    | some v=>match Fr.evs fr r with
      | some vs=>some (v::vs)
      | none=>none
    | none=>none
theorem Fr.sat.evs {a:Act} (h:Fr.sat N fr a):∀ {xs:List Operand} {vs:List Value},Fr.evs fr xs=some vs→xs.map a.eval=vs
 | [],vs,e=>by simp only[Fr.evs,Option.some.injEq]at e;subst e;rfl
 | x::r,vs,e=>by
   simp only[Fr.evs]at e
   split at e
   · rename_i u hu
     split at e
     · rename_i us hus
       simp only[Option.some.injEq]at e;subst e
       rw[List.map_cons,h.ev hu,h.evs hus]
     · cases e
   · cases e
theorem lu_ {op:Op} {f:FuncId} {vs:List Value} {ι:Type} {Hc F:Hp} {Γc:List Fct} {ret:ι→Value} {H':ι→Hp} {Γ':ι→List Fct}
    (hT:Tri P f vs.toArray Hc Γc ret H' Γ') (he:∀ a v,Fr.sat N fr a→(execOp a.eval ⟨some d,op,ty,ps,af,none⟩).run P v=.ok (.enter f vs.toArray) v)
    (hH:H.Perm (Hc++F)) (hΓ:∀ v,v.sat H→ag_ Γ v→ag_ Γc v) (hN:Nat.blt d N.n=true)
    (hk:∀ x,Ops P R N v0 H0 ops l K ((d,ret x)::fr) (H' x++F) (Γ' x++Γ)):Ops P R N v0 H0 ops (⟨some d,op,ty,ps,af,none⟩::l) K fr H Γ :=
  cF_ rfl fun a v h1 h2 h3 h4=>by
    unfold Oper.wp
    rw[he a v.w h1]
    have h2':=h2.perm hH
    refine (hT.run v h2'.sub (hΓ v h2 h4)).mono ?_
    rintro e w' ⟨x,v',rfl,rfl,g1,g2,g3⟩
    obtain⟨k1,k2⟩:=g3.frame h2' g1
    exact hk x _ v' (h1.put hN) k1 (h3.trans (k2.permL hH.symm)) (eU_.2 ⟨g2,aD_ (k2.le h2') h4⟩)
theorem d_ {f:FuncId} {xs:List Operand} {ats:Array TypeId} {vs:List Value} {ι:Type} {Hc F:Hp} {Γc:List Fct} {ret:ι→Value} {H':ι→Hp} {Γ':ι→List Fct}
    (hT:Tri P f vs.toArray Hc Γc ret H' Γ') (hx:Fr.evs fr xs=some vs) (hH:H.Perm (Hc++F)) (hΓ:∀ v,v.sat H→ag_ Γ v→ag_ Γc v) (hN:Nat.blt d N.n=true)
    (hk:∀ x,Ops P R N v0 H0 ops l K ((d,ret x)::fr) (H' x++F) (Γ' x++Γ)) :
    Ops P R N v0 H0 ops (⟨some d,.call ⟨.value (.func f),xs.toArray,ats⟩,ty,ps,af,none⟩::l) K fr H Γ :=
  lu_ hT (fun a w h1=>by
    have:=h1.evs hx
    simp[execOp,resolve,Deferred.ofValue,Act.eval,invoke,this,hT.callable _ w]) hH hΓ hN hk
theorem af_ {f:FuncId} {xs:List Operand} {ats:Array TypeId} {vs:List Value} {Hc F:Hp} {Γc:List Fct} {X:Bool}
    (hT:Tri P f vs.toArray Hc Γc (fun _:Unit=>.bool X) (fun _=>Hc) (fun _=>[])) (hx:Fr.evs fr xs=some vs) (hH:H.Perm (Hc++F)) (hΓ:∀ v,v.sat H→ag_ Γ v→ag_ Γc v) (hN:Nat.blt d N.n=true)
    (hk:∀ r:Bool,X=r→Ops P R N v0 H0 ops l K ((d,.bool r)::fr) (Hc++F) Γ) :
    Ops P R N v0 H0 ops (⟨some d,.call ⟨.value (.func f),xs.toArray,ats⟩,ty,ps,af,none⟩::l) K fr H Γ :=
  d_ hT hx hH hΓ hN fun _=>hk X rfl
end ops
section body
variable {P:Program} {N:Nf} {fr:Fr} {H:Hp} {Γ:List Fct}
def jt_ {ι:Type} (v0:Vw) (H0:Hp) (ret:ι→Value) (H':ι→Hp) (Γ':ι→List Fct) (e:Ending) (w':World):Prop :=
  ∃ x v',e=.returned (ret x)∧v'.w=w'∧v'.sat (H' x)∧ag_ (Γ' x) v'∧v0.to H0 v' (H' x)
def iJ_ (i:Nat):List Value→Fr
  | []=>[]
  | x::r=>(i,x)::iJ_ (i+1) r
theorem hz_:∀ (l:List Value) (i t:Nat) (v:Value),Fr.get (iJ_ i l) t=some v→i≤t∧l[t - i]? = some v
 | [],i,t,v,h=>by simp[iJ_,Fr.get]at h
 | x::r,i,t,v,h=>by
   simp only[iJ_,Fr.get]at h
   by_cases e:i=t
   · subst e
     simp only[Nat.beq_refl,cond_true,Option.some.injEq]at h
     subst h;simp
   · have hb:Nat.beq i t=false:=by
       cases hb:Nat.beq i t
       · rfl
       · exact absurd (Nat.eq_of_beq_eq_true hb) e
     rw[hb,cond_false]at h
     obtain⟨h1,h2⟩:=hz_ r (i+1) t v h
     refine⟨by omega,?_⟩
     rw[show t - i=(t - (i+1))+1 by omega];simpa using h2
theorem j_ {N:Nat} {f:FuncId} {fn:Func} {c:Code} {args:List Value} {ι:Type} {ret:ι→Value} {H':ι→Hp} {Γ':ι→List Fct}
    (hf : P.funcs[f]? = some fn) (hb : fn.body = some c) (hn : (fn.name == "runtime.NumGoroutine") = false) (hN : fn.ntmps = N) (hl : Nat.ble args.length N = true)
    (h:∀ v0,Run P (bodyPost P fn (jt_ v0 H ret H' Γ')) N v0 H c [] (iJ_ 0 args) H Γ):Tri P f args.toArray H Γ ret H' Γ':=by
  refine⟨callable hf hb hn,fun v h1 h2=>calls_of_wp hf hb ?_⟩
  have hl':args.length≤N:=Nat.le_of_ble_eq_true hl
  have:=h v ⟨args.toArray++Array.replicate (fn.ntmps - args.toArray.size) undef,[]⟩ v ⟨by simp[hN];omega,rfl,fun t x ht=>?_⟩ h1 (Vw.to.refl _ _) h2
  · exact this
  · obtain⟨_,h4⟩:=hz_ args 0 t x ht
    simp only[Nat.sub_zero]at h4
    have hlt:=(List.getElem?_eq_some_iff.1 h4).1
    rw[Array.getElem?_append_left (by simpa using hlt)]
    simpa using h4
theorem E_ {N:Nat} {fn:Func} {t:Nat} {ι:Type} {v0:Vw} {H0 F:Hp} {ret:ι→Value} {H':ι→Hp} {Γ':ι→List Fct} (hr:fn.results=#[.tmp t]) (x:ι) (hx:Fr.get fr t=some (ret x)) (hH:H.Perm (H' x++F))
    (hΓ:∀ v,v.sat H→ag_ Γ v→ag_ (Γ' x) v):Ok N v0 H0 (bodyPost P fn (jt_ v0 H0 ret H' Γ') .ret) fr H Γ :=
  eC_ hH hΓ fun a v h1 h2 h3 h4=>⟨h1.defers,ret x,by rw[results_tmp hr];have:=h1.val t _ hx;simp[this],x,v,rfl,rfl,h2,h4,h3⟩
theorem fr_ {N:Nat} {fn:Func} {t s:Nat} {ι:Type} {v0:Vw} {H0 F:Hp} {ret:ι→Value} {H':ι→Hp} {Γ':ι→List Fct} {u1 u2:Value} (hr:fn.results=#[.tmp t,.tmp s]) (x:ι) (h1x:Fr.get fr t=some u1) (h2x:Fr.get fr s=some u2) (hx:.tuple #[u1,u2]=ret x) (hH:H.Perm (H' x++F))
    (hΓ:∀ v,v.sat H→ag_ Γ v→ag_ (Γ' x) v):Ok N v0 H0 (bodyPost P fn (jt_ v0 H0 ret H' Γ') .ret) fr H Γ :=
  eC_ hH hΓ fun a v h1 h2 h3 h4=>⟨h1.defers,ret x,by rw[results_tmp2 hr,← hx];have e1:=h1.val t _ h1x;have e2:=h1.val s _ h2x;simp[e1,e2],x,v,rfl,rfl,h2,h4,h3⟩
theorem m_ {t:Nat} {x y:Bool} (h:Fr.get fr t=some (.bool x)) (e:x=y):Fr.get fr t=some (.bool y):=e▸h
theorem O_ {t:Nat} {k:IntKind} {x y:Int} (h:Fr.get fr t=some (.int k x)) (e:x=y):Fr.get fr t=some (.int k y):=e▸h
theorem cZ_ {t:Nat} {x y:List UInt8} (h:Fr.get fr t=some (str x)) (e:x=y):Fr.get fr t=some (str y):=e▸h
theorem bI_ {t:Nat} {x y:Value} (h:Fr.get fr t=some x) (e:x=y):Fr.get fr t=some y:=e▸h
abbrev Fn0 (P:Program) (f:FuncId) (args:Array Value) (ret:Value):Prop:=Tri P f args [] [] (fun _:Unit=>ret) (fun _=>[]) (fun _=>[])
end body
section cut
variable {P:Program} {N:Nf} {v0:Vw} {H0:Hp} {R:Exit→Act→World→Prop} {K:List Kt} {fr:Fr} {H:Hp} {Γ:List Fct}
def Mid (N:Nf) (v0:Vw) (H0:Hp) {ι:Type} (frs:ι→Fr) (Hs:ι→Hp) (Γs:ι→List Fct) (e:Exit) (a:Act) (w:World):Prop :=
  e=.normal∧∃ i v,v.w=w∧Fr.sat N (frs i) a∧v.sat (Hs i)∧v0.to H0 v (Hs i)∧ag_ (Γs i) v
theorem bB_ {ι:Type} {c:Code} (frs:ι→Fr) (Hs:ι→Hp) (Γs:ι→List Fct) (h1:Run P (Mid N v0 H0 frs Hs Γs) N v0 H0 c [] fr H Γ) (h2:∀ i,Fin P R N v0 H0 K (frs i) (Hs i) (Γs i)):Run P R N v0 H0 c K fr H Γ:=by
  intro a v g1 g2 g3 g4
  refine wp_mono (h1 a v g1 g2 g3 g4) ?_
  rintro e a' w' ⟨rfl,i,v',rfl,k1,k2,k3,k4⟩
  exact h2 i a' v' k1 k2 k3 k4
theorem al_ {ι:Type} {frs:ι→Fr} {Hs:ι→Hp} {Γs:ι→List Fct} (i:ι) {F:Hp} (hfr:Fr.le (frs i) fr) (hH:H.Perm (Hs i++F)) (hΓ:∀ v,v.sat H→ag_ Γ v→ag_ (Γs i) v) :
    Ok N v0 H0 (Mid N v0 H0 frs Hs Γs .normal) fr H Γ :=
  bp_ (frs i) hfr (eC_ hH hΓ fun _ v h1 h2 h3 h4=>⟨rfl,i,v,rfl,h1,h2,h3,h4⟩)
end cut
end Go.Sx
namespace Go.Sx
open Go
def bA_ (v:Vw) (ad:Option Addr) (cs:List Value):Prop :=
  cs=[]∨∃ b off arr T fz,ad=some ⟨b,off,none⟩∧v.im b∧v.w.heap[b]? = some (.cells arr T fz)∧∀ j x,cs[j]? = some x→arr[off+j]? = some x
def ac_ (ad:Option Addr) (cs:List Value):Fct where
 p:=fun v=>bA_ v ad cs
 mono:=fun v v' h hp=>by
   rcases hp with hp|⟨b,off,arr,T,fz,h1,h2,h3,h4⟩
   · exact .inl hp
   · exact .inr ⟨b,off,arr,T,fz,h1,h.imUp b h2,by rw[h.block b h2];exact h3,h4⟩
def bas (ad:Option Addr):Addr:=ad.getD ⟨0,0,none⟩
def rad (ad:Option Addr) (k:Nat):Addr:=⟨(bas ad).block,(bas ad).off+k,none⟩
theorem bA_.addr {v:Vw} {ad:Option Addr} {cs:List Value} (h:bA_ v ad cs) (hn:cs≠[]):∃ b off,ad=some ⟨b,off,none⟩:=by
 rcases h with h|⟨b,off,arr,T,fz,h1,_⟩
 ·exact absurd h hn
 exact⟨b,off,h1⟩
theorem bA_.cell {v:Vw} {ad:Option Addr} {cs:List Value} {k:Nat} {x:Value} (h:bA_ v ad cs) (hx:cs[k]? = some x):v.w.cell? (rad ad k)=some x:=by
 rcases h with h|⟨b,off,arr,T,fz,rfl,_,h3,h4⟩
 ·subst h;simp at hx
 simp[rad,bas,World.cell?,h3,h4 k x hx]
theorem bA_.drop {v:Vw} {ad:Option Addr} {cs:List Value} (h:bA_ v ad cs) (n:Nat) (ds:List Value) (hs:∀ j x,ds[j]? = some x→cs[n+j]? = some x):bA_ v (ad.map (·.add n)) ds:=by
 rcases h with h|⟨b,off,arr,T,fz,rfl,h2,h3,h4⟩
 ·subst h
  left
  cases ds with
  | nil=>rfl
  | cons d ds=>have:=hs 0 d rfl;simp at this
 exact .inr ⟨b,off+n,arr,T,fz,by simp[cp_],h2,h3,fun j x hj=>by rw[Nat.add_assoc];exact h4 _ _ (hs j x hj)⟩
theorem bA_.part {v:Vw} {ad:Option Addr} {cs ds:List Value} (h:bA_ v ad cs) (hs:∀ (j:Nat) x,ds[j]? = some x→cs[j]? = some x):bA_ v ad ds:=by
 rcases h with h|⟨b,off,arr,T,fz,rfl,h2,h3,h4⟩
 ·subst h
  left
  cases ds with
  | nil=>rfl
  | cons d ds=>have:=hs 0 d rfl;simp at this
 exact .inr ⟨b,off,arr,T,fz,rfl,h2,h3,fun j x hj=>h4 j x (hs j x hj)⟩
theorem iL_ {α:Type} (f:α→List Value) (n:Nat) (hf:∀ x,(f x).length=n):∀ (l:List α) (i j:Nat) (x:α),l[i]? = some x→j<n→(l.flatMap f)[i*n+j]? = (f x)[j]?
  | [],i,j,x,h,_=>by simp at h
  | y::l,0,j,x,h,hj=>by
    simp only[List.getElem?_cons_zero,Option.some.injEq]at h
    subst h
    simp only[List.flatMap_cons,Nat.zero_mul,Nat.zero_add]
    rw[List.getElem?_append_left (by rw[hf];exact hj)]
  | y::l,i+1,j,x,h,hj=>by
    simp only[List.flatMap_cons]
    rw[List.getElem?_append_right (by rw[hf,Nat.add_mul];omega),hf,show (i+1)*n+j - n=i*n+j by rw[Nat.add_mul];omega]
    exact iL_ f n hf l i j x (by simpa using h) hj
theorem ey_ {α:Type} (f:α→List Value) (n:Nat) (hf:∀ x,(f x).length=n):∀ (l:List α),(l.flatMap f).length=l.length*n
  | []=>by simp
  | y::l=>by simp only[List.flatMap_cons,List.length_append,hf,List.length_cons,ey_ f n hf l,Nat.add_mul];omega
section ops
variable {P:Program} {N:Nf} {v0:Vw} {H0:Hp} {R:Exit→Act→World→Prop} {K:List Kt} {fr:Fr} {H:Hp} {Γ:List Fct}
variable {ops:Array Oper} {l:List Oper} {d:Nat} {ty:TypeId} {ps:String} {af:Array Edge}
theorem C_ {t e:TypeId} {x y:Operand} {ad:Option Addr} {len cap n:Nat} {k:IntKind} {i:Int} (hu:∀ w,(underlying t).run P w=.ok (.slice e) w) (hs:∀ w,(sizeOf e).run P w=.ok n w)
    (hx:Fr.ev fr x=some (.slice ad len cap)) (hy:Fr.ev fr y=some (.int k i)) (ha:∀ v,v.sat H→ag_ Γ v→∃ b off,ad=some ⟨b,off,none⟩) (h0:0≤i) (hl:i<len) :
    Yld P N fr H Γ (.indexAddr t x y) ty (.pointer (some (rad ad (i.toNat*n)))) :=
  fun a v h1 h2 h4 _ _ _=>by
    obtain⟨b,off,rfl⟩:=ha v h2 h4
    simp[execOp,h1.ev hx,h1.ev hy,Instr.indexAt,hu,asIntOf,hs,cp_,h0,hl,rad,bas]
theorem hm_ {s:TypeId} {x:Operand} {f k o:Nat} {ad:Option Addr} {fs:Array Field} {fd:Field} {n:Nat} (hu:∀ w,(underlying s).run P w=.ok (.struct fs) w) (hx:Fr.ev fr x=some (.pointer (some (rad ad k)))) (hf:fs[f]? = some fd) (ho:fd.offset=o)
    (hs:∀ w,(sizeOf fd.type).run P w=.ok (n+1) w) :
    Yld P N fr H Γ (.fieldAddr s x f) ty (.pointer (some (rad ad (k+o)))) :=
  fun a v h1 h2 _ _ _ _=>by simp[execOp,h1.ev hx,Instr.fieldAt,hu,hf,Instr.sureAddr,fieldPlace,hs,rad,cp_,ho,Nat.add_assoc]
theorem bt_ {t:TypeId} {x:Operand} {ad:Option Addr} {k:Nat} {cs:List Value} {u:Value} (ha:∀ w,(isAgg t).run P w=.ok false w) (hx:Fr.ev fr x=some (.pointer (some (rad ad k))))
    (hr:∀ v,v.sat H→ag_ Γ v→bA_ v ad cs) (hu:cs[k]? = some u):Yld P N fr H Γ (.load t x) ty u :=
  fu_ hx (fun v h2 h4=>bH_ ha ((hr v h2 h4).cell hu))
theorem L_ {t:TypeId} {x:Operand} {ad:Option Addr} {k n:Nat} {cs us:List Value} (ha:∀ w,(isAgg t).run P w=.ok true w) (hs:∀ w,(sizeOf t).run P w=.ok n w) (hx:Fr.ev fr x=some (.pointer (some (rad ad k))))
    (hr:∀ v,v.sat H→ag_ Γ v→bA_ v ad cs) (hn:us.length=n) (hu:∀ j y,us[j]? = some y→cs[k+j]? = some y):Yld P N fr H Γ (.load t x) ty (.agg us.toArray) :=
  fu_ hx (fun v h2 h4=>dm_ ha hs hn (fun j y hj=>by
    have:=(hr v h2 h4).cell (hu j y hj)
    simpa [rad,Nat.add_assoc] using this))
theorem eD_ {k:Act→World→Prop} {b:Nat} {o:Obj} {F:Hp} (f:Fct) (hH:H.Perm ((b,o)::F)) (hf:∀ v:Vw,v.im b→v.w.heap[b]? = some o→ag_ Γ v→f.p v) (h:Ok N v0 H0 k fr F (f::Γ)):Ok N v0 H0 k fr H Γ:=by
 intro a v h1 h2 h3 h4
 have g:=h2.perm hH
 have hb:=g.own (b,o) (List.mem_cons_self)
 have hlt:b<v.w.heap.size:=(Array.getElem?_eq_some_iff.1 hb.1).1
 have hnd:=g.nodup
 rw[List.map_cons,List.nodup_cons]at hnd
 have hle:v.le ⟨fun x=>v.im x∨x=b,v.w,v.sl⟩:=⟨fun x hx=>.inl hx,fun _ _=>rfl,rfl⟩
 have hmem:b∈H.map Prod.fst:=(hH.map Prod.fst).mem_iff.2 (by simp)
 refine h a ⟨fun x=>v.im x∨x=b,v.w,v.sl⟩ h1 ⟨fun p hp=>⟨(g.own p (List.mem_cons_of_mem _ hp)).1,fun hi=>?_⟩,hnd.2,fun x hx=>?_⟩ ?_ ⟨hf _ (.inr rfl) hb.1 (aD_ hle h4),aD_ hle h4⟩
 ·rcases hi with hi|hi
  ·exact (g.own p (List.mem_cons_of_mem _ hp)).2 hi
  exact hnd.1 (by have:=List.mem_map_of_mem (f:=Prod.fst) hp;rw[hi]at this;exact this)
 ·rcases hx with hx|hx
  ·exact h2.lt x hx
  exact hx▸hlt
 refine⟨h3.os,h3.tape,h3.output,h3.size,h3.block,fun x hx=>.inl (h3.imUp x hx),fun x hx=>?_,fun x hx=>h3.hNew x ((hH.map Prod.fst).mem_iff.2 (by rw[List.map_cons];exact List.mem_cons_of_mem _ hx)),h3.sl,h3.dr⟩
 rcases hx with hx|hx
 ·exact h3.imNew x hx
 exact .inr (hx▸h3.hNew b hmem)
def ar_ (e:TypeId) (sz:Nat) (sv:Value) (n:Nat) (xs:List Value) (Hr:Hp):Prop :=
  xs.length=n*sz∧((sv=.slice none 0 0∧n=0∧Hr=[]) ∨
    ∃ g cap cur,sv=.slice (some ⟨g,0,none⟩) n cap∧Hr=[(g,.cells cur e (0,0))]∧n≤cap∧cap≤maxLen∧cur.size=cap*sz∧cur.toList.take (n*sz)=xs)
theorem ar_.nil (e:TypeId) (sz:Nat):ar_ e sz (.slice none 0 0) 0 [] []:=⟨by simp,.inl ⟨rfl,rfl,rfl⟩⟩
theorem ar_.owns {e:TypeId} {sz n:Nat} {sv:Value} {xs:List Value} {Hr F:Hp} {v:Vw} (h:ar_ e sz sv n xs Hr) (hs:v.sat (Hr++F)):v.w.ownsRow 0 e sz sv n xs:=by
 refine⟨h.1,?_⟩
 rcases h.2 with⟨h1,h2,_⟩|⟨g,cap,cur,h1,rfl,h3,h4,h5,h6⟩
 ·exact .inl ⟨h1,h2⟩
 exact .inr ⟨g,cap,cur,h1,Nat.zero_le _,(hs.own (g,.cells cur e (0,0)) (by simp)).1,h3,h4,h5,h6⟩
theorem lG_ {e:TypeId} {sz n n':Nat} {sv sv':Value} {xs ys:List Value} {Hr F:Hp} {v:Vw} {w':World} (h:ar_ e sz sv n xs Hr) (hs:v.sat (Hr++F)) (ho:w'.ownsRow 0 e sz sv' n' ys) (hg:v.w.grownBy w' sv.ownBlock) (hd:v.w.drawn≤w'.drawn)
    (hsame:∀ g,sv'.ownBlock=some g→sv.ownBlock=some g∨v.w.heap.size≤g) :
    ∃ Hr',ar_ e sz sv' n' ys Hr'∧(⟨v.im,w',v.sl⟩:Vw).sat (Hr'++F)∧v.to (Hr++F) ⟨v.im,w',v.sl⟩ (Hr'++F):=by
  have hlt:∀ p,p∈Hr++F→p.1<v.w.heap.size:=fun p hp=>(Array.getElem?_eq_some_iff.1 (hs.own p hp).1).1
  have hrow:∀ b,sv.ownBlock=some b→b∈Hr.map Prod.fst:=fun b hb=>by
    rcases h.2 with⟨rfl,_,_⟩|⟨g,cap,cur,rfl,rfl,_⟩
    · simp[Value.ownBlock]at hb
    · simp[Value.ownBlock]at hb;simp[hb]
  have hnd:=hs.nodup
  rw[List.map_append,List.nodup_append]at hnd
  have hF:∀ p,p∈F→some p.1≠sv.ownBlock:=fun p hp e=>hnd.2.2 _ (hrow p.1 e.symm) _ (List.mem_map_of_mem hp) rfl
  have hFold:∀ p,p∈F→w'.heap[p.1]? = some p.2∧¬ v.im p.1:=fun p hp=>by
    have:=hs.own p (List.mem_append_right _ hp)
    exact⟨by rw[hg.block _ (hlt p (List.mem_append_right _ hp)) (hF p hp)];exact this.1,this.2⟩
  have hto:∀ Hr':Hp,(∀ b,b∈Hr'.map Prod.fst→b∈Hr.map Prod.fst∨v.w.heap.size≤b)→v.to (Hr++F) ⟨v.im,w',v.sl⟩ (Hr'++F):=fun Hr' hh=>by
    refine⟨hg.os,hg.tape,hg.output,hg.size,fun b hb hn=>hg.block b hb (fun e=>hn ?_),fun _ h=>h,fun _ h=>.inl h,fun b hb=>?_,rfl,.inr hd⟩
    · rw[List.map_append];exact List.mem_append_left _ (hrow b e.symm)
    · rw[List.map_append]at hb ⊢
      rcases List.mem_append.1 hb with h1|h1
      · exact (hh b h1).imp (List.mem_append_left _) id
      · exact .inl (List.mem_append_right _ h1)
  rcases ho.2 with⟨h1,h2⟩|⟨g,cap,cur,h1,_,h3,h4,h5,h6,h7⟩
  · refine⟨[],⟨ho.1,.inl ⟨h1,h2,rfl⟩⟩,⟨fun p hp=>hFold p (by simpa using hp),by simpa using hnd.2.1,fun b hb=>Nat.lt_of_lt_of_le (hs.lt b hb) hg.size⟩,hto [] (by simp)⟩
  · have hgn:g∈Hr.map Prod.fst∨v.w.heap.size≤g:=(hsame g (by rw[h1];rfl)).imp (hrow g) id
    refine⟨[(g,.cells cur e (0,0))],⟨ho.1,.inr ⟨g,cap,cur,h1,rfl,h4,h5,h6,h7⟩⟩,⟨fun p hp=>?_,?_,fun b hb=>Nat.lt_of_lt_of_le (hs.lt b hb) hg.size⟩,hto _ (by simpa using hgn)⟩
    · rcases List.mem_append.1 hp with hp|hp
      · simp only[List.mem_singleton]at hp
        subst hp
        refine⟨h3,fun hi=>?_⟩
        rcases hgn with hgn|hgn
        · obtain⟨q,hq,rfl⟩:=List.mem_map.1 hgn
          exact (hs.own q (List.mem_append_left _ hq)).2 hi
        · have:=hs.lt _ hi;omega
      · exact hFold p hp
    · simp only[List.map_append,List.map_cons,List.map_nil,List.singleton_append,List.nodup_cons]
      refine⟨fun hm=>?_,hnd.2.1⟩
      obtain⟨q,hq,e⟩:=List.mem_map.1 hm
      rcases hgn with hgn|hgn
      · exact hnd.2.2 _ hgn _ (List.mem_map_of_mem hq) e.symm
      · have:=hlt q (List.mem_append_right _ hq);omega
theorem ir_ (w:World) {t ty' e:TypeId} {i:TypeInfo} {z:Value} {n m c sz:Nat} {sv v':Value} {w':World} {xs news:List Value} {ad:Addr} (ht:P.underlying t=some (.slice e)) (hi:P.info? e=some i) (hz:i.zero=some z)
    (hsz:i.size=sz) (hown:w.ownsRow 0 e sz sv n xs) (hl:news.length=m*sz) (hnews:∀ j u,news[j]? = some u→w.cell? (ad.add j)=some u) (h1:∀ u∈news,u.oneCell'=true) (h63:n+m≤maxLen) (hb:(n+m)*i.bytes≤140737488355328)
    (hr:(Builtin.append_ #[t,t] ty' #[sv,.slice (some ad) m c]).run P w=.ok v' w'):w.drawn≤w'.drawn∧∀ g,v'.ownBlock=some g→sv.ownBlock=some g∨w.heap.size≤g:=by
  subst hsz
  have hsmall:n+m≤9223372036854775807:=by simp only[maxLen]at h63;omega
  rcases hown.2 with⟨rfl,rfl⟩|⟨b,cap,cur,rfl,_,hgg,hnc,_,hcs,htake⟩
  · by_cases hm:m=0
    · subst hm
      have hn:news=[]:=List.eq_nil_of_length_eq_zero (by simpa using hl)
      subst hn
      have:(Builtin.append_ #[t,t] ty' #[.slice none 0 0,.slice (some ad) 0 c]).run P w=.ok (.slice none 0 0) w:=by
        simp[Builtin.append_,run_underlying ht,sizeOf,typeInfo,hi,Builtin.lenOf,Builtin.firstCells,loadCells,loadCellsFrom]
      rw[this]at hr
      cases hr
      exact⟨Nat.le_refl _,fun g hg=>by simp[Value.ownBlock]at hg⟩
    · have:=run_append_nil (P:=P) w t ty' e i z ht hi hz ad m c news hl hnews (by omega) (by omega) (by simp only[Nat.zero_add]at hb;omega)
      rw[this]at hr
      cases hr
      refine⟨by simp,fun g hg=>?_⟩
      simp only[Value.ownBlock,Option.some.injEq]at hg
      exact .inr (by omega)
  · by_cases hroom:n+m≤cap
    · have hfit:n*i.size+news.length≤cur.size:=by rw[hl,hcs,← Nat.add_mul];exact Nat.mul_le_mul_right _ hroom
      have:=run_append_room (P:=P) w t ty' e i ht hi b n cap cur hgg ad m c news hl hnews h1 hroom hfit
      rw[this]at hr
      cases hr
      exact⟨by simp,fun g hg=>.inl hg⟩
    · have ag_:∀ j u,xs[j]? = some u→w.cell? ((⟨b,0,none⟩:Addr).add j)=some u:=hown.cells (g:=b) rfl
      have:=run_append_grow (P:=P) w t ty' e i z ht hi hz ⟨b,0,none⟩ n cap xs hown.1 ag_ ad m c news hl hnews (by omega) (by omega) (growslice_fits (by omega) hb)
      rw[this]at hr
      cases hr
      refine⟨by simp,fun g hg=>?_⟩
      simp only[Value.ownBlock,Option.some.injEq]at hg
      exact .inr (by omega)
structure Elt (P:Program) (t e:TypeId) (sz by':Nat):Prop where
  und:P.underlying t=some (.slice e)
  info:∃ i z,P.info? e=some i∧i.zero=some z∧i.size=sz∧i.bytes=by'∧z.cells.size=sz
  pos:0<sz
theorem aX_ {x y:Operand} {t e:TypeId} {sz by' n m c:Nat} {sv:Value} {xs news:List Value} {Hr F:Hp} {ad:Addr} (he:Elt P t e sz by') (hrow:ar_ e sz sv n xs Hr)
    (hx:Fr.ev fr x=some sv) (hy:Fr.ev fr y=some (.slice (some ad) m c)) (hH:H.Perm (Hr++F)) (hl:news.length=m*sz) (hnews:∀ v,v.sat H→ag_ Γ v→∀ j u,news[j]? = some u→v.w.cell? (ad.add j)=some u) (h1c:∀ u∈news,u.oneCell'=true)
    (h63:n+m≤maxLen) (hb:(n+m)*by'≤140737488355328) (hN:Nat.blt d N.n=true)
    (hk:∀ sv' Hr',ar_ e sz sv' (n+m) (xs++news) Hr'→Ops P R N v0 H0 ops l K ((d,sv')::fr) (Hr'++F) Γ) :
    Ops P R N v0 H0 ops (⟨some d,.call ⟨.builtin .append,#[x,y],#[t,t]⟩,ty,ps,af,none⟩::l) K fr H Γ :=
  cF_ rfl fun a v h1 h2 h3 h4=>by
    obtain⟨i,z,hi,hz,es,eb,ez⟩:=he.info
    have g:=h2.perm hH
    have hn:=hnews v h2 h4
    have ho:=hrow.owns g
    obtain⟨v',w',hr,q1,q2,_⟩:=run_append_own (P:=P) v.w 0 t ty e i z sz by' he.und hi hz es eb ez he.pos sv n xs ho ad m c news hl hn h1c h63 hb (Nat.zero_le _)
    obtain⟨a1,a2⟩:=ir_ v.w he.und hi hz es ho hl hn h1c h63 (by rw[eb];exact hb) hr
    obtain⟨Hr',k1,k2,k3⟩:=lG_ hrow g q1 q2 a1 a2
    unfold Oper.wp execOp
    simp only[resolve,invoke,builtin,Sem.run_bind,Sem.run_pure,Result.andThen_ok,List.map_toArray,List.map_cons,List.map_nil,h1.ev hx,h1.ev hy,hr]
    exact hk v' Hr' k1 _ ⟨v.im,w',v.sl⟩ (h1.put hN) k2 (h3.trans (k3.permL hH.symm)) (aD_ ((k3.permL hH.symm).le h2) h4)
theorem qF_ {t:TypeId} {parts:Array (Nat×Operand)} {u:Value} (hb:∀ a:Act,Fr.sat N fr a→∀ w,(Instr.build t (parts.map fun (i,x)=>(i,a.eval x))).run P w=.ok u w) :
    Yld P N fr H Γ (.build t parts) ty (u) :=
  fun a v h1 h2 h4 _ _ _=>by
    have:=hb a h1 v.w
    simp only[execOp,Sem.run_bind,this,Result.andThen_ok,Sem.run_pure]
def Fr.evp (fr:Fr):List (Nat×Operand)→Option (List (Nat×Value))
  | []=>some []
  | (i,x)::r=>match Fr.ev fr x with
    | some v=>match Fr.evp fr r with
      | some vs=>some ((i,v)::vs)
      | none=>none
    | none=>none
theorem Fr.sat.evp {a:Act} (h:Fr.sat N fr a):∀ {xs:List (Nat×Operand)} {vs:List (Nat×Value)},Fr.evp fr xs=some vs→xs.map (fun (i,x)=>(i,a.eval x))=vs
 | [],vs,e=>by simp only[Fr.evp,Option.some.injEq]at e;subst e;rfl
 | (i,x)::r,vs,e=>by
   simp only[Fr.evp]at e
   split at e
   · rename_i u hu
     split at e
     · rename_i us hus
       simp only[Option.some.injEq]at e;subst e
       show (i,a.eval x)::_=_
       rw[h.ev hu]
       exact congrArg _ (h.evp hus)
     · cases e
   · cases e
def iF_:List Value→Nat→List Value→List Value
  | cs,0,[]=>cs
  | _::cs,0,v::vs=>v::iF_ cs 0 vs
  | c::cs,n+1,vs=>c::iF_ cs n vs
  | [],_,_=>[]
theorem nU_:∀ (cs:List Value) (n:Nat),iF_ cs n []=cs
  | [],0=>rfl
  | [],n+1=>rfl
  | c::cs,0=>rfl
  | c::cs,n+1=>by simp only[iF_];rw[nU_ cs n]
theorem lz_:∀ (cs:List Value) (n:Nat) (v:Value) (vs:List Value),iF_ cs n (v::vs)=iF_ (cs.set n v) (n+1) vs
  | [],0,v,vs=>by simp[iF_]
  | [],n+1,v,vs=>by simp[iF_]
  | c::cs,0,v,vs=>by simp[iF_]
  | c::cs,n+1,v,vs=>by simp only[iF_,List.set_cons_succ];rw[lz_ cs n v vs]
theorem lI_ (off:Nat):∀ (vs:List Value) (k:Nat) (cs:List Value),
    (vs.zipIdx k).foldl (fun (cs:Array Value) (p:Value×Nat)=>cs.setIfInBounds (off+p.2) p.1) cs.toArray=(iF_ cs (off+k) vs).toArray
  | [],k,cs=>by simp[nU_]
  | v::vs,k,cs=>by
    simp only[List.zipIdx_cons,List.foldl_cons]
    rw[lz_,show cs.toArray.setIfInBounds (off+k) v=(cs.set (off+k) v).toArray by simp,lI_ off vs (k+1)]
    rfl
def kw_ (place:Nat→Option (Nat×Nat)):List Value→List (Nat×Value)→Option (List Value)
  | cells,[]=>some cells
  | cells,(i,v)::rest=>match place i with
    | none=>none
    | some (off,size)=>bif Nat.beq v.cells.toList.length size&&Nat.ble (off+size) cells.length then kw_ place (iF_ cells off v.cells.toList) rest else none
theorem ii_ (place:Nat→Option (Nat×Nat)):∀ (vs:List (Nat×Value)) (cells cs:List Value),kw_ place cells vs=some cs→Instr.fill place cells.toArray vs=some cs.toArray
  | [],cells,cs,h=>by simp only[kw_,Option.some.injEq]at h;subst h;rfl
  | (i,v)::rest,cells,cs,h=>by
    simp only[kw_]at h
    cases hp:place i with
    | none=>rw[hp]at h;cases h
    | some q =>
      obtain⟨off,size⟩:=q
      rw[hp]at h
      simp only at h
      cases hb:(Nat.beq v.cells.toList.length size&&Nat.ble (off+size) cells.length) with
      | false=>rw[hb]at h;cases h
      | true =>
        rw[hb,cond_true]at h
        simp only[Bool.and_eq_true]at hb
        have e1:v.cells.size=size:=by simpa using Nat.eq_of_beq_eq_true hb.1
        have e2:off+size≤cells.length:=Nat.le_of_ble_eq_true hb.2
        have ih:=ii_ place rest _ _ h
        have hz:=lI_ off v.cells.toList 0 cells
        simp only[Nat.add_zero]at hz
        have hz':v.cells.zipIdx.foldl (fun (cs:Array Value) (p:Value×Nat)=>cs.setIfInBounds (off+p.2) p.1) cells.toArray=(iF_ cells off v.cells.toList).toArray:=by
          rw[← hz,← Array.foldl_toList]
          simp[Array.toList_zipIdx]
        simp only[Instr.fill,hp]
        rw[if_neg (by simp[e1];omega)]
        exact hz'▸ih
def iT_ (P:Program) (t:TypeId) (pl:List (Nat×Nat)) (z:List Value):Prop :=
  ∃ fs:Array Field,(∀ w,(zeroValue t).run P w=.ok (.agg z.toArray) w)∧(∀ w,(underlying t).run P w=.ok (.struct fs) w)∧(∀ w,(fs.mapM (fun (f:Field)=>(do pure (f.offset,← sizeOf f.type):Sem (Nat×Nat)))).run P w=.ok pl.toArray w)
theorem A_ {t:TypeId} {parts:List (Nat×Operand)} {vs:List (Nat×Value)} {pl:List (Nat×Nat)} {z cs:List Value} (hs:iT_ P t pl z) (hx:Fr.evp fr parts=some vs) (hf:kw_ (fun i=>pl[i]?) z vs=some cs) :
    Yld P N fr H Γ (.build t parts.toArray) ty (.agg cs.toArray) :=
  qF_ (fun a h1 w=>by
    obtain⟨fs,e1,e2,e3⟩:=hs
    have:=h1.evp hx
    rw[List.map_toArray,this]
    have hf':=ii_ _ _ _ _ hf
    have hg:Instr.fill (fun i=>pl.toArray[i]?) z.toArray vs=some cs.toArray:=by simpa using hf'
    simp only[Instr.build,Sem.run_bind,e1,Result.andThen_ok,e2,e3,Value.cells,hg,Sem.run_pure])
def ha_ (z:List Value):Nat→List Value
  | 0=>[]
  | n+1=>z++ha_ z n
theorem mY_ (z:List Value) (hz:0<z.length):∀ (n i:Nat),i<n*z.length→(ha_ z n)[i]? = z[i%z.length]?
 | 0,i,h=>by simp at h
 | n+1,i,h=>by
   simp only[ha_]
   by_cases hi:i<z.length
   · rw[List.getElem?_append_left hi,Nat.mod_eq_of_lt hi]
   · rw[List.getElem?_append_right (by omega),mY_ z hz n (i - z.length) (by rw[Nat.add_mul]at h;omega)]
     rw[← Nat.mod_eq_sub_mod (by omega)]
theorem gl_ (z:List Value):∀ n,(ha_ z n).length=n*z.length
  | 0=>by simp[ha_]
  | n+1=>by simp only[ha_,List.length_append,gl_ z n,Nat.add_mul];omega
theorem hv_ (z:List Value) (hz:0<z.length) (n:Nat):(Array.range (n*z.length)).map (fun i=>z.toArray[i%z.toArray.size]!)=(ha_ z n).toArray:=by
 apply Array.ext'
 apply List.ext_getElem?
 intro i
 simp only[Array.toList_map,Array.toList_range,List.getElem?_map]
 by_cases hi:i<n*z.length
 ·rw[mY_ z hz n i hi,List.getElem?_range hi]
  have hm:i%z.length<z.length:=Nat.mod_lt _ hz
  simp[hm]
 rw[List.getElem?_eq_none (by simpa using hi),List.getElem?_eq_none (by rw[gl_];omega)]
 rfl
theorem B_ {t e:TypeId} {len sz:Nat} {parts:List (Nat×Operand)} {vs:List (Nat×Value)} {zv:Value} {cs:List Value} (hu:∀ w,(underlying t).run P w=.ok (.slice e) w) (hs:∀ w,(sizeOf e).run P w=.ok sz w) (hz:∀ w,(zeroValue e).run P w=.ok zv w)
    (hzl:zv.cells.toList.length=sz) (hp:Nat.blt 0 (len*sz)=true) (hle:Nat.ble (len*sz) 16777216=true) (hx:Fr.evp fr parts=some vs) (hf:kw_ (fun i=>some (i*sz,sz)) (ha_ zv.cells.toList len) vs=some cs) (hN:Nat.blt d N.n=true)
    (hk:∀ b,Ops P R N v0 H0 ops l K ((d,.slice (some ⟨b,0,none⟩) len len)::fr) ((b,.cells cs.toArray e (0,0))::H) Γ):Ops P R N v0 H0 ops (⟨some d,.buildSlice t len parts.toArray,ty,ps,af,none⟩::l) K fr H Γ :=
  gT_ (x:=fun b=>.slice (some ⟨b,0,none⟩) len len) hN (fun a v h1 h2 h4=>by
    have hx':=h1.evp hx
    have hf':=ii_ _ _ _ _ hf
    have hpos:0<len*sz:=by simpa [Nat.blt_eq] using hp
    have hszp:0<sz:=Nat.pos_of_mul_pos_left hpos
    have hle':len*sz≤16777216:=Nat.le_of_ble_eq_true hle
    have hr:=hv_ zv.cells.toList (by omega) len
    rw[hzl]at hr
    simp only[Array.toArray_toList]at hr
    rw[← hr]at hf'
    simp only[execOp,Instr.buildSlice,Sem.run_bind,hu,Result.andThen_ok,hs,List.map_toArray,hx']
    rw[if_neg (by omega),if_neg (by omega)]
    simp only[Sem.run_bind,Sem.run_pure,hz,Result.andThen_ok,hf']
    rfl) hk
end ops
end Go.Sx
namespace Go.Sx
open Go
section ops
variable {P:Program} {N:Nf} {v0:Vw} {H0:Hp} {R:Exit→Act→World→Prop} {K:List Kt} {fr:Fr} {H:Hp} {Γ:List Fct}
variable {ops:Array Oper} {l:List Oper} {d:Nat} {ty:TypeId} {ps:String} {af:Array Edge}
theorem nD_ (h:Array Obj) (o:Obj) (f:Obj→Obj):(h.push o).modify h.size f=h.push (f o):=by
 apply Array.ext_getElem?
 intro i
 rw[Array.getElem?_modify]
 by_cases e:h.size=i
 ·subst e;simp
 rw[if_neg e,Array.getElem?_push,Array.getElem?_push,if_neg (fun h=>e h.symm),if_neg (fun h=>e h.symm)]
def bytesV (m:List UInt8):List Value:=m.map fun c=>.int .u8 (c.toNat:Int)
theorem uw_ {x:Operand} {s t e:TypeId} {m:List UInt8} (hs:∀ w,(underlying s).run P w=.ok .string w) (ht:∀ w,(underlying t).run P w=.ok (.slice e) w) (he:∀ w,(underlying e).run P w=.ok (.int .u8) w)
    (hx:Fr.ev fr x=some (str m)) (hN:Nat.blt d N.n=true)
    (hk:∀ cap b,m.length≤cap→Ops P R N v0 H0 ops l K ((d,.slice (some ⟨b,0,none⟩) m.length cap)::fr) ((b,.cells (bytesV m++List.replicate (cap - m.length) (Value.int .u8 0)).toArray e (cap,cap+1))::H) Γ) :
    Ops P R N v0 H0 ops (⟨some d,.convert s t x,ty,ps,af,none⟩::l) K fr H Γ :=
  kg_ (β:=Nat) (x:=fun cap b=>.slice (some ⟨b,0,none⟩) m.length cap) (o:=fun cap=>.cells (bytesV m++List.replicate (cap - m.length) (Value.int .u8 0)).toArray e (cap,cap+1)) (fun cap=>m.length≤cap) hN
    (fun a v h1 h2 h4=>by
      have hge:m.length≤(Question.appendCap m.length 0 e).cut (v.w.tape v.w.drawn (.appendCap m.length 0 e)):=by simp[Question.cut]
      generalize hc:(Question.appendCap m.length 0 e).cut (v.w.tape v.w.drawn (.appendCap m.length 0 e))=cap at hge
      have hsz:(bytesV m++List.replicate (cap - m.length) (Value.int .u8 0)).length=cap:=by simp[bytesV];omega
      have e1:(⟨m.toArray⟩:ByteArray).size=m.length:=by simp[ByteArray.size]
      have e2:(Array.map (fun (b:UInt8)=>Value.int .u8 (b.toNat:Int)) m.toArray++Array.replicate (cap - m.length) (Value.int .u8 0))=(bytesV m++List.replicate (cap - m.length) (Value.int .u8 0)).toArray:=by simp[bytesV]
      refine⟨cap,{ v.w with heap:=v.w.heap.push (.cells (bytesV m++List.replicate (cap - m.length) (Value.int .u8 0)).toArray e (cap,cap+1)),drawn:=v.w.drawn+1 },hge,?_,rfl,rfl,rfl,rfl,Nat.le_succ _⟩
      have hst:(Conv.stringToBytes e ⟨m.toArray⟩).run P v.w=.ok (.slice (some ⟨v.w.heap.size,0,none⟩) m.length cap) { v.w with heap:=v.w.heap.push (.cells (bytesV m++List.replicate (cap - m.length) (Value.int .u8 0)).toArray e (cap,cap+1)),drawn:=v.w.drawn+1 }:=by
        generalize bytesV m++List.replicate (cap - m.length) (Value.int .u8 0)=cs at hsz e2 ⊢
        simp only[Conv.stringToBytes,e1]
        show Sem.run P (choose _ >>= _) v.w=_
        rw[Sem.run_bind]
        have hch:(choose (.appendCap m.length 0 e)).run P v.w=.ok cap { v.w with drawn:=v.w.drawn+1 }:=by
          simp[choose,Sem.run,Question.forced,hc]
        rw[hch,Result.andThen_ok,e2]
        simp only[newRow,Sem.run_bind,newObj,markStringish,shape,freeze]
        simp only[Sem.run,Result.andThen_ok,World.shape?,Array.getElem?_push_size,List.size_toArray,hsz,World.freeze,Nat.one_ne_zero,if_false,Sem.run_pure]
        rw[nD_]
        simp
      simp only[execOp,Sem.run_bind,convert,hs,ht,he,Result.andThen_ok,h1.ev hx,str,hst,Sem.run_pure])
    (fun cap b hq=>hk cap b hq)
theorem hk_ {t:TypeId} {x:Operand} {lo hi:Option Operand} {m:List UInt8} {i j:Nat} {kl kh:IntKind} (hu:∀ w,(underlying t).run P w=.ok .string w) (hx:Fr.ev fr x=some (str m))
    (hlo:match lo with|some y=>Fr.ev fr y=some (.int kl (i:Int))|none=>i=0) (hhi:match hi with|some y=>Fr.ev fr y=some (.int kh (j:Int))|none=>j=m.length) (hij:i≤j) (hj:j≤m.length) :
    Yld P N fr H Γ (.slice t x lo hi none) ty (str ((m.drop i).take (j - i))) :=
  fun a v h1 h2 h4 _ _ _=>by
    have e1:(⟨m.toArray⟩:ByteArray).size=m.length:=by simp[ByteArray.size]
    have e2:=ByteArray.extract_mk m i j
    cases lo<;>cases hi<;>simp only at hlo hhi
    · subst hlo hhi;simp[execOp,Instr.sliceAt,Instr.slice,hu,h1.ev hx,str,Instr.sliceBounds,e1,e2]
    · subst hlo;simp[execOp,Instr.sliceAt,Instr.slice,hu,h1.ev hx,h1.ev hhi,str,Instr.sliceBounds,Instr.sliceBound,asIntOf,e1,e2,hj]
    · subst hhi;simp[execOp,Instr.sliceAt,Instr.slice,hu,h1.ev hx,h1.ev hlo,str,Instr.sliceBounds,Instr.sliceBound,asIntOf,e1,e2,hij]
    · simp[execOp,Instr.sliceAt,Instr.slice,hu,h1.ev hx,h1.ev hlo,h1.ev hhi,str,Instr.sliceBounds,Instr.sliceBound,asIntOf,e1,e2,hij,hj]
def sad (ad:Option Addr) (cap i n:Nat):Option Addr:=if cap=i then ad else ad.map (·.add (i*n))
theorem df_ {t e:TypeId} {x:Operand} {lo hi:Option Operand} {ad:Option Addr} {len cap i j n:Nat} {kl kh:IntKind} (hu:∀ w,(underlying t).run P w=.ok (.slice e) w) (hs:∀ w,(sizeOf e).run P w=.ok n w) (hx:Fr.ev fr x=some (.slice ad len cap))
    (hlo:match lo with|some y=>Fr.ev fr y=some (.int kl (i:Int))|none=>i=0) (hhi:match hi with|some y=>Fr.ev fr y=some (.int kh (j:Int))|none=>j=len) (hij:i≤j) (hj:j≤cap) :
    Yld P N fr H Γ (.slice t x lo hi none) ty (.slice (sad ad cap i n) (j - i) (cap - i)) :=
  fun a v h1 h2 h4 _ _ _=>by
    cases lo<;>cases hi<;>simp only at hlo hhi
    · subst hlo hhi;simp[execOp,Instr.sliceAt,Instr.slice,hu,hs,h1.ev hx,Instr.sliceBounds,sad]
    · subst hlo;simp[execOp,Instr.sliceAt,Instr.slice,hu,hs,h1.ev hx,h1.ev hhi,Instr.sliceBounds,Instr.sliceBound,asIntOf,hj,sad]
    · subst hhi;simp[execOp,Instr.sliceAt,Instr.slice,hu,hs,h1.ev hx,h1.ev hlo,Instr.sliceBounds,Instr.sliceBound,asIntOf,hij,sad]
    · simp[execOp,Instr.sliceAt,Instr.slice,hu,hs,h1.ev hx,h1.ev hlo,h1.ev hhi,Instr.sliceBounds,Instr.sliceBound,asIntOf,hij,hj,sad]
theorem bA_.sad {v:Vw} {ad:Option Addr} {cs:List Value} {cap i n:Nat} (h:bA_ v ad cs) (ds:List Value) (hs:∀ j x,ds[j]? = some x→cs[i*n+j]? = some x) (hc:cs.length≤cap*n):bA_ v (sad ad cap i n) ds:=by
 unfold Sx.sad
 split
 ·rename_i hci
  subst hci
  left
  cases ds with
  | nil=>rfl
  | cons d ds =>
    have:=hs 0 d rfl
    rw[List.getElem?_eq_none (by omega)]at this
    cases this
 exact h.drop (i*n) ds hs
theorem dw_ {fn:Fn} {xs ys:List Operand} {us vs:List Value} (hx:Fr.evs fr xs=some us) (hy:Fr.evs fr ys=some vs):Yld P N fr H Γ (.makeFunc fn xs.toArray ys.toArray) ty (.func fn us.toArray vs.toArray) :=
  fun a v h1 h2 h4 _ _ _=>by
    have e1:=h1.evs hx
    have e2:=h1.evs hy
    simp[execOp,Instr.makeFunc,e1,e2]
theorem ax_ {f:FuncId} {g:Operand} {first cap:List Value} {xs:List Operand} {ats:Array TypeId} {vs:List Value} {ι:Type} {Hc F:Hp} {Γc:List Fct} {ret:ι→Value} {H':ι→Hp} {Γ':ι→List Fct}
    (hT:Tri P f (first++vs++cap).toArray Hc Γc ret H' Γ') (hg:Fr.ev fr g=some (.func (.func f) first.toArray cap.toArray)) (hx:Fr.evs fr xs=some vs) (hH:H.Perm (Hc++F)) (hΓ:∀ v,v.sat H→ag_ Γ v→ag_ Γc v) (hN:Nat.blt d N.n=true)
    (hk:∀ x,Ops P R N v0 H0 ops l K ((d,ret x)::fr) (H' x++F) (Γ' x++Γ)) :
    Ops P R N v0 H0 ops (⟨some d,.call ⟨.value g,xs.toArray,ats⟩,ty,ps,af,none⟩::l) K fr H Γ :=
  lu_ hT (fun a w h1=>by
    have e1:=h1.evs hx
    have hc:=hT.callable (first++vs++cap).toArray w
    simp only[execOp,resolve,Deferred.ofValue,h1.ev hg,invoke,List.map_toArray,e1,Sem.run_bind,Sem.run_pure,Result.andThen_ok,List.append_toArray,hc]) hH hΓ hN hk
end ops
end Go.Sx
namespace Go.Sx
open Go
class NoPan (R:Exit→Act→World→Prop):Prop where
  st:∀ c a d x w,R (.panic c) (a.put d x) w→R (.panic c) a w
instance {P:Program} {fn:Func} {ι:Type} {v0:Vw} {H0:Hp} {ret:ι→Value} {H':ι→Hp} {Γ':ι→List Fct}:NoPan (bodyPost P fn (jt_ v0 H0 ret H' Γ')) :=
  ⟨fun c a d x w h=>by obtain⟨_,y,v',e,_⟩:=h;cases e⟩
instance {N:Nf} {v0:Vw} {H0:Hp} {ι:Type} {frs:ι→Fr} {Hs:ι→Hp} {Γs:ι→List Fct}:NoPan (Mid N v0 H0 frs Hs Γs) :=
  ⟨fun c a d x w h=>by cases h.1⟩
theorem hT_ {P:Program} {R:Exit→Act→World→Prop} [hR:NoPan R] {c:List PanicEntry} {a:Act} {d:Option Tmp} {x:Value} {w:World}:∀ (K:List Kt),post P R K (.panic c) (a.put d x) w→post P R K (.panic c) a w
  | [],h=>hR.st c a d x w h
  | .seq _::K,h=>hT_ K h
  | .inv _::K,h=>hT_ K h
  | .blk _::K,h=>hT_ K h
def SW (Hs:Hp) (Γs:List Fct) (w:World):Prop:=∃ v:Vw,v.w=w∧v.sat Hs∧ag_ Γs v
section any
variable {P:Program} {N:Nf} {v0:Vw} {H0:Hp} {R:Exit→Act→World→Prop} {K:List Kt} {fr:Fr} {H Hs:Hp} {Γ Γs:List Fct}
variable {ops:Array Oper} {d:Nat} {ty:TypeId} {ps:String} {af:Array Edge} {fuel:Nat} {listed:Array Bool}
abbrev Any (P:Program) (R:Exit→Act→World→Prop) (N:Nf) (v0:Vw) (H0:Hp) (ops:Array Oper) (Hs:Hp) (Γs:List Fct) (fuel:Nat) (listed:Array Bool) (K:List Kt) (fr:Fr) (H:Hp) (Γ:List Fct):Prop :=
  Ok N v0 H0 (wpAnyH P .any ops (post P R K) (SW Hs Γs) fuel listed) fr H Γ
theorem nt_ {id:Nat} (Hs:Hp) (Γs:List Fct) (hm:P.follows .mixedOrders=true) (h:Any P R N v0 H0 ops Hs Γs ops.size (Array.replicate ops.size false) K fr H Γ):Run P R N v0 H0 (.region id ops true) K fr H Γ :=
  fun a v h1 h2 h3 h4=>wp_region_held hm (by
    have hle:v.le ⟨v.im,{ v.w with drawn:=v.w.drawn+1 },v.sl⟩:=⟨fun _ h=>h,fun _ _=>rfl,rfl⟩
    exact h a ⟨v.im,{ v.w with drawn:=v.w.drawn+1 },v.sl⟩ h1 ⟨h2.own,h2.nodup,h2.lt⟩ ⟨h3.os,h3.tape,h3.output,h3.size,h3.block,h3.imUp,h3.imNew,h3.hNew,h3.sl,h3.dr.imp (fun h=>h) fun h=>Nat.le_succ_of_le h⟩ (aD_ hle h4))
theorem qW_ {id:Nat} (hm:P.follows .mixedOrders=true) (h:Any P R N v0 H0 ops H Γ ops.size (Array.replicate ops.size false) K fr H Γ):Run P R N v0 H0 (.region id ops true) K fr H Γ:=nt_ H Γ hm h
theorem Vw.sat.tail {v:Vw} {p:Nat×Obj} (h:v.sat (p::H)):v.sat H :=
  ⟨fun x hx=>h.own x (List.mem_cons_of_mem _ hx),by have:=h.nodup;rw[List.map_cons,List.nodup_cons]at this;exact this.2,h.lt⟩
theorem mV_ [NoPan R] (i:Nat) {oi:Oper} {x:Value} (hi:ops[i]? = some oi) (hn:Region.noSelect ops=true) (hf:Region.free .any ops listed i=true) (hr:(Region.ready .any ops listed).contains i=true)
    (hd:oi.dst=some d) (hN:Nat.blt d N.n=true) (hy:∀ a,Fr.sat N fr a→YieldsIf P ops (SW Hs Γs) oi x a) (hs:∀ v,v.sat H→ag_ Γ v→v.sat Hs∧ag_ Γs v)
    (h:Any P R N v0 H0 ops Hs Γs fuel (listed.setIfInBounds i true) K ((d,x)::fr) H Γ):Any P R N v0 H0 ops Hs Γs (fuel+1) listed K fr H Γ :=
  fun a v h1 h2 h3 h4=>wpAnyH_take hi hn hf hr (fun c a w hq=>hT_ K hq) (hy a h1) ⟨v,rfl,hs v h2 h4⟩ (by
    rw[hd]
    exact h _ v (h1.put hN) h2 h3 h4)
theorem tN_ [NoPan R] (i:Nat) {op:Op} {x:Value} (hi:ops[i]? = some ⟨some d,op,ty,ps,af,none⟩) (hn:Region.noSelect ops=true) (hf:Region.free .any ops listed i=true) (hr:(Region.ready .any ops listed).contains i=true)
    (he:Yld P N fr Hs Γs op ty x) (hN:Nat.blt d N.n=true) (hs:∀ v,v.sat H→ag_ Γ v→v.sat Hs∧ag_ Γs v)
    (h:Any P R N v0 H0 ops Hs Γs fuel (listed.setIfInBounds i true) K ((d,x)::fr) H Γ):Any P R N v0 H0 ops Hs Γs (fuel+1) listed K fr H Γ :=
  mV_ i hi hn hf hr rfl hN (fun a h1=>.inl ⟨rfl,fun w ⟨v,e,k1,k2⟩=>by subst e;exact he a v h1 k1 k2 (some d) ps af⟩) hs h
theorem rU_ [NoPan R] (i:Nat) {op:Op} {x:Value} {j t:Nat} {want:Bool} (hi:ops[i]? = some ⟨some d,op,ty,ps,af,some (j,want)⟩) (hn:Region.noSelect ops=true) (hf:Region.free .any ops listed i=true) (hr:(Region.ready .any ops listed).contains i=true)
    (hj:gg_ ops j=some t) (hx:Fr.get fr t=some (.bool want)) (he:Yld P N fr Hs Γs op ty x) (hN:Nat.blt d N.n=true) (hs:∀ v,v.sat H→ag_ Γ v→v.sat Hs∧ag_ Γs v)
    (h:Any P R N v0 H0 ops Hs Γs fuel (listed.setIfInBounds i true) K ((d,x)::fr) H Γ):Any P R N v0 H0 ops Hs Γs (fuel+1) listed K fr H Γ :=
  mV_ i hi hn hf hr rfl hN (fun a h1=>.inl ⟨by simp[Region.wanted,es_ h1 hj hx],fun w ⟨v,e,k1,k2⟩=>by subst e;exact he a v h1 k1 k2 (some d) ps af⟩) hs h
theorem any_no [NoPan R] (i:Nat) {op:Op} {x:Value} {j t:Nat} {want:Bool} (hi:ops[i]? = some ⟨some d,op,ty,ps,af,some (j,want)⟩) (hn:Region.noSelect ops=true) (hf:Region.free .any ops listed i=true) (hr:(Region.ready .any ops listed).contains i=true)
    (hj:gg_ ops j=some t) (hx:Fr.get fr t=some x) (hne:(match x with|.bool b=>Bool.xor b want|_=>true)=true) (hN:Nat.blt d N.n=true) (hs:∀ v,v.sat H→ag_ Γ v→v.sat Hs∧ag_ Γs v)
    (h:Any P R N v0 H0 ops Hs Γs fuel (listed.setIfInBounds i true) K ((d,undef)::fr) H Γ):Any P R N v0 H0 ops Hs Γs (fuel+1) listed K fr H Γ :=
  mV_ i hi hn hf hr rfl hN (fun a h1=>.inr ⟨by
    simp only[Region.wanted,es_ h1 hj hx]
    cases x<;>first|rfl|(rename_i b;cases b<;>cases want<;>simp_all),rfl⟩) hs h
def gQ_ (ops:Array Oper):Array Bool→List Nat→Bool
  | _,[]=>true
  | listed,i::is=>Region.free .any ops listed i&&((Region.ready .any ops listed).contains i&&gQ_ ops (listed.setIfInBounds i true) is)
def Sq (P:Program) (R:Exit→Act→World→Prop) (N:Nf) (v0:Vw) (H0:Hp) (ops:Array Oper) (Hs:Hp) (Γs:List Fct) (is:List Nat) (fuel:Nat) (listed:Array Bool) (K:List Kt) (fr:Fr) (H:Hp) (Γ:List Fct):Prop :=
  (Region.noSelect ops&&gQ_ ops listed is)=true→(∀ v,v.sat H→ag_ Γ v→v.sat Hs∧ag_ Γs v)→Any P R N v0 H0 ops Hs Γs (fuel+is.length) listed K fr H Γ
theorem Q_ (fuel:Nat) (is:List Nat) (hq:(Region.noSelect ops&&gQ_ ops listed is)=true) (hs:∀ v,v.sat H→ag_ Γ v→v.sat Hs∧ag_ Γs v) (h:Sq P R N v0 H0 ops Hs Γs is fuel listed K fr H Γ):Any P R N v0 H0 ops Hs Γs (fuel+is.length) listed K fr H Γ:=h hq hs
theorem ba_ (h:Any P R N v0 H0 ops Hs Γs fuel listed K fr H Γ):Sq P R N v0 H0 ops Hs Γs [] fuel listed K fr H Γ:=fun _ _=>h
theorem jU_ {i:Nat} {is:List Nat} (h:(Region.noSelect ops&&gQ_ ops listed (i::is))=true):Region.noSelect ops=true∧Region.free .any ops listed i=true∧(Region.ready .any ops listed).contains i=true∧(Region.noSelect ops&&gQ_ ops (listed.setIfInBounds i true) is)=true:=by
  simp only[gQ_,Bool.and_eq_true]at h ⊢
  exact⟨h.1,h.2.1,h.2.2.1,h.1,h.2.2.2⟩
theorem P_ [NoPan R] {i:Nat} {is:List Nat} {op:Op} {x:Value} (hi:ops[i]? = some ⟨some d,op,ty,ps,af,none⟩) (he:Yld P N fr Hs Γs op ty x) (hN:Nat.blt d N.n=true)
    (h:Sq P R N v0 H0 ops Hs Γs is fuel (listed.setIfInBounds i true) K ((d,x)::fr) H Γ):Sq P R N v0 H0 ops Hs Γs (i::is) fuel listed K fr H Γ:=fun hq hs=>by
  obtain⟨q1,q2,q3,q4⟩:=jU_ hq
  exact tN_ i hi q1 q2 q3 he hN hs (h q4 hs)
theorem uk_ [NoPan R] {i:Nat} {is:List Nat} {op:Op} {X:Bool} (hi:ops[i]? = some ⟨some d,op,ty,ps,af,none⟩) (he:Yld P N fr Hs Γs op ty (.bool X)) (hN:Nat.blt d N.n=true)
    (h:∀ r:Bool,X=r→Sq P R N v0 H0 ops Hs Γs is fuel (listed.setIfInBounds i true) K ((d,.bool r)::fr) H Γ):Sq P R N v0 H0 ops Hs Γs (i::is) fuel listed K fr H Γ:=P_ hi he hN (h X rfl)
theorem hQ_ [NoPan R] {i:Nat} {is:List Nat} {op:Op} {x:Value} {j t:Nat} {want:Bool} (hi:ops[i]? = some ⟨some d,op,ty,ps,af,some (j,want)⟩) (hj:gg_ ops j=some t) (hx:Fr.get fr t=some (.bool want)) (he:Yld P N fr Hs Γs op ty x) (hN:Nat.blt d N.n=true)
    (h:Sq P R N v0 H0 ops Hs Γs is fuel (listed.setIfInBounds i true) K ((d,x)::fr) H Γ):Sq P R N v0 H0 ops Hs Γs (i::is) fuel listed K fr H Γ:=fun hq hs=>by
  obtain⟨q1,q2,q3,q4⟩:=jU_ hq
  exact rU_ i hi q1 q2 q3 hj hx he hN hs (h q4 hs)
theorem sq_no [NoPan R] {i:Nat} {is:List Nat} {op:Op} {x:Value} {j t:Nat} {want:Bool} (hi:ops[i]? = some ⟨some d,op,ty,ps,af,some (j,want)⟩) (hj:gg_ ops j=some t) (hx:Fr.get fr t=some x) (hne:(match x with|.bool b=>Bool.xor b want|_=>true)=true) (hN:Nat.blt d N.n=true)
    (h:Sq P R N v0 H0 ops Hs Γs is fuel (listed.setIfInBounds i true) K ((d,undef)::fr) H Γ):Sq P R N v0 H0 ops Hs Γs (i::is) fuel listed K fr H Γ:=fun hq hs=>by
  obtain⟨q1,q2,q3,q4⟩:=jU_ hq
  exact any_no i hi q1 q2 q3 hj hx hne hN hs (h q4 hs)
def Nx (P:Program) (R:Exit→Act→World→Prop) (ops:Array Oper) (Hs:Hp) (Γs:List Fct) (fuel:Nat) (listed:Array Bool) (K:List Kt) (a:Act) (w:World):Prop :=
  SW Hs Γs w∧wpAnyH P .any ops (post P R K) (SW Hs Γs) fuel listed a w
theorem p_ (i:Nat) {o:Oper} (hi:ops[i]? = some o) (hr:Region.ready .any ops listed=[i]) (h:Ops P R N v0 H0 ops [o] (.inv (Nx P R ops Hs Γs fuel (listed.setIfInBounds i true) K)::K) fr H Γ):Any P R N v0 H0 ops Hs Γs (fuel+1) listed K fr H Γ:=by
 intro a v h1 h2 h3 h4
 refine wpAnyH_all hr (by simp) fun j hj=>?_
 simp only[List.mem_singleton]at hj
 subst hj
 have:=h a v h1 h2 h3 h4
 unfold wpOp
 simp only[hi]
 unfold wpList at this
 split
 ·rename_i hw
  rw[if_pos hw]at this
  rcases this with q|q
  ·left
   unfold Oper.wp at q ⊢
   generalize (execOp a.eval o).run P v.w=r at q ⊢
   cases r with
   | ok n w' =>
     cases n<;>simp only[Oper.upon]at q ⊢<;>exact q
   | halt x w' =>
     cases x<;>simp only[Oper.upon]at q ⊢
     case panic u=>exact q
  exact .inr q
 rename_i hw
 rw[if_neg hw]at this
 exact this
theorem S_ (hs:∀ v,v.sat H→ag_ Γ v→v.sat Hs∧ag_ Γs v) (h:Any P R N v0 H0 ops Hs Γs fuel listed K fr H Γ):Ok N v0 H0 (Nx P R ops Hs Γs fuel listed K) fr H Γ :=
  fun a v h1 h2 h3 h4=>⟨⟨v,rfl,hs v h2 h4⟩,h a v h1 h2 h3 h4⟩
theorem is_ (hr:Region.ready .any ops listed=[]) (h:Fin P R N v0 H0 K fr H Γ):Any P R N v0 H0 ops Hs Γs fuel listed K fr H Γ :=
  fun a v h1 h2 h3 h4=>wpAnyH_done hr (h a v h1 h2 h3 h4) fuel
theorem dV_ {α:Type} [BEq α] [LawfulBEq α] {a b:α} (h:(a != b)=true):a≠b:=by simpa using h
theorem dZ_ {α:Type} [BEq α] [LawfulBEq α] {a b:α} (h:(a != b)=false):a=b:=by simpa using h
theorem iy_ {N:Nat} {fn:Func} {t s u:Nat} {ι:Type} {F:Hp} {ret:ι→Value} {H':ι→Hp} {Γ':ι→List Fct} {u1 u2 u3:Value} (hr:fn.results=#[.tmp t,.tmp s,.tmp u]) (x:ι) (h1x:Fr.get fr t=some u1) (h2x:Fr.get fr s=some u2) (h3x:Fr.get fr u=some u3) (hx:.tuple #[u1,u2,u3]=ret x) (hH:H.Perm (H' x++F))
    (hΓ:∀ v,v.sat H→ag_ Γ v→ag_ (Γ' x) v):Ok N v0 H0 (bodyPost P fn (jt_ v0 H0 ret H' Γ') .ret) fr H Γ :=
  eC_ hH hΓ fun a v h1 h2 h3 h4=>⟨h1.defers,ret x,by rw[← hx];have e1:=h1.val t _ h1x;have e2:=h1.val s _ h2x;have e3:=h1.val u _ h3x;simp[results,hr,e1,e2,e3],x,v,rfl,rfl,h2,h4,h3⟩
theorem mD_ {f:FuncId} {args:Array Value} {r:Value} (hc:eJ_ P f) (h:∀ w,Calls P f args w fun e w'=>e=.returned r∧w'.heap=w.heap∧w'.os=w.os∧w'.tape=w.tape∧w'.output=w.output∧w.drawn≤w'.drawn):Fn0 P f args r :=
  ⟨hc,fun v h1 _=>(h v.w).mono fun e w' ⟨he,e1,e2,e3,e4,ed⟩=>⟨(),⟨v.im,w',v.sl⟩,he,rfl,⟨by simp,by simp,fun b hb=>by show b<w'.heap.size;rw[e1];exact h1.lt b hb⟩,trivial,
    ⟨e2,e3,e4,by simp[e1],fun b _ _=>by show w'.heap[b]? = _;rw[e1],fun _ h=>h,fun _ h=>.inl h,fun _ h=>by simp at h,rfl,.inr ed⟩⟩⟩
theorem fV_ {f:FuncId} {g:Operand} {first cap:List Value} {l:List Oper} {xs:List Operand} {ats:Array TypeId} {vs:List Value} {Hc F:Hp} {Γc:List Fct} {X:Bool}
    (hT:Tri P f (first++vs++cap).toArray Hc Γc (fun _:Unit=>.bool X) (fun _=>Hc) (fun _=>[])) (hg:Fr.ev fr g=some (.func (.func f) first.toArray cap.toArray)) (hx:Fr.evs fr xs=some vs) (hH:H.Perm (Hc++F)) (hΓ:∀ v,v.sat H→ag_ Γ v→ag_ Γc v) (hN:Nat.blt d N.n=true)
    (hk:∀ r:Bool,X=r→Ops P R N v0 H0 ops l K ((d,.bool r)::fr) (Hc++F) Γ) :
    Ops P R N v0 H0 ops (⟨some d,.call ⟨.value g,xs.toArray,ats⟩,ty,ps,af,none⟩::l) K fr H Γ :=
  ax_ hT hg hx hH hΓ hN fun _=>hk X rfl
theorem u_ {k:Act→World→Prop} {H':Hp} (hH:H.Perm H') (h:Ok N v0 H0 k fr H' Γ):Ok N v0 H0 k fr H Γ :=
  fun a v h1 h2 h3 h4=>h a v h1 (h2.perm hH) (h3.subR fun b hb=>(hH.map Prod.fst).mem_iff.2 hb) h4
theorem eB_:∀ {H:Hp} {i:Nat} {p:Nat×Obj},H[i]? = some p→H.Perm (p::H.eraseIdx i)
  | [],i,p,h=>by simp at h
  | x::H,0,p,h=>by simp at h;subst h;exact .refl _
  | x::H,i+1,p,h=>by
    have:=eB_ (H:=H) (i:=i) (p:=p) (by simpa using h)
    exact (List.Perm.cons x this).trans (List.Perm.swap p x _)
theorem nK_:∀ {H:Hp} {i:Nat} {p q:Nat×Obj},H[i]? = some p→(q::H.eraseIdx i).Perm (H.set i q)
  | [],i,p,q,h=>by simp at h
  | x::H,0,p,q,h=>by exact .refl _
  | x::H,i+1,p,q,h=>by
    have:=nK_ (H:=H) (i:=i) (p:=p) (q:=q) (by simpa using h)
    exact (List.Perm.swap x q _).trans (List.Perm.cons x this)
theorem rs_ {f:FuncId} {l:List Oper} {xs:List Operand} {ats:Array TypeId} {vs:List Value} (i:Nat) {b:Nat} {o o':Obj} {Γc:List Fct} {r:Value}
    (hT:Tri P f vs.toArray [(b,o)] Γc (fun _:Unit=>r) (fun _=>[(b,o')]) (fun _=>[])) (hx:Fr.evs fr xs=some vs) (hi:H[i]? = some (b,o)) (hΓ:∀ v,v.sat H→ag_ Γ v→ag_ Γc v) (hN:Nat.blt d N.n=true)
    (hk:Ops P R N v0 H0 ops l K ((d,r)::fr) (H.set i (b,o')) Γ) :
    Ops P R N v0 H0 ops (⟨some d,.call ⟨.value (.func f),xs.toArray,ats⟩,ty,ps,af,none⟩::l) K fr H Γ :=
  d_ hT hx (eB_ hi) hΓ hN fun _=>u_ (nK_ hi) hk
theorem ki_ {f:FuncId} {l:List Oper} {xs:List Operand} {ats:Array TypeId} {vs:List Value} (i:Nat) {b:Nat} {o o':Obj} {Γc:List Fct} {X:Bool}
    (hT:Tri P f vs.toArray [(b,o)] Γc (fun _:Unit=>.bool X) (fun _=>[(b,o')]) (fun _=>[])) (hx:Fr.evs fr xs=some vs) (hi:H[i]? = some (b,o)) (hΓ:∀ v,v.sat H→ag_ Γ v→ag_ Γc v) (hN:Nat.blt d N.n=true)
    (hk:∀ r:Bool,X=r→Ops P R N v0 H0 ops l K ((d,.bool r)::fr) (H.set i (b,o')) Γ) :
    Ops P R N v0 H0 ops (⟨some d,.call ⟨.value (.func f),xs.toArray,ats⟩,ty,ps,af,none⟩::l) K fr H Γ :=
  rs_ i hT hx hi hΓ hN (hk X rfl)
end any
end Go.Sx
namespace Go.Sx
open Go
structure Opn (F:Fence):Prop where
  fn:∀ f,F.fn f
  depth:F.depth=none
theorem J_:Opn Fence.wide:=⟨fun _=>trivial,rfl⟩
theorem bc_ (l:Nat):Opn (Fence.wide.inRound l):=⟨fun _=>trivial,rfl⟩
theorem in_ {F:Fence} {n:Nat} {P:Program} {f:FuncId} {args:Array Value} {w:World} {R:Ending→World→Prop} (h:Calls P f args w R) (l:Nat):CallsIn (Fence.wide.inRound l) n P f args w R :=
  (callsIn_wide (n:=n)).2 h
structure SatD (N:Nat) (D:List Deferred) (fr:Fr) (a:Act):Prop where
  sat:Fr.sat N fr ⟨a.tmps,[]⟩
  defers:a.defers=D
theorem SatD.put {N:Nat} {D:List Deferred} {fr:Fr} {a:Act} {d:Nat} {x:Value} (h:SatD N D fr a) (hd:Nat.blt d N=true):SatD N D ((d,x)::fr) (a.put (some d) x) :=
  ⟨h.sat.put hd,h.defers⟩
def OkD (N:Nat) (D:List Deferred) (v0:Vw) (H0:Hp) (k:Act→World→Prop) (fr:Fr) (H:Hp) (Γ:List Fct):Prop :=
  ∀ a v,SatD N D fr a→v.sat H→v0.to H0 v H→ag_ Γ v→k a v.w
def eh_ (F:Fence) (n:Nat) (P:Program) (R:Exit→Act→World→Prop):List Kt→Exit→Act→World→Prop
  | [],e,a,w=>R e a w
  | .seq c::K,.normal,a,w=>c.wpIn F n P (eh_ F n P R K) a w
  | .seq _::K,e,a,w=>eh_ F n P R K e a w
  | .inv J::_,.normal,a,w=>J a w
  | .inv _::K,e,a,w=>eh_ F n P R K e a w
  | .blk id::K,.exit id',a,w=>if id'=id then eh_ F n P R K .normal a w else eh_ F n P R K (.exit id') a w
  | .blk _::K,e,a,w=>eh_ F n P R K e a w
section code
variable {F:Fence} {n:Nat} {P:Program} {N:Nat} {D:List Deferred} {v0:Vw} {H0:Hp} {R:Exit→Act→World→Prop} {K:List Kt} {fr:Fr} {H:Hp} {Γ:List Fct}
theorem lq_ (K:List Kt) (a:Act) (w:World) (h:R .ret a w):eh_ F n P R K .ret a w:=by
  induction K with
  | nil=>exact h
  | cons x K ih=>cases x<;>exact ih
theorem kb_ {c:Code} {K':List Kt} {a:Act} {w:World}:∀ {K:List Kt},nxt K=some (c,K')→c.wpIn F n P (eh_ F n P R K') a w→eh_ F n P R K .normal a w
  | [],h,_=>by simp[nxt]at h
  | .seq _::K,h,hp=>by simp only[nxt,Option.some.injEq,Prod.mk.injEq]at h;obtain⟨rfl,rfl⟩:=h;exact hp
  | .blk _::K,h,hp=>kb_ (K:=K) (by simpa [nxt] using h) hp
  | .inv _::K,h,_=>by simp[nxt]at h
theorem iB_ {a:Act} {w:World}:∀ {K:List Kt},eM_ K=true→R .normal a w→eh_ F n P R K .normal a w
  | [],_,hp=>hp
  | .inv _::K,h,_=>by simp[eM_]at h
  | .blk _::K,h,hp=>iB_ (K:=K) (by simpa [eM_] using h) hp
  | .seq _::K,h,_=>by simp[eM_]at h
abbrev gj_ (F:Fence) (n:Nat) (P:Program) (R:Exit→Act→World→Prop) (N:Nat) (D:List Deferred) (v0:Vw) (H0:Hp) (c:Code) (K:List Kt) (fr:Fr) (H:Hp) (Γ:List Fct):Prop :=
  OkD N D v0 H0 (c.wpIn F n P (eh_ F n P R K)) fr H Γ
abbrev pD_ (F:Fence) (n:Nat) (P:Program) (R:Exit→Act→World→Prop) (N:Nat) (D:List Deferred) (v0:Vw) (H0:Hp) (K:List Kt) (fr:Fr) (H:Hp) (Γ:List Fct):Prop :=
  OkD N D v0 H0 (eh_ F n P R K .normal) fr H Γ
abbrev ez_ (F:Fence) (n:Nat) (P:Program) (R:Exit→Act→World→Prop) (N:Nat) (D:List Deferred) (v0:Vw) (H0:Hp) (ops:Array Oper) (l:List Oper) (K:List Kt) (fr:Fr) (H:Hp) (Γ:List Fct):Prop :=
  OkD N D v0 H0 (wpListIn F n P ops (eh_ F n P R K) l) fr H Γ
theorem eG_ {x y:Code} (h:gj_ F n P R N D v0 H0 x (.seq y::K) fr H Γ):gj_ F n P R N D v0 H0 (.seq x y) K fr H Γ :=
  fun a v h1 h2 h3 h4=>wpIn_seq (wpIn_mono (h a v h1 h2 h3 h4) fun e a w hq=>by cases e<;>exact hq)
theorem fb_ {id:Nat} {c:Code} (h:gj_ F n P R N D v0 H0 c (.blk id::K) fr H Γ):gj_ F n P R N D v0 H0 (.block id c) K fr H Γ :=
  fun a v h1 h2 h3 h4=>wpIn_block (wpIn_mono (h a v h1 h2 h3 h4) fun e a w hq=>by cases e<;>exact hq)
theorem lk_ (h:pD_ F n P R N D v0 H0 K fr H Γ):gj_ F n P R N D v0 H0 .skip K fr H Γ :=
  fun a v h1 h2 h3 h4=>wpIn_skip (h a v h1 h2 h3 h4)
theorem fz_ (h:OkD N D v0 H0 (R .ret) fr H Γ):gj_ F n P R N D v0 H0 .ret K fr H Γ :=
  fun a v h1 h2 h3 h4=>wpIn_ret (lq_ K a v.w (h a v h1 h2 h3 h4))
theorem cz_ {c:Code} {K':List Kt} (hn:nxt K=some (c,K')) (h:gj_ F n P R N D v0 H0 c K' fr H Γ):pD_ F n P R N D v0 H0 K fr H Γ :=
  fun a v h1 h2 h3 h4=>kb_ hn (h a v h1 h2 h3 h4)
theorem ci_ (hn:eM_ K=true) (h:OkD N D v0 H0 (R .normal) fr H Γ):pD_ F n P R N D v0 H0 K fr H Γ :=
  fun a v h1 h2 h3 h4=>iB_ hn (h a v h1 h2 h3 h4)
theorem aM_ {id:Nat} {l:List Oper} (h:ez_ F n P R N D v0 H0 l.toArray l K fr H Γ):gj_ F n P R N D v0 H0 (.region id l.toArray false) K fr H Γ :=
  fun a v h1 h2 h3 h4=>wpIn_region_lit (h a v h1 h2 h3 h4)
theorem bz_ {ops:Array Oper} (h:pD_ F n P R N D v0 H0 K fr H Γ):ez_ F n P R N D v0 H0 ops [] K fr H Γ :=
  fun a v h1 h2 h3 h4=>wpListIn_nil (h a v h1 h2 h3 h4)
theorem nv_ {c:Operand} {x y:Code} (hc:Fr.ev fr c=some (.bool true)) (hx:gj_ F n P R N D v0 H0 x K fr H Γ):gj_ F n P R N D v0 H0 (.cond c x y) K fr H Γ :=
  fun a v h1 h2 h3 h4=>wpIn_cond_true (h1.sat.ev hc) (hx a v h1 h2 h3 h4)
theorem nw_ {c:Operand} {x y:Code} (hc:Fr.ev fr c=some (.bool false)) (hy:gj_ F n P R N D v0 H0 y K fr H Γ):gj_ F n P R N D v0 H0 (.cond c x y) K fr H Γ :=
  fun a v h1 h2 h3 h4=>wpIn_cond_false (h1.sat.ev hc) (hy a v h1 h2 h3 h4)
def ff_:Op→Bool
  | .defer _=>false
  | _=>true
theorem semAt_eq {o:Oper} (h:ff_ o.op=true) (ro:Option Nat) (ρ:Operand→Value):o.semAt ro ρ=execOp ρ o :=
  Oper.semAt_eq ro ρ o (fun c e=>by rw[e]at h;cases h)
variable {ops:Array Oper} {l:List Oper} {d:Nat} {ty:TypeId} {ps:String} {af:Array Edge}
theorem oA_ {o:Oper} {a:Act} {w:World} {K1 K2:Act→World→Prop} {Q:Exit→Act→World→Prop} (hK:∀ a w,K1 a w→K2 a w) (h:o.wpIn F n P a w K1 Q):o.wpIn F n P a w K2 Q:=by
  refine⟨h.1,?_⟩
  have h2:=h.2
  generalize (o.semAt F.round a.eval).run P w=r at h2 ⊢
  cases r with
  | ok nx w' =>
    cases nx<;>simp only[Oper.uponIn]at h2 ⊢<;>first|exact hK _ _ h2|exact h2|skip
    case enter f args=>exact⟨h2.1,h2.2.mono fun e w'' he=>by cases e<;>first|exact hK _ _ he|exact he⟩
    case row row args=>exact⟨h2.1,h2.2.mono fun v w'' he=>hK _ _ he⟩
    case round l f tmps assign body=>exact⟨h2.1,h2.2.mono fun e w'' he=>by cases e<;>first|exact hK _ _ he|exact he⟩
  | halt x w'=>cases x<;>simp only[Oper.uponIn]at h2 ⊢<;>exact h2
theorem dR_ {o:Oper} (hg:o.guard=none) (h:∀ a v,SatD N D fr a→v.sat H→v0.to H0 v H→ag_ Γ v→o.wpIn F n P a v.w (wpListIn F n P ops (eh_ F n P R K) l) (eh_ F n P R K)) :
    ez_ F n P R N D v0 H0 ops (o::l) K fr H Γ :=
  fun a v h1 h2 h3 h4=>wpListIn_plain hg fun K' hK=>oA_ hK (h a v h1 h2 h3 h4)
theorem Z_ {op:Op} {x:Value} (hF:Opn F) (he:Yld P N fr H Γ op ty x) (hnd:ff_ op=true) (hN:Nat.blt d N=true)
    (hk:ez_ F n P R N D v0 H0 ops l K ((d,x)::fr) H Γ):ez_ F n P R N D v0 H0 ops (⟨some d,op,ty,ps,af,none⟩::l) K fr H Γ :=
  dR_ rfl fun a v h1 h2 h3 h4=>by
    refine⟨fun f _=>hF.fn f,?_⟩
    rw[semAt_eq hnd]
    have:=he ⟨a.tmps,[]⟩ v h1.sat h2 h4 (some d) ps af
    rw[show a.eval=Act.eval ⟨a.tmps,[]⟩ from rfl,this]
    exact hk _ v (h1.put hN) h2 h3 h4
theorem lv_ {op:Op} {X:Bool} (hF:Opn F) (he:Yld P N fr H Γ op ty (.bool X)) (hnd:ff_ op=true) (hN:Nat.blt d N=true)
    (hk:∀ r:Bool,X=r→ez_ F n P R N D v0 H0 ops l K ((d,.bool r)::fr) H Γ):ez_ F n P R N D v0 H0 ops (⟨some d,op,ty,ps,af,none⟩::l) K fr H Γ :=
  Z_ hF he hnd hN (hk X rfl)
theorem pb_ {t:TypeId} {z:Value} (hF:Opn F) (hz:∀ w,(zeroValue t).run P w=.ok z w) (hN:Nat.blt d N=true)
    (hk:∀ b,ez_ F n P R N D v0 H0 ops l K ((d,.pointer (some ⟨b,0,none⟩))::fr) ((b,.cells z.cells t (0,0))::H) Γ):ez_ F n P R N D v0 H0 ops (⟨some d,.alloc t,ty,ps,af,none⟩::l) K fr H Γ :=
  dR_ rfl fun a v h1 h2 h3 h4=>by
    refine⟨fun f _=>hF.fn f,?_⟩
    rw[semAt_eq rfl]
    have he:(execOp a.eval ⟨some d,.alloc t,ty,ps,af,none⟩).run P v.w=.ok (.value (.pointer (some ⟨v.w.heap.size,0,none⟩))) (v.w.alloc (.cells z.cells t (0,0))):=by
      simp[execOp,hz,Instr.alloc,newVar,newRow,newObj];rfl
    rw[he]
    obtain⟨g1,g2⟩:=fR_ (w':=v.w.alloc (.cells z.cells t (0,0))) (o:=.cells z.cells t (0,0)) h2 rfl rfl rfl rfl (Nat.le_refl _)
    exact hk v.w.heap.size _ ⟨v.im,_,v.sl⟩ (h1.put hN) g1 (h3.trans g2) (aD_ (g2.le h2) h4)
theorem dQ_ {t:TypeId} {x y:Operand} {b off m:Nat} (hF:Opn F) (i:Nat) {cur:Array Value} {T:TypeId} {u:Value} (hs:∀ w,(sizeOf t).run P w=.ok m w)
    (hx:Fr.ev fr x=some (.pointer (some ⟨b,off,none⟩))) (hy:Fr.ev fr y=some u) (hi:H[i]? = some (b,.cells cur T (0,0))) (hn:u.cells.size=m) (hf:Nat.ble (off+m) cur.size=true) (h1c:u.cells.toList.all Value.oneCell'=true)
    (hk:ez_ F n P R N D v0 H0 ops l K fr (H.set i (b,.cells (cur.toList.take off++u.cells.toList++cur.toList.drop (off+m)).toArray T (0,0))) Γ) :
    ez_ F n P R N D v0 H0 ops (⟨none,.store t x y,ty,ps,af,none⟩::l) K fr H Γ :=
  dR_ rfl fun a v h1 h2 h3 h4=>by
    refine⟨fun f _=>hF.fn f,?_⟩
    rw[semAt_eq rfl]
    have hb:=(h2.own _ (List.mem_of_getElem? hi)).1
    have hst:=run_storeCells_at P b off T u.cells.toList 0 cur v.w hb (by simp[hn];exact Nat.le_of_ble_eq_true hf) (fun c hc=>List.all_eq_true.1 h1c c hc)
    have he:(execOp a.eval ⟨none,.store t x y,ty,ps,af,none⟩).run P v.w=.ok .skip (v.w.setRow b (cur.toList.take off++u.cells.toList++cur.toList.drop (off+m)).toArray):=by
      simp only[Nat.add_zero,Array.length_toList,hn]at hst
      have e1:a.eval x=.pointer (some ⟨b,off,none⟩):=h1.sat.ev hx
      have e2:a.eval y=u:=h1.sat.ev hy
      simp[execOp,e1,e2,Instr.storeAt,Instr.sureAddr,storeVar,hs,hn,hst]
    rw[he]
    obtain⟨g1,g2⟩:=eR_ (w':=v.w.setRow b (cur.toList.take off++u.cells.toList++cur.toList.drop (off+m)).toArray) h2 hi rfl rfl rfl (Nat.le_refl _) (by simp) (setRow_heap _ _ _ _ _ _ hb) (fun k hk=>setRow_other _ _ _ _ hk)
    exact hk a _ h1 g1 (h3.trans g2) (aD_ (g2.le h2) h4)
theorem rt_ {r:Nat} {f:FuncId} {xs:List Operand} {ats:Array TypeId} {vs:List Value} {ι:Type} {Hc G:Hp} {Γc:List Fct} {ret:ι→Value} {H':ι→Hp} {Γ':ι→List Fct}
    (hT:Tri P f vs.toArray Hc Γc ret H' Γ') (hx:Fr.evs fr xs=some vs) (hH:H.Perm (Hc++G)) (hΓ:∀ v,v.sat H→ag_ Γ v→ag_ Γc v) (hN:Nat.blt d N=true)
    (hk:∀ x,ez_ (Fence.wide.inRound r) n P R N D v0 H0 ops l K ((d,ret x)::fr) (H' x++G) (Γ' x++Γ)) :
    ez_ (Fence.wide.inRound r) n P R N D v0 H0 ops (⟨some d,.call ⟨.value (.func f),xs.toArray,ats⟩,ty,ps,af,none⟩::l) K fr H Γ :=
  dR_ rfl fun a v h1 h2 h3 h4=>by
    refine⟨fun f _=>trivial,?_⟩
    rw[semAt_eq rfl]
    have he:(execOp a.eval ⟨some d,.call ⟨.value (.func f),xs.toArray,ats⟩,ty,ps,af,none⟩).run P v.w=.ok (.enter f vs.toArray) v.w:=by
      have e1:xs.map a.eval=vs:=h1.sat.evs hx
      simp[execOp,resolve,Deferred.ofValue,Act.eval,invoke,e1,hT.callable _ v.w]
    rw[he]
    have h2':=h2.perm hH
    refine⟨fun h=>(by cases h),(in_ (F:=Fence.wide) (hT.run v h2'.sub (hΓ v h2 h4)) r).mono ?_⟩
    rintro e w' ⟨x,v',rfl,rfl,g1,g2,g3⟩
    obtain⟨k1,k2⟩:=g3.frame h2' g1
    exact hk x _ v' (h1.put hN) k1 (h3.trans (k2.permL hH.symm)) (eU_.2 ⟨g2,aD_ (k2.le h2') h4⟩)
def hE_ (P:Program) (l:Nat) (x:Value) (H:Hp) (Γ:List Fct) {ι:Type} (ret:ι→Value) (H':ι→Hp) (Γ':ι→List Fct):Prop :=
  ∀ v,v.sat H→ag_ Γ v→∃ fn tmps assign body,(Instr.yield l #[x]).run P v.w=.ok (.round l fn tmps assign body) v.w ∧
    ∀ n,RoundIn Fence.wide n P l fn tmps assign body v.w fun e w'=>∃ x v',e=.returned (ret x)∧v'.w=w'∧v'.sat (H' x)∧ag_ (Γ' x) v'∧v.to H v' (H' x)
theorem dy_ {r:Nat} {g y:Operand} {ats:Array TypeId} {u:Value} {ι:Type} {Hc G:Hp} {Γc:List Fct} {ret:ι→Value} {H':ι→Hp} {Γ':ι→List Fct}
    (hT:hE_ P r u Hc Γc ret H' Γ') (hg:Fr.ev fr g=some (.func (.yield r) #[] #[])) (hy:Fr.ev fr y=some u) (hH:H.Perm (Hc++G)) (hΓ:∀ v,v.sat H→ag_ Γ v→ag_ Γc v) (hN:Nat.blt d N=true)
    (hk:∀ x,ez_ Fence.wide n P R N D v0 H0 ops l K ((d,ret x)::fr) (H' x++G) (Γ' x++Γ)) :
    ez_ Fence.wide n P R N D v0 H0 ops (⟨some d,.call ⟨.value g,#[y],ats⟩,ty,ps,af,none⟩::l) K fr H Γ :=
  dR_ rfl fun a v h1 h2 h3 h4=>by
    refine⟨fun f _=>trivial,?_⟩
    rw[semAt_eq rfl]
    have h2':=h2.perm hH
    obtain⟨fn,tmps,assign,body,hyr,hR⟩:=hT v h2'.sub (hΓ v h2 h4)
    have he:(execOp a.eval ⟨some d,.call ⟨.value g,#[y],ats⟩,ty,ps,af,none⟩).run P v.w=.ok (.round r fn tmps assign body) v.w:=by
      have e1:a.eval g=.func (.yield r) #[] #[]:=h1.sat.ev hg
      have e2:a.eval y=u:=h1.sat.ev hy
      simp[execOp,resolve,Deferred.ofValue,e1,e2,invoke,hyr]
    rw[he]
    refine⟨fun h=>(by cases h),(hR _).mono ?_⟩
    rintro e w' ⟨x,v',rfl,rfl,g1,g2,g3⟩
    obtain⟨k1,k2⟩:=g3.frame h2' g1
    exact hk x _ v' (h1.put hN) k1 (h3.trans (k2.permL hH.symm)) (eU_.2 ⟨g2,aD_ (k2.le h2') h4⟩)
theorem cT_ {k:Act→World→Prop}:OkD N [] v0 H0 k fr H Γ↔Ok N v0 H0 k fr H Γ :=
  ⟨fun h a v h1 h2 h3 h4=>h a v ⟨⟨h1.size,rfl,h1.val⟩,h1.defers⟩ h2 h3 h4,fun h a v h1 h2 h3 h4=>h a v ⟨h1.sat.size,h1.defers,h1.sat.val⟩ h2 h3 h4⟩
end code
end Go.Sx
