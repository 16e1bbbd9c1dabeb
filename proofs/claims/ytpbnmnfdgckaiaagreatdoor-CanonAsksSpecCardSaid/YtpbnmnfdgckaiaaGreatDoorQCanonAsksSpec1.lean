/-
  Part of the proof of the law CanonAsksSpec over this seat: the small logic, the data, the contracts of functions (no condition).
-/
import Derived.Test.YtpbnmnfdgckaiaaGreatDoorQCanonAsksSpec0
import Derived.WalkKit
import Derived.OrdersHeld
import Derived.Deep.LoopGhost
import Derived.RangeFuncIn
import Derived.RangeFuncLeaves
import Derived.TacticsIn
set_option linter.unusedVariables false
set_option linter.unusedSimpArgs false
set_option linter.unusedSectionVars false
set_option maxHeartbeats 1000000
namespace Go.Sx
open Go
structure Vw where
  im:Nat→Prop
  w:World
  sl:Prop
abbrev Fr:=List (Nat×Value)
abbrev Hp:=List (Nat×Obj)
def Fr.get:Fr→Nat→Option Value
  | [],_=>none
  | (t,v)::r,n=>bif Nat.beq t n then some v else Fr.get r n
structure Nf where
  n:Nat
  D:List Deferred
instance:Coe Nat Nf:=⟨fun n=>⟨n,[]⟩⟩
structure Fr.sat (N:Nf) (fr:Fr) (a:Act):Prop where
  size:a.tmps.size=N.n
  defers:a.defers=N.D
  val:∀ t v,Fr.get fr t=some v→a.tmps[t]? = some v
structure Vw.sat (v:Vw) (H:Hp):Prop where
  own:∀ p,p∈H→v.w.heap[p.1]? = some p.2∧¬ v.im p.1
  nodup:(H.map Prod.fst).Nodup
  lt:∀ b,v.im b→b<v.w.heap.size
structure Vw.to (v:Vw) (H:Hp) (v':Vw) (H':Hp):Prop where
  os:v'.w.os=v.w.os
  tape:v'.w.tape=v.w.tape
  output:v'.w.output=v.w.output
  size:v.w.heap.size≤v'.w.heap.size
  block:∀ b,b<v.w.heap.size→b ∉ H.map Prod.fst→v'.w.heap[b]? = v.w.heap[b]?
  imUp:∀ b,v.im b→v'.im b
  imNew:∀ b,v'.im b→v.im b∨b∈H.map Prod.fst∨v.w.heap.size≤b
  hNew:∀ b,b∈H'.map Prod.fst→b∈H.map Prod.fst∨v.w.heap.size≤b
  sl:v'.sl=v.sl
  dr:v.sl∨v.w.drawn≤v'.w.drawn
structure Vw.le (v v':Vw):Prop where
  imUp:∀ b,v.im b→v'.im b
  block:∀ b,v.im b→v'.w.heap[b]? = v.w.heap[b]?
  sl:v'.sl=v.sl
structure Fct where
  p:Vw→Prop
  mono:∀ v v',v.le v'→p v→p v'
def ac_:List Fct→Vw→Prop
  | [],_=>True
  | f::l,v=>f.p v∧ac_ l v
theorem eM_ {a b:List Fct} {v:Vw}:ac_ (a++b) v↔ac_ a v∧ac_ b v:=by
  induction a with
  | nil=>simp[ac_]
  | cons f l ih=>simp[ac_,ih,and_assoc]
theorem an_ {l:List Fct} {v d:Vw} (h:v.le d):ac_ l v→ac_ l d:=by
  induction l with
  | nil=>exact fun _=>trivial
  | cons f l ih=>exact fun⟨a,b⟩=>⟨f.mono _ _ h a,ih b⟩
theorem Vw.to.le {v d:Vw} {H H':Hp} (e:v.sat H) (h:v.to H d H'):v.le d :=
  ⟨h.imUp,fun b q=>h.block b (e.lt b q) (fun hm=>by
    obtain⟨p,x,rfl⟩:=List.mem_map.1 hm;exact (e.own p x).2 q),h.sl⟩
theorem Vw.to.refl (v:Vw) (H:Hp):v.to H v H :=
  ⟨rfl,rfl,rfl,Nat.le_refl _,fun _ _ _=>rfl,fun _ h=>h,fun _ h=>.inl h,fun _ h=>.inl h,rfl,.inr (Nat.le_refl _)⟩
theorem Vw.to.trans {a b c:Vw} {B y Hc:Hp} (h:a.to B b y) (k:b.to y c Hc):a.to B c Hc where
 os:=k.os.trans h.os
 tape:=k.tape.trans h.tape
 output:=k.output.trans h.output
 size:=Nat.le_trans h.size k.size
 block:=fun x e A=>by
   rw[k.block x (Nat.lt_of_lt_of_le e h.size) (fun hm=>(h.hNew x hm).elim A (fun hl=>by omega))];exact h.block x e A
 imUp:=fun x e=>k.imUp x (h.imUp x e)
 imNew:=fun x e=>by
   rcases k.imNew x e with d|d|d
   · exact h.imNew x d
   · exact .inr (h.hNew x d)
   · exact .inr (.inr (Nat.le_trans h.size d))
 hNew:=fun x e=>by
   rcases k.hNew x e with d|d
   · exact h.hNew x d
   · exact .inr (Nat.le_trans h.size d)
 sl:=k.sl.trans h.sl
 dr:=by
   rcases h.dr with d|d
   · exact .inl d
   · rcases k.dr with q|q
     · exact .inl (by rw[← h.sl];exact q)
     · exact .inr (Nat.le_trans d q)
theorem Vw.to.frame {v J:Vw} {H H' F:Hp} (O:v.sat (H++F)) (C:J.sat H') (h:v.to H J H') :
    J.sat (H'++F)∧v.to (H++F) J (H'++F):=by
  have A:=O.nodup;rw[List.map_append,List.nodup_append]at A;have M:∀ p,p∈F→p.1 ∉ H.map Prod.fst:=fun p q hm=>A.2.2 _ hm _ (List.mem_map_of_mem q) rfl
  have B:∀ p,p∈F→p.1<v.w.heap.size:=fun p q=>by
    have:=(O.own p (List.mem_append_right _ q)).1;exact (Array.getElem?_eq_some_iff.1 this).1
  have I:∀ p,p∈F→p.1 ∉ H'.map Prod.fst:=fun p q hm=>by
    rcases h.hNew _ hm with d|d
    · exact M p q d
    · have:=B p q;omega
  refine⟨⟨fun p q=>?_,?_,C.lt⟩,?_⟩
  · rcases List.mem_append.1 q with d|d
    · exact C.own p d
    · have G:=O.own p (List.mem_append_right _ d)
      refine⟨by rw[h.block _ (B p d) (M p d)];exact G.1,fun hi=>?_⟩;rcases h.imNew _ hi with L|L|L
      · exact G.2 L
      · exact M p d L
      · have:=B p d;omega
  · rw[List.map_append,List.nodup_append]
    refine⟨C.nodup,A.2.1,fun x T y S e=>?_⟩;subst e;obtain⟨p,q,rfl⟩:=List.mem_map.1 S;exact I p q T
  · refine⟨h.os,h.tape,h.output,h.size,fun b E Q=>h.block b E (fun hm=>Q ?_),h.imUp,fun b E=>?_,fun b E=>?_,h.sl,h.dr⟩
    · rw[List.map_append];exact List.mem_append_left _ hm
    · rcases h.imNew b E with d|d|d
      · exact .inl d
      · exact .inr (.inl (by rw[List.map_append];exact List.mem_append_left _ d))
      · exact .inr (.inr d)
    · rw[List.map_append]at E ⊢
      rcases List.mem_append.1 E with d|d
      · rcases h.hNew b d with G|G
        · exact .inl (List.mem_append_left _ G)
        · exact .inr G
      · exact .inl (List.mem_append_right _ d)
theorem Vw.sat.perm {v:Vw} {H H':Hp} (h:v.sat H) (p:H.Perm H'):v.sat H' :=
  ⟨fun x d=>h.own x (p.mem_iff.2 d),(p.map _).nodup_iff.1 h.nodup,h.lt⟩
theorem Vw.sat.sub {v:Vw} {H F:Hp} (h:v.sat (H++F)):v.sat H :=
  ⟨fun x d=>h.own x (List.mem_append_left _ d),by have:=h.nodup;rw[List.map_append,List.nodup_append]at this;exact this.1,h.lt⟩
theorem Vw.to.permL {v q:Vw} {H K H':Hp} (h:v.to H q H') (p:H.Perm K):v.to K q H':=by
  have e:∀ b,b∈H.map Prod.fst↔b∈K.map Prod.fst:=fun b=>(p.map _).mem_iff
  exact⟨h.os,h.tape,h.output,h.size,fun b d x=>h.block b d (fun hm=>x ((e b).1 hm)),h.imUp,
    fun b d=>(h.imNew b d).imp id (Or.imp (e b).1 id),fun b d=>(h.hNew b d).imp (e b).1 id,h.sl,h.dr⟩
theorem Vw.to.subR {v d:Vw} {H H' K:Hp} (h:v.to H d H') (p:∀ b,b∈K.map Prod.fst→b∈H'.map Prod.fst):v.to H d K :=
  ⟨h.os,h.tape,h.output,h.size,h.block,h.imUp,h.imNew,fun b e=>h.hNew b (p b e),h.sl,h.dr⟩
def Ok (N:Nf) (v0:Vw) (H0:Hp) (k:Act→World→Prop) (fr:Fr) (H:Hp) (Γ:List Fct):Prop :=
  ∀ a v,Fr.sat N fr a→v.sat H→v0.to H0 v H→ac_ Γ v→k a v.w
inductive Kt where
  | seq (c:Code)
  | blk (id:Nat)
  | inv (J:Act→World→Prop)
def post (P:Program) (R:Exit→Act→World→Prop):List Kt→Exit→Act→World→Prop
  | [],e,a,w=>R e a w
  | .seq c::K,.normal,a,w=>c.wp P (post P R K) a w
  | .seq _::K,e,a,w=>post P R K e a w
  | .inv J::_,.normal,a,w=>J a w
  | .inv _::K,e,a,w=>post P R K e a w
  | .blk id::K,.exit id',a,w=>if id'=id then post P R K .normal a w else post P R K (.exit id') a w
  | .blk _::K,e,a,w=>post P R K e a w
theorem vD_ (P:Program) (R:Exit→Act→World→Prop) (K:List Kt) (a:Act) (w:World) (h:R .ret a w):post P R K .ret a w:=by
  induction K with
  | nil=>exact h
  | cons x K ih=>cases x<;>exact ih
def unw (id:Nat):List Kt→Option (List Kt)
  | []=>none
  | .blk i::K=>bif Nat.beq id i then some K else unw id K
  | .seq _::K=>unw id K
  | .inv _::K=>unw id K
theorem iK_ {P:Program} {R:Exit→Act→World→Prop} {d:Nat} {q:List Kt} {a:Act} {w:World} :
    ∀ {K:List Kt},unw d K=some q→post P R q .normal a w→post P R K (.exit d) a w
  | [],h,_=>by simp[unw]at h
  | .seq _::K,h,hp=>iK_ (K:=K) (by simpa [unw] using h) hp
  | .inv _::K,h,hp=>iK_ (K:=K) (by simpa [unw] using h) hp
  | .blk i::K,h,hp=>by
    simp only[unw]at h
    by_cases e:d=i
    · subst e
      simp only[Nat.beq_refl,cond_true,Option.some.injEq]at h;subst h;simp only[post,if_true];exact hp
    · have:Nat.beq d i=false:=by
        cases hb:Nat.beq d i
        · rfl
        · exact absurd (Nat.eq_of_beq_eq_true hb) e
      rw[this,cond_false]at h;simp only[post,e,if_false];exact iK_ h hp
def nxt:List Kt→Option (Code×List Kt)
  | .seq c::K=>some (c,K)
  | .blk _::K=>nxt K
  | _=>none
theorem ov_ {P:Program} {R:Exit→Act→World→Prop} {c:Code} {d:List Kt} {a:Act} {w:World} :
    ∀ {K:List Kt},nxt K=some (c,d)→c.wp P (post P R d) a w→post P R K .normal a w
  | [],h,_=>by simp[nxt]at h
  | .seq _::K,h,hp=>by simp only[nxt,Option.some.injEq,Prod.mk.injEq]at h;obtain⟨rfl,rfl⟩:=h;exact hp
  | .blk _::K,h,hp=>ov_ (K:=K) (by simpa [nxt] using h) hp
  | .inv _::K,h,_=>by simp[nxt]at h
def jv_:List Kt→Option (Act→World→Prop)
  | .inv J::_=>some J
  | .blk _::K=>jv_ K
  | _=>none
theorem qw_ {P:Program} {R:Exit→Act→World→Prop} {J:Act→World→Prop} {a:Act} {w:World} :
    ∀ {K:List Kt},jv_ K=some J→J a w→post P R K .normal a w
  | [],h,_=>by simp[jv_]at h
  | .inv _::K,h,hp=>by simp only[jv_,Option.some.injEq]at h;subst h;exact hp
  | .blk _::K,h,hp=>qw_ (K:=K) (by simpa [jv_] using h) hp
  | .seq _::K,h,_=>by simp[jv_]at h
def fW_:List Kt→Bool
  | []=>true
  | .blk _::K=>fW_ K
  | _=>false
theorem qx_ {P:Program} {R:Exit→Act→World→Prop} {a:Act} {w:World} :
    ∀ {K:List Kt},fW_ K=true→R .normal a w→post P R K .normal a w
  | [],_,hp=>hp
  | .inv _::K,h,_=>by simp[fW_]at h
  | .blk _::K,h,hp=>qx_ (K:=K) (by simpa [fW_] using h) hp
  | .seq _::K,h,_=>by simp[fW_]at h
section code
variable {P:Program} {N:Nf} {v0:Vw} {H0:Hp} {R:Exit→Act→World→Prop} {K:List Kt} {fr:Fr} {H:Hp} {Γ:List Fct}
abbrev Run (P:Program) (R:Exit→Act→World→Prop) (N:Nf) (v0:Vw) (H0:Hp) (c:Code) (K:List Kt) (fr:Fr) (H:Hp) (Γ:List Fct):Prop :=
  Ok N v0 H0 (c.wp P (post P R K)) fr H Γ
abbrev Fin (P:Program) (R:Exit→Act→World→Prop) (N:Nf) (v0:Vw) (H0:Hp) (K:List Kt) (fr:Fr) (H:Hp) (Γ:List Fct):Prop :=
  Ok N v0 H0 (post P R K .normal) fr H Γ
abbrev Ops (P:Program) (R:Exit→Act→World→Prop) (N:Nf) (v0:Vw) (H0:Hp) (ops:Array Oper) (l:List Oper) (K:List Kt) (fr:Fr) (H:Hp) (Γ:List Fct):Prop :=
  Ok N v0 H0 (wpList P ops (post P R K) l) fr H Γ
theorem bf_ {x y:Code} (h:Run P R N v0 H0 x (.seq y::K) fr H Γ):Run P R N v0 H0 (.seq x y) K fr H Γ :=
  fun a v A C q B=>wp_seq (wp_mono (h a v A C q B) fun e a w d=>by cases e<;>exact d)
theorem gQ_ {d:Nat} {c:Code} (h:Run P R N v0 H0 c (.blk d::K) fr H Γ):Run P R N v0 H0 (.block d c) K fr H Γ :=
  fun a v y B x A=>wp_block (wp_mono (h a v y B x A) fun e a w q=>by cases e<;>exact q)
theorem gP_ (h:Fin P R N v0 H0 K fr H Γ):Run P R N v0 H0 .skip K fr H Γ :=
  fun a v x d q e=>wp_skip (h a v x d q e)
theorem mO_ {d:Nat} {e:List Kt} (y:unw d K=some e) (h:Fin P R N v0 H0 e fr H Γ):Run P R N v0 H0 (.exit d) K fr H Γ :=
  fun a v x B q A=>wp_exit (iK_ y (h a v x B q A))
theorem iJ_ (h:Ok N v0 H0 (R .ret) fr H Γ):Run P R N v0 H0 .ret K fr H Γ :=
  fun a v x d q e=>wp_ret (vD_ P R K a v.w (h a v x d q e))
theorem aY_ {c:Code} {d:List Kt} (x:nxt K=some (c,d)) (h:Run P R N v0 H0 c d fr H Γ):Fin P R N v0 H0 K fr H Γ :=
  fun a v q A e y=>ov_ x (h a v q A e y)
theorem fI_ {J:Act→World→Prop} (q:jv_ K=some J) (h:Ok N v0 H0 J fr H Γ):Fin P R N v0 H0 K fr H Γ :=
  fun a v e y d x=>qw_ q (h a v e y d x)
theorem yg_ (q:fW_ K=true) (h:Ok N v0 H0 (R .normal) fr H Γ):Fin P R N v0 H0 K fr H Γ :=
  fun a v e y d x=>qx_ q (h a v e y d x)
theorem aI_ {d:Nat} {l:List Oper} (h:Ops P R N v0 H0 l.toArray l K fr H Γ):Run P R N v0 H0 (.region d l.toArray false) K fr H Γ :=
  fun a v q y e x=>wp_region_lit (h a v q y e x)
theorem bs_ {d:Array Oper} (h:Fin P R N v0 H0 K fr H Γ):Ops P R N v0 H0 d [] K fr H Γ :=
  fun a v q y e x=>wpList_nil (h a v q y e x)
def Fr.ev (fr:Fr):Operand→Option Value
  | .tmp t=>Fr.get fr t
  | .const v=>some v
  | .global g=>some (.pointer (some ⟨g,0,none⟩))
  | .func f=>some (.func (.func f) #[] #[])
theorem Fr.sat.ev {a:Act} {x:Operand} {v:Value} (h:Fr.sat N fr a) (d:Fr.ev fr x=some v):a.eval x=v:=by
  cases x with
  | tmp t=>have:=h.val t v d;simp[Act.eval,this]
  | const c=>simpa [Fr.ev,Act.eval] using d
  | global g=>simpa [Fr.ev,Act.eval] using d
  | func f=>simpa [Fr.ev,Act.eval] using d
theorem Fr.sat.put {a:Act} {d:Nat} {x:Value} (h:Fr.sat N fr a) (B:Nat.blt d N.n=true):Fr.sat N ((d,x)::fr) (a.put (some d) x):=by
 have y:d<N.n:=by simpa [Nat.blt_eq] using B
 refine⟨by simp[Act.put,h.size],h.defers,fun t v q=>?_⟩;simp only[Fr.get]at q
 by_cases e:d=t
 ·subst e
  simp only[Nat.beq_refl,cond_true,Option.some.injEq]at q;subst q;simp[Act.put,Array.getElem?_setIfInBounds,h.size,y]
 have A:Nat.beq d t=false:=by
   cases A:Nat.beq d t
   · rfl
   · exact absurd (Nat.eq_of_beq_eq_true A) e
 rw[A,cond_false]at q;simp only[Act.put];rw[Array.getElem?_setIfInBounds_ne e];exact h.val t v q
theorem xK_ {k:Act→World→Prop} (d:Fr) (C:∀ t v,Fr.get d t=some v→Fr.get fr t=some v) (h:Ok N v0 H0 k d H Γ):Ok N v0 H0 k fr H Γ :=
  fun a v e B q A=>h a v ⟨e.size,e.defers,fun t x y=>e.val t x (C t x y)⟩ B q A
def Fr.le:Fr→Fr→Prop
  | [],_=>True
  | (t,v)::r,fr=>Fr.get fr t=some v∧Fr.le r fr
theorem Fr.le_get {d fr:Fr} (h:Fr.le d fr):∀ t v,Fr.get d t=some v→Fr.get fr t=some v:=by
 induction d with
 | nil=>intro t v q;simp[Fr.get]at q
 | cons p r ih =>
   obtain⟨s,u⟩:=p;intro t v q;simp only[Fr.get]at q
   by_cases e:s=t
   · subst e
     simp only[Nat.beq_refl,cond_true,Option.some.injEq]at q;subst q;exact h.1
   · have x:Nat.beq s t=false:=by
       cases x:Nat.beq s t
       · rfl
       · exact absurd (Nat.eq_of_beq_eq_true x) e
     rw[x,cond_false]at q;exact ih h.2 t v q
theorem bJ_ {k:Act→World→Prop} (d:Fr) (e:Fr.le d fr) (h:Ok N v0 H0 k d H Γ):Ok N v0 H0 k fr H Γ :=
  xK_ d (Fr.le_get e) h
theorem dN_ {k:Act→World→Prop} {H' F:Hp} {Γ':List Fct} (d:H.Perm (H'++F)) (y:∀ v,v.sat H→ac_ Γ v→ac_ Γ' v) (h:Ok N v0 H0 k fr H' Γ'):Ok N v0 H0 k fr H Γ :=
  fun a v x e q A=>h a v x (e.perm d).sub (q.subR fun b B=>by
    have:b∈(H'++F).map Prod.fst:=by rw[List.map_append];exact List.mem_append_left _ B
    exact (d.map Prod.fst).mem_iff.2 this) (y v e A)
theorem nj_ {k:Act→World→Prop} {Γ':List Fct} (x:∀ v,v.sat H→ac_ Γ v→ac_ Γ' v) (h:Ok N v0 H0 k fr H Γ'):Ok N v0 H0 k fr H Γ :=
  fun a v q d e y=>h a v q d e (x v d y)
theorem vK_ {k:Act→World→Prop} {p:Prop} (q:∀ v,v.sat H→ac_ Γ v→p) (h:p→Ok N v0 H0 k fr H Γ):Ok N v0 H0 k fr H Γ :=
  fun a v y d x e=>h (q v d e) a v y d x e
theorem qn_ {c:Operand} {x y:Code} {t:Bool} (C:Fr.ev fr c=some (.bool t)) (B:t=true→Run P R N v0 H0 x K fr H Γ) (E:t=false→Run P R N v0 H0 y K fr H Γ) :
    Run P R N v0 H0 (.cond c x y) K fr H Γ :=
  fun a v d A h q=>wp_cond_split (d.ev C) (fun e=>B e a v d A h q) (fun e=>E e a v d A h q)
theorem bV_ {c:Operand} {x y:Code} (d:Fr.ev fr c=some (.bool true)) (h:Run P R N v0 H0 x K fr H Γ):Run P R N v0 H0 (.cond c x y) K fr H Γ :=
  qn_ d (fun _=>h) (fun e=>by cases e)
theorem fb_ {c:Operand} {x y:Code} (d:Fr.ev fr c=some (.bool false)) (h:Run P R N v0 H0 y K fr H Γ):Run P R N v0 H0 (.cond c x y) K fr H Γ :=
  qn_ d (fun e=>by cases e) (fun _=>h)
def wY_ {ι:Type} (N:Nf) (v0:Vw) (H0:Hp) (frs:ι→Fr) (Hs:ι→Hp) (Γs:ι→List Fct) (μ:ι→Nat) (n:Nat) (a:Act) (w:World):Prop :=
  ∃ j v,v.w=w∧Fr.sat N (frs j) a∧v.sat (Hs j)∧v0.to H0 v (Hs j)∧ac_ (Γs j) v∧μ j<n
theorem ci_ {ι:Type} {c:Code} (d:ι→Fr) (Hs:ι→Hp) (y:ι→List Fct) (μ:ι→Nat) (x:ι)
    (h:∀ i,Run P R N v0 H0 c (.inv (wY_ N v0 H0 d Hs y μ (μ i))::K) (d i) (Hs i) (y i)) :
    Run P R N v0 H0 (.loop c) K (d x) (Hs x) (y x):=by
  intro a v I S Q L;refine wp_loop_ghost (fun n a w=>∃ i v,v.w=w∧Fr.sat N (d i) a∧v.sat (Hs i)∧v0.to H0 v (Hs i)∧ac_ (y i) v∧μ i=n) (μ x) ⟨x,v,rfl,I,S,Q,L,rfl⟩ ?_;rintro n a w ⟨i,v,rfl,F,O,J,B,rfl⟩;refine wp_mono (h i a v F O J B) fun e T w' q=>?_;cases e with
  | normal =>
    obtain⟨j,G,M,k1,k2,C,E,A⟩:=q;exact⟨μ j,A,j,G,M,k1,k2,C,E,rfl⟩
  | exit id=>exact q
  | goto l=>exact q
  | ret=>exact q
  | panic ch=>exact q
  | outgrown=>exact q
theorem K_ {ι:Type} {c:Code} (d:ι→Fr) (Hs:ι→Hp) (h:ι→List Fct) (μ:ι→Nat) (q:ι) {F:Hp} (x:Fr.le (d q) fr) (y:H.Perm (Hs q++F)) (A:∀ v,v.sat H→ac_ Γ v→ac_ (h q) v)
    (e:∀ i,Run P R N v0 H0 c (.inv (wY_ N v0 H0 d Hs h μ (μ i))::K) (d i) (Hs i) (h i)):Run P R N v0 H0 (.loop c) K fr H Γ :=
  bJ_ _ x (dN_ y A (ci_ d Hs h μ q e))
theorem x_ {ι:Type} {d:ι→Fr} {Hs:ι→Hp} {h:ι→List Fct} {μ:ι→Nat} {n:Nat} (j:ι) {F:Hp} (B:μ j<n) (e:Fr.le (d j) fr) (q:H.Perm (Hs j++F))
    (A:∀ v,v.sat H→ac_ Γ v→ac_ (h j) v):Ok N v0 H0 (wY_ N v0 H0 d Hs h μ n) fr H Γ :=
  bJ_ (d j) e (dN_ q A fun _ v y E x C=>⟨j,v,rfl,y,E,x,C,B⟩)
end code
end Go.Sx
namespace Go.Sx
open Go
section ops
variable {P:Program} {N:Nf} {v0:Vw} {H0:Hp} {R:Exit→Act→World→Prop} {K:List Kt} {fr:Fr} {H:Hp} {Γ:List Fct}
variable {ops:Array Oper} {l:List Oper} {d:Nat} {ty:TypeId} {ps:String} {af:Array Edge}
theorem co_ {o:Oper} (q:o.guard=none) (h:∀ a v,Fr.sat N fr a→v.sat H→v0.to H0 v H→ac_ Γ v→o.wp P a v.w (wpList P ops (post P R K) l) (post P R K)) :
    Ops P R N v0 H0 ops (o::l) K fr H Γ :=
  fun a v x B e y=>wpList_plain q fun C A=>Oper.wp_mono A (h a v x B e y)
def Yld (P:Program) (N:Nf) (fr:Fr) (H:Hp) (Γ:List Fct) (op:Op) (ty:TypeId) (x:Value):Prop :=
  ∀ a v,Fr.sat N fr a→v.sat H→ac_ Γ v→∀ d ps af,(execOp a.eval ⟨d,op,ty,ps,af,none⟩).run P v.w=.ok (.value x) v.w
theorem e_ {e:Op} {x:Value} (C:Yld P N fr H Γ e ty x) (B:Nat.blt d N.n=true)
    (hk:Ops P R N v0 H0 ops l K ((d,x)::fr) H Γ):Ops P R N v0 H0 ops (⟨some d,e,ty,ps,af,none⟩::l) K fr H Γ :=
  co_ rfl fun a v h y A q=>by
    unfold Oper.wp;rw[C a v h y q (some d) ps af];exact hk _ v (h.put B) y A q
theorem G_ {e:Op} {X:Bool} (q:Yld P N fr H Γ e ty (.bool X)) (h:Nat.blt d N.n=true)
    (hk:∀ r:Bool,X=r→Ops P R N v0 H0 ops l K ((d,.bool r)::fr) H Γ):Ops P R N v0 H0 ops (⟨some d,e,ty,ps,af,none⟩::l) K fr H Γ :=
  e_ q h (hk X rfl)
def iu_ (ops:Array Oper) (j:Nat):Option Nat:=(ops[j]?).bind (·.dst)
theorem hh_ {a:Act} {j t:Nat} {x:Value} (h:Fr.sat N fr a) (q:iu_ ops j=some t) (y:Fr.get fr t=some x) :
    yielded ops a.tmps j=match x with|.bool b=>some b|_=>none:=by
  have e:((ops[j]?).bind (·.dst)).bind (a.tmps[·]?)=some x:=by
    show (iu_ ops j).bind _=_
    rw[q];exact h.val t x y
  unfold yielded;rw[e];cases x<;>rfl
theorem ap_ {x:Op} {q:Option Nat} {j t:Nat} {e:Bool} (B:iu_ ops j=some t) (F:Fr.get fr t=some (.bool e))
    (h:Ops P R N v0 H0 ops (⟨q,x,ty,ps,af,none⟩::l) K fr H Γ):Ops P R N v0 H0 ops (⟨q,x,ty,ps,af,some (j,e)⟩::l) K fr H Γ :=
  fun a v A C E G=>by
    have I:Region.wanted (⟨q,x,ty,ps,af,some (j,e)⟩:Oper) (yielded ops a.tmps)=true:=by
      simp[Region.wanted,hh_ A B F]
    have y:Region.wanted (⟨q,x,ty,ps,af,none⟩:Oper) (yielded ops a.tmps)=true:=rfl;have:=h a v A C E G;unfold wpList at this ⊢;rw[if_pos y]at this;rw[if_pos I];exact this
theorem ops_no {q:Op} {j t:Nat} {e:Bool} {x:Value} (A:iu_ ops j=some t) (C:Fr.get fr t=some x) (I:(match x with|.bool b=>Bool.xor b e|_=>true)=true) (F:Nat.blt d N.n=true)
    (h:Ops P R N v0 H0 ops l K ((d,undef)::fr) H Γ):Ops P R N v0 H0 ops (⟨some d,q,ty,ps,af,some (j,e)⟩::l) K fr H Γ :=
  fun a v y E B G=>by
    have J:Region.wanted (⟨some d,q,ty,ps,af,some (j,e)⟩:Oper) (yielded ops a.tmps)=false:=by
      simp only[Region.wanted,hh_ y A C];cases x<;>first|rfl|(rename_i b;cases b<;>cases e<;>simp_all)
    exact wpList_skip J (h _ v (y.put F) E B G)
theorem al_ {x:Operand} {u:Value} (e:Fr.ev fr x=some u) :
    Yld P N fr H Γ (.move x) ty (u) :=
  fun a v h _ _ _ _ _=>by rw[← h.ev e];rfl
theorem ay_ {x:Operand} {u:Value} (e:Fr.ev fr x=some u) :
    Yld P N fr H Γ (.assign x) ty (u) :=
  fun a v h _ _ _ _ _=>by rw[← h.ev e];rfl
theorem cf_ {c x y:Operand} {u:Value} (q:Fr.ev fr c=some (.bool true)) (h:Fr.ev fr x=some u) :
    Yld P N fr H Γ (.pick c x y) ty (u) :=
  fun a v e _ _ _ _ _=>by simp[execOp,e.ev q,e.ev h,asBool]
theorem mt_ {c x y:Operand} {u:Value} (q:Fr.ev fr c=some (.bool false)) (h:Fr.ev fr y=some u) :
    Yld P N fr H Γ (.pick c x y) ty (u) :=
  fun a v e _ _ _ _ _=>by simp[execOp,e.ev q,e.ev h,asBool]
theorem br_ {t q:TypeId} {x y:Operand} {k:IntKind} {m n:Int} (h:Fr.ev fr x=some (.int k m)) (A:Fr.ev fr y=some (.int k n)) :
    Yld P N fr H Γ (.binOp .eql t x y q) ty (.bool ((m==n))) :=
  fun a v e _ _ _ _ _=>by simp[execOp,e.ev h,e.ev A,eqGuard,binOp,Op.intCmp]
theorem cg_ {t q:TypeId} {x y:Operand} {k:IntKind} {m n:Int} (h:Fr.ev fr x=some (.int k m)) (A:Fr.ev fr y=some (.int k n)) :
    Yld P N fr H Γ (.binOp .neq t x y q) ty (.bool ((m != n))) :=
  fun a v e _ _ _ _ _=>by simp[execOp,e.ev h,e.ev A,eqGuard,binOp,Op.intCmp]
theorem dg_ {t q:TypeId} {x y:Operand} {k:IntKind} {m n:Int} (h:Fr.ev fr x=some (.int k m)) (A:Fr.ev fr y=some (.int k n)) :
    Yld P N fr H Γ (.binOp .lss t x y q) ty (.bool (decide (m<n))) :=
  fun a v e _ _ _ _ _=>by simp[execOp,e.ev h,e.ev A,eqGuard,binOp,Op.intCmp]
theorem dK_ {t q:TypeId} {x y:Operand} {k:IntKind} {m n:Int} (h:Fr.ev fr x=some (.int k m)) (A:Fr.ev fr y=some (.int k n)) :
    Yld P N fr H Γ (.binOp .leq t x y q) ty (.bool (decide (m≤n))) :=
  fun a v e _ _ _ _ _=>by simp[execOp,e.ev h,e.ev A,eqGuard,binOp,Op.intCmp]
theorem dA_ {t q:TypeId} {x y:Operand} {k:IntKind} {m n:Int} (h:Fr.ev fr x=some (.int k m)) (A:Fr.ev fr y=some (.int k n)) :
    Yld P N fr H Γ (.binOp .gtr t x y q) ty (.bool (decide (n<m))) :=
  fun a v e _ _ _ _ _=>by simp[execOp,e.ev h,e.ev A,eqGuard,binOp,Op.intCmp]
theorem eD_ {t q:TypeId} {x y:Operand} {k:IntKind} {m n:Int} (h:Fr.ev fr x=some (.int k m)) (A:Fr.ev fr y=some (.int k n)) :
    Yld P N fr H Γ (.binOp .geq t x y q) ty (.bool (decide (n≤m))) :=
  fun a v e _ _ _ _ _=>by simp[execOp,e.ev h,e.ev A,eqGuard,binOp,Op.intCmp]
def wo_:BinOp→Int→Int→Option Int
  | .add,a,b=>some (a+b)
  | .sub,a,b=>some (a - b)
  | .mul,a,b=>some (a*b)
  | _,_,_=>none
theorem aZ_ {e:BinOp} {t B:TypeId} {x y:Operand} {k:IntKind} {m n r:Int} (A:Fr.ev fr x=some (.int k m)) (E:Fr.ev fr y=some (.int k n)) (h:wo_ e m n=some r) (C:k.wrap r=r) :
    Yld P N fr H Γ (.binOp e t x y B) ty (.int k r) :=
  fun a v q _ _ _ _ _=>by
    cases e<;>simp only[wo_,Option.some.injEq,reduceCtorEq]at h<;>subst h <;>
      simp[execOp,q.ev A,q.ev E,eqGuard,binOp,Op.intArith,C]
theorem ce_ {r:Int} (h:-9223372036854775808≤r) (e:r≤9223372036854775807):IntKind.wrap .i64 r=r:=by
  exact IntWalk.i64_in r ⟨h,e⟩
theorem as_ {x:Operand} {t:TypeId} {b:Bool} (e:Fr.ev fr x=some (.bool b)) :
    Yld P N fr H Γ (.unOp .not t x) ty (.bool !b) :=
  fun a v h _ _ _ _ _=>by simp[execOp,h.ev e,Op.unary]
def lg:List Value→Nat→Option Value
  | [],_=>none
  | x::_,0=>some x
  | _::r,n+1=>lg r n
theorem lg_eq:∀ (c:List Value) (i:Nat),lg c i=c[i]?
  | [],i=>by simp[lg]
  | x::r,0=>rfl
  | x::r,n+1=>by simpa [lg] using lg_eq r n
def pq_:List Value→Nat→Nat→Option (List Value)
  | _,_,0=>some []
  | c,off,n+1=>match lg c off with
    | some x=>match pq_ c (off+1) n with
      | some r=>some (x::r)
      | none=>none
    | none=>none
theorem oH_:∀ (n off:Nat) (c r:List Value),pq_ c off n=some r→r.length=n∧∀ j v,r[j]? = some v→c[off+j]? = some v
 | 0,off,c,r,h=>by simp only[pq_,Option.some.injEq]at h;subst h;exact⟨rfl,by simp⟩
 | n+1,off,c,r,h=>by
   simp only[pq_]at h
   split at h
   · rename_i x A
     split at h
     · rename_i q y
       simp only[Option.some.injEq]at h;subst h;obtain⟨B,C⟩:=oH_ n (off+1) c q y;refine⟨by simp[B],fun j v e=>?_⟩;cases j with
       | zero=>simp only[List.getElem?_cons_zero,Option.some.injEq]at e;subst e;rw[← lg_eq];exact A
       | succ j=>rw[show off+(j+1)=off+1+j by omega];exact C j v zag_
     · cases h
   · cases h
theorem cj_ (b off n:Nat):(⟨b,off,none⟩:Addr).add n=⟨b,off+n,none⟩:=by unfold Addr.add;split<;>simp_all
theorem cE_ {t:TypeId} {w:World} {ad:Addr} {x:Value} (h:∀ w,(isAgg t).run P w=.ok false w) (e:w.cell? ad=some x):(loadVar t ad).run P w=.ok x w:=by
  simp[loadVar,h,e]
theorem dP_ {t:TypeId} {w:World} {b off n:Nat} {cs:List Value} (h:∀ w,(isAgg t).run P w=.ok true w) (y:∀ w,(sizeOf t).run P w=.ok n w) (q:cs.length=n)
    (x:∀ j v,cs[j]? = some v→w.cell? ⟨b,off+j,none⟩=some v):(loadVar t ⟨b,off,none⟩).run P w=.ok (.agg cs.toArray) w:=by
  have:=run_loadCells_list (P:=P) w ⟨b,off,none⟩ cs (fun j v e=>by rw[cj_];exact x j v e);rw[q]at this;simp[loadVar,h,y,this]
theorem fT_ {v:Vw} {i b:Nat} {cur:Array Value} {T:TypeId} {fz:Nat×Nat} (h:v.sat H) (hi:H[i]? = some (b,.cells cur T fz)) (j:Nat):v.w.cell? ⟨b,j,none⟩=cur.toList[j]? := by
  have:=(h.own _ (List.mem_of_getElem? hi)).1;simp[World.cell?,this]
theorem aG_ {t:TypeId} {x:Operand} {b off:Nat} (i:Nat) {cur:Array Value} {T:TypeId} {fz:Nat×Nat} {u:Value} (y:∀ w,(isAgg t).run P w=.ok false w)
    (h:Fr.ev fr x=some (.pointer (some ⟨b,off,none⟩))) (hi:H[i]? = some (b,.cells cur T fz)) (A:lg cur.toList off=some u) :
    Yld P N fr H Γ (.load t x) ty (u) :=
  fun a v q e _ _ _ _=>by
    have:=cE_ (P:=P) (w:=v.w) y (show v.w.cell? ⟨b,off,none⟩=some u by rw[fT_ e hi,← lg_eq];exact A);simp[execOp,q.ev h,Instr.loadAt,Instr.sureAddr,this]
theorem bB_ {t:TypeId} {x:Operand} {b off n:Nat} (i:Nat) {cur:Array Value} {T:TypeId} {fz:Nat×Nat} {us:List Value} (A:∀ w,(isAgg t).run P w=.ok true w) (G:∀ w,(sizeOf t).run P w=.ok n w)
    (E:Fr.ev fr x=some (.pointer (some ⟨b,off,none⟩))) (hi:H[i]? = some (b,.cells cur T fz)) (F:pq_ cur.toList off n=some us) :
    Yld P N fr H Γ (.load t x) ty (.agg us.toArray) :=
  fun a v q h _ _ _ _=>by
    obtain⟨B,C⟩:=oH_ n off _ _ F;have:=dP_ (P:=P) (w:=v.w) (b:=b) (off:=off) A G B (fun j y e=>by rw[fT_ h hi];exact C j y e);simp[execOp,q.ev E,Instr.loadAt,Instr.sureAddr,this]
theorem gJ_ {t:TypeId} {x:Operand} {ad:Addr} {u:Value} (e:Fr.ev fr x=some (.pointer (some ad))) (q:∀ v,v.sat H→ac_ Γ v→(loadVar t ad).run P v.w=.ok u v.w) :
    Yld P N fr H Γ (.load t x) ty (u) :=
  fun a v h A y _ _ _=>by simp[execOp,h.ev e,Instr.loadAt,Instr.sureAddr,q v A y]
theorem fE_ {v:Vw} {w':World} {o:Obj} (h:v.sat H) (A:w'.heap=v.w.heap.push o) (E:w'.os=v.w.os) (G:w'.tape=v.w.tape) (F:w'.output=v.w.output) (I:v.w.drawn≤w'.drawn) :
    (⟨v.im,w',v.sl⟩:Vw).sat ((v.w.heap.size,o)::H)∧v.to H ⟨v.im,w',v.sl⟩ ((v.w.heap.size,o)::H):=by
  have C:∀ k,k<v.w.heap.size→w'.heap[k]? = v.w.heap[k]? := fun k hk=>by rw[A,Array.getElem?_push,if_neg za_]
  have y:∀ p,p∈H→p.1<v.w.heap.size:=fun p x=>(Array.getElem?_eq_some_iff.1 (h.own p x).1).1
  refine⟨⟨fun p x=>?_,?_,fun b q=>?_⟩,E,G,F,by simp[A],fun b B _=>C b B,fun _ h=>h,fun _ h=>.inl h,fun b q=>?_,rfl,.inr I⟩
  · rcases List.mem_cons.1 x with rfl|x
    · refine⟨by show w'.heap[v.w.heap.size]? = some o;rw[A];simp,fun hi=>?_⟩
      have:=h.lt _ hi;simp at this
    · exact⟨by show w'.heap[p.1]? = _;rw[C _ (y p x)];exact (h.own p x).1,(h.own p x).2⟩
  · rw[List.map_cons,List.nodup_cons]
    refine⟨fun hm=>?_,h.nodup⟩;obtain⟨p,x,e⟩:=List.mem_map.1 hm;have:=y p x;simp at e;omega
  · have:=h.lt b q
    show b<w'.heap.size
    simp[A];omega
  · rw[List.map_cons]at q
    rcases List.mem_cons.1 q with rfl|B
    · exact .inr (Nat.le_refl _)
    · exact .inl B
theorem nd_ {h:Op} {β:Type} {x:β→Nat→Value} {o:β→Obj} (q:β→Prop) (O:Nat.blt d N.n=true)
    (I:∀ a v,Fr.sat N fr a→v.sat H→ac_ Γ v→∃ y w',q y∧(execOp a.eval ⟨some d,h,ty,ps,af,none⟩).run P v.w=.ok (.value (x y v.w.heap.size)) w'∧w'.heap=v.w.heap.push (o y)∧w'.os=v.w.os∧w'.tape=v.w.tape∧w'.output=v.w.output∧v.w.drawn≤w'.drawn)
    (hk:∀ y b,q y→Ops P R N v0 H0 ops l K ((d,x y b)::fr) ((b,o y)::H) Γ):Ops P R N v0 H0 ops (⟨some d,h,ty,ps,af,none⟩::l) K fr H Γ :=
  co_ rfl fun a v A e M B=>by
    obtain⟨y,w',E,F,T,G,L,J,S⟩:=I a v A e B;unfold Oper.wp;rw[F];obtain⟨Q,C⟩:=fE_ e T G L J S;exact hk y v.w.heap.size E _ ⟨v.im,w',v.sl⟩ (A.put O) Q (M.trans C) (an_ (C.le e) B)
theorem gt_ {e:Op} {x:Nat→Value} {o:Obj} (q:Nat.blt d N.n=true)
    (B:∀ a v,Fr.sat N fr a→v.sat H→ac_ Γ v→(execOp a.eval ⟨some d,e,ty,ps,af,none⟩).run P v.w=.ok (.value (x v.w.heap.size)) (v.w.alloc o))
    (hk:∀ b,Ops P R N v0 H0 ops l K ((d,x b)::fr) ((b,o)::H) Γ):Ops P R N v0 H0 ops (⟨some d,e,ty,ps,af,none⟩::l) K fr H Γ :=
  nd_ (β:=Unit) (x:=fun _ b=>x b) (o:=fun _=>o) (fun _=>True) q (fun a v h A y=>⟨(),v.w.alloc o,trivial,B a v h A y,rfl,rfl,rfl,rfl,Nat.le_refl _⟩) (fun _ b _=>hk b)
theorem V_ {t:TypeId} {x:Operand} {u:Value} (e:Fr.ev fr x=some u) (q:Nat.blt d N.n=true)
    (hk:∀ b,Ops P R N v0 H0 ops l K ((d,.pointer (some ⟨b,0,none⟩))::fr) ((b,.cells u.cells t (0,0))::H) Γ):Ops P R N v0 H0 ops (⟨some d,.box t x,ty,ps,af,none⟩::l) K fr H Γ :=
  gt_ (x:=fun b=>.pointer (some ⟨b,0,none⟩)) q (fun a v h _ _=>by simp[execOp,h.ev e,Instr.box,newVar,newRow,newObj];rfl) hk
theorem E_ {t:TypeId} {z:Value} (e:∀ w,(zeroValue t).run P w=.ok z w) (h:Nat.blt d N.n=true)
    (hk:∀ b,Ops P R N v0 H0 ops l K ((d,.pointer (some ⟨b,0,none⟩))::fr) ((b,.cells z.cells t (0,0))::H) Γ):Ops P R N v0 H0 ops (⟨some d,.alloc t,ty,ps,af,none⟩::l) K fr H Γ :=
  gt_ (x:=fun b=>.pointer (some ⟨b,0,none⟩)) h (fun a v q _ _=>by simp[execOp,e,Instr.alloc,newVar,newRow,newObj];rfl) hk
theorem eG_ {v:Vw} {i b:Nat} {o o':Obj} {w':World} (h:v.sat H) (hi:H[i]? = some (b,o)) (Q:w'.os=v.w.os) (U:w'.tape=v.w.tape) (T:w'.output=v.w.output) (W:v.w.drawn≤w'.drawn) (G:w'.heap.size=v.w.heap.size)
    (J:w'.heap[b]? = some o') (I:∀ k,k≠b→w'.heap[k]? = v.w.heap[k]?):(⟨v.im,w',v.sl⟩:Vw).sat (H.set i (b,o'))∧v.to H ⟨v.im,w',v.sl⟩ (H.set i (b,o')):=by
  have hm:=List.mem_of_getElem? hi
  have y:(H.set i (b,o')).map Prod.fst=H.map Prod.fst:=by
    rw[List.map_set]
    apply List.ext_getElem?
    intro j;rw[List.getElem?_set]
    split
    · rename_i q;subst q;rw[List.getElem?_map,hi];simp[(List.getElem?_eq_some_iff.1 hi).1]
    · rfl
  refine⟨⟨fun p V=>?_,by rw[y];exact h.nodup,fun x C=>?_⟩,Q,U,T,by simp[G],fun x _ O=>I x (fun e=>O ?_),fun _ h=>h,fun _ h=>.inl h,fun x C=>.inl (by rw[y]at C;exact C),rfl,.inr W⟩
  · obtain⟨j,q⟩:=List.getElem?_of_mem V
    rw[List.getElem?_set]at q
    split at q
    · rename_i A
      subst A
      split at q
      · simp only[Option.some.injEq]at q;subst q
        exact⟨J,(h.own _ hm).2⟩
      · cases q
    · rename_i A
      have B:=List.mem_of_getElem? q
      have F:p.1≠b:=fun e=>by
        have E:=h.nodup;have L:(H.map Prod.fst)[i]? = some b:=by simp[hi]
        have S:(H.map Prod.fst)[j]? = some b:=by simp[q,e]
        obtain⟨Y,X⟩:=List.getElem?_eq_some_iff.1 L;obtain⟨Z,M⟩:=List.getElem?_eq_some_iff.1 S;exact A ((List.getElem_inj E).1 (X.trans M.symm))
      exact⟨by show w'.heap[p.1]? = _;rw[I _ F];exact (h.own p B).1,(h.own p B).2⟩
  · show x<w'.heap.size
    rw[G];exact h.lt x C
  · subst e;exact List.mem_map.2 ⟨_,hm,rfl⟩
theorem z_ {t:TypeId} {x y:Operand} {b off n:Nat} (i:Nat) {cur:Array Value} {T:TypeId} {u:Value} (S:∀ w,(sizeOf t).run P w=.ok n w)
    (O:Fr.ev fr x=some (.pointer (some ⟨b,off,none⟩))) (L:Fr.ev fr y=some u) (hi:H[i]? = some (b,.cells cur T (0,0))) (A:u.cells.size=n) (F:Nat.ble (off+n) cur.size=true) (B:u.cells.toList.all Value.oneCell'=true)
    (hk:Ops P R N v0 H0 ops l K fr (H.set i (b,.cells (cur.toList.take off++u.cells.toList++cur.toList.drop (off+n)).toArray T (0,0))) Γ) :
    Ops P R N v0 H0 ops (⟨none,.store t x y,ty,ps,af,none⟩::l) K fr H Γ :=
  co_ rfl fun a v q h M I=>by
    have C:=(h.own _ (List.mem_of_getElem? hi)).1;have e:=run_storeCells_at P b off T u.cells.toList 0 cur v.w C (by simp[A];exact Nat.le_of_ble_eq_true F) (fun c G=>List.all_eq_true.1 B c G)
    have J:(execOp a.eval ⟨none,.store t x y,ty,ps,af,none⟩).run P v.w=.ok .skip (v.w.setRow b (cur.toList.take off++u.cells.toList++cur.toList.drop (off+n)).toArray):=by
      simp only[Nat.add_zero,Array.length_toList,A]at e;simp[execOp,q.ev O,q.ev L,Instr.storeAt,Instr.sureAddr,storeVar,S,A,e]
    unfold Oper.wp;rw[J];obtain⟨Q,E⟩:=eG_ (w':=v.w.setRow b (cur.toList.take off++u.cells.toList++cur.toList.drop (off+n)).toArray) h hi rfl rfl rfl (Nat.le_refl _) zj_ (setRow_heap _ _ _ _ _ _ C) (fun k hk=>setRow_other _ _ _ _ hk);exact hk a _ q Q (M.trans E) (an_ (E.le h) I)
theorem bO_ {s:TypeId} {x:Operand} {f b off o:Nat} {fs:Array Field} {e:Field} {n:Nat} (B:∀ w,(underlying s).run P w=.ok (.struct fs) w) (A:Fr.ev fr x=some (.pointer (some ⟨b,off,none⟩))) (h:fs[f]? = some e) (y:e.offset=o)
    (C:∀ w,(sizeOf e.type).run P w=.ok (n+1) w) :
    Yld P N fr H Γ (.fieldAddr s x f) ty (.pointer (some ⟨b,off+o,none⟩)) :=
  fun a v q E _ _ _ _=>by simp[execOp,q.ev A,Instr.fieldAt,B,h,Instr.sureAddr,fieldPlace,C,cj_,y]
theorem eW_ {t e:TypeId} {x y:Operand} {b off len cap n:Nat} {k:IntKind} {i:Int} (B:∀ w,(underlying t).run P w=.ok (.slice e) w) (E:∀ w,(sizeOf e).run P w=.ok n w)
    (A:Fr.ev fr x=some (.slice (some ⟨b,off,none⟩) len cap)) (q:Fr.ev fr y=some (.int k i)) (C:0≤i) (hl:i<len) :
    Yld P N fr H Γ (.indexAddr t x y) ty (.pointer (some ⟨b,off+i.toNat*n,none⟩)) :=
  fun a v h F _ _ _ _=>by simp[execOp,h.ev A,h.ev q,Instr.indexAt,B,asIntOf,E,cj_,C,hl]
theorem ea_ {t e:TypeId} {x y:Operand} {b off len n:Nat} {k:IntKind} {i:Int} (B:∀ w,(underlying t).run P w=.ok (.array len e) w) (E:∀ w,(sizeOf e).run P w=.ok n w)
    (A:Fr.ev fr x=some (.pointer (some ⟨b,off,none⟩))) (q:Fr.ev fr y=some (.int k i)) (C:0≤i) (hl:i<len) :
    Yld P N fr H Γ (.indexAddr t x y) ty (.pointer (some ⟨b,off+i.toNat*n,none⟩)) :=
  fun a v h F _ _ _ _=>by simp[execOp,h.ev A,h.ev q,Instr.indexAt,B,asIntOf,E,Instr.sureAddr,cj_,C,hl]
theorem kB_ {x:Operand} {ad:Addr} (e:Fr.ev fr x=some (.pointer (some ad))) :
    Yld P N fr H Γ (.nilCheck x) ty (.pointer (some ad)) :=
  fun a v h q _ _ _ _=>by simp[execOp,h.ev e]
theorem dC_ {x:Operand} {t e:TypeId} {ad:Option Addr} {len cap:Nat} (y:∀ w,(underlying t).run P w=.ok (.slice e) w) (h:Fr.ev fr x=some (.slice ad len cap)) :
    Yld P N fr H Γ (.call ⟨.builtin .len,#[x],#[t]⟩) ty (.int .i64 (len:Int)) :=
  fun a v q A _ _ _ _=>by simp[execOp,resolve,invoke,builtin,Builtin.len_,q.ev h,y,goInt]
theorem bC_ {x:Operand} {i:Nat} {vs:Array Value} {u:Value} (h:Fr.ev fr x=some (.tuple vs)) (e:lg vs.toList i=some u) :
    Yld P N fr H Γ (.extract x i) ty (u) :=
  fun a v q y _ _ _ _=>by
    rw[lg_eq,Array.getElem?_toList]at e;simp[execOp,q.ev h,Instr.extract,e]
def str (l:List UInt8):Value:=.string ⟨l.toArray⟩
theorem str_of (s:ByteArray):Value.string s=str s.data.toList:=rfl
theorem df_ {t q:TypeId} {x y:Operand} {m n:List UInt8} (h:Fr.ev fr x=some (str m)) (A:Fr.ev fr y=some (str n)) :
    Yld P N fr H Γ (.binOp .eql t x y q) ty (.bool ((m==n))) :=
  fun a v e _ _ _ _ _=>by simp[execOp,e.ev h,e.ev A,str,eqGuard,binOp,Op.stringOp]
theorem cT_ {t q:TypeId} {x y:Operand} {m n:List UInt8} (h:Fr.ev fr x=some (str m)) (A:Fr.ev fr y=some (str n)) :
    Yld P N fr H Γ (.binOp .neq t x y q) ty (.bool ((m != n))) :=
  fun a v e _ _ _ _ _=>by simp[execOp,e.ev h,e.ev A,str,eqGuard,binOp,Op.stringOp,bne]
theorem fl_ {t A:TypeId} {x y:Operand} {m n:List UInt8} (q:Fr.ev fr x=some (str m)) (B:Fr.ev fr y=some (str n)) (hl:m.length+n.length≤9223372036854775807) :
    Yld P N fr H Γ (.binOp .add t x y A) ty (str (m++n)) :=
  fun a v e _ _ _ _ _=>by
    have h:=run_string_add_sum (P:=P) v.w ⟨m.toArray⟩ ⟨n.toArray⟩ zaw_;rw[ByteArray.mk_append_mk]at h;simp[execOp,e.ev q,e.ev B,str,eqGuard,binOp_string_add,h]
theorem cl_ {x:Operand} {t:TypeId} {m:List UInt8} (q:∀ w,(underlying t).run P w=.ok .string w) (e:Fr.ev fr x=some (str m)) :
    Yld P N fr H Γ (.call ⟨.builtin .len,#[x],#[t]⟩) ty (.int .i64 (m.length:Int)) :=
  fun a v h y _ _ _ _=>by simp[execOp,resolve,invoke,builtin,Builtin.len_,h.ev e,q,goInt,str];rfl
theorem dL_ {x y:Operand} {t:TypeId} {m:List UInt8} {k:IntKind} {i:Int} {c:UInt8} (C:∀ w,(underlying t).run P w=.ok .string w) (A:Fr.ev fr x=some (str m)) (q:Fr.ev fr y=some (.int k i)) (E:0≤i) (e:m[i.toNat]? = some c) :
    Yld P N fr H Γ (.index t x y) ty (.int .u8 (c.toNat:Int)) :=
  fun a v h F _ _ _ _=>by
    have hl:i.toNat<m.length:=(List.getElem?_eq_some_iff.1 e).1
    have B:(⟨m.toArray⟩:ByteArray)[i.toNat]? = some c:=by
      rw[ByteArray.getElem?_lt' _ _ zaw_];have:(⟨m.toArray⟩:ByteArray)[i.toNat]'zaw_=m[i.toNat]:=rfl;rw[this];rw[List.getElem?_eq_getElem hl]at e;exact e
    simp[execOp,Instr.index,h.ev A,h.ev q,asIntOf,C,str,E,B]
def hc_ (P:Program) (f:FuncId):Prop:=∀ args w,(callFunc f args).run P w=.ok (.enter f args) w
theorem callable {f : FuncId} {fn : Func} {c : Code} (h : P.funcs[f]? = some fn) (x : fn.body = some c) (q : (fn.name == "runtime.NumGoroutine") = false) : hc_ P f := by
  intro args w;have e : ¬ fn.name = "runtime.NumGoroutine" := by simpa using q
  simp[callFunc,run_program,h,x,e]
structure Tri (P:Program) (f:FuncId) (args:Array Value) (H:Hp) (Γ:List Fct) {ι:Type} (ret:ι→Value) (H':ι→Hp) (Γ':ι→List Fct):Prop where
  callable:hc_ P f
  run:∀ v,v.sat H→ac_ Γ v→Calls P f args v.w fun e w'=>∃ x v',e=.returned (ret x)∧v'.w=w'∧v'.sat (H' x)∧ac_ (Γ' x) v'∧v.to H v' (H' x)
def Fr.evs (fr:Fr):List Operand→Option (List Value)
  | []=>some []
  | x::r=>match Fr.ev fr x with
    | some v=>match Fr.evs fr r with
      | some vs=>some (v::vs)
      | none=>none
    | none=>none
theorem Fr.sat.evs {a:Act} (h:Fr.sat N fr a):∀ {xs:List Operand} {vs:List Value},Fr.evs fr xs=some vs→xs.map a.eval=vs
 | [],vs,e=>by simp only[Fr.evs,Option.some.injEq]at e;subst e;rfl
 | x::r,vs,e=>by
   simp only[Fr.evs]at e
   split at e
   · rename_i u y
     split at e
     · rename_i us q
       simp only[Option.some.injEq]at e;subst e;rw[List.map_cons,h.ev y,h.evs q]
     · cases e
   · cases e
theorem oA_ {A:Op} {f:FuncId} {vs:List Value} {ι:Type} {Hc F:Hp} {E:List Fct} {q:ι→Value} {H':ι→Hp} {Γ':ι→List Fct}
    (S:Tri P f vs.toArray Hc E q H' Γ') (M:∀ a v,Fr.sat N fr a→(execOp a.eval ⟨some d,A,ty,ps,af,none⟩).run P v=.ok (.enter f vs.toArray) v)
    (y:H.Perm (Hc++F)) (J:∀ v,v.sat H→ac_ Γ v→ac_ E v) (T:Nat.blt d N.n=true)
    (hk:∀ x,Ops P R N v0 H0 ops l K ((d,q x)::fr) (H' x++F) (Γ' x++Γ)):Ops P R N v0 H0 ops (⟨some d,A,ty,ps,af,none⟩::l) K fr H Γ :=
  co_ rfl fun a v B G Q C=>by
    unfold Oper.wp;rw[M a v.w B];have h:=G.perm y;refine (S.run v h.sub (J v G C)).mono ?_;rintro e w' ⟨x,I,rfl,rfl,U,O,L⟩;obtain⟨k1,k2⟩:=L.frame h U;exact hk x _ I (B.put T) k1 (Q.trans (k2.permL y.symm)) (eM_.2 ⟨O,an_ (k2.le h) C⟩)
theorem j_ {f:FuncId} {q:List Operand} {h:Array TypeId} {vs:List Value} {ι:Type} {Hc F:Hp} {y:List Fct} {e:ι→Value} {H':ι→Hp} {Γ':ι→List Fct}
    (A:Tri P f vs.toArray Hc y e H' Γ') (G:Fr.evs fr q=some vs) (B:H.Perm (Hc++F)) (E:∀ v,v.sat H→ac_ Γ v→ac_ y v) (I:Nat.blt d N.n=true)
    (hk:∀ x,Ops P R N v0 H0 ops l K ((d,e x)::fr) (H' x++F) (Γ' x++Γ)) :
    Ops P R N v0 H0 ops (⟨some d,.call ⟨.value (.func f),q.toArray,h⟩,ty,ps,af,none⟩::l) K fr H Γ :=
  oA_ A (fun a w C=>by
    have:=C.evs G;simp[execOp,resolve,Deferred.ofValue,Act.eval,invoke,this,A.callable _ w]) B E I hk
theorem A_ {f:FuncId} {h:List Operand} {e:Array TypeId} {vs:List Value} {Hc F:Hp} {q:List Fct} {X:Bool}
    (y:Tri P f vs.toArray Hc q (fun _:Unit=>.bool X) (fun _=>Hc) (fun _=>[])) (A:Fr.evs fr h=some vs) (x:H.Perm (Hc++F)) (B:∀ v,v.sat H→ac_ Γ v→ac_ q v) (C:Nat.blt d N.n=true)
    (hk:∀ r:Bool,X=r→Ops P R N v0 H0 ops l K ((d,.bool r)::fr) (Hc++F) Γ) :
    Ops P R N v0 H0 ops (⟨some d,.call ⟨.value (.func f),h.toArray,e⟩,ty,ps,af,none⟩::l) K fr H Γ :=
  j_ y A x B C fun _=>hk X rfl
end ops
section body
variable {P:Program} {N:Nf} {fr:Fr} {H:Hp} {Γ:List Fct}
def kz_ {ι:Type} (v0:Vw) (H0:Hp) (ret:ι→Value) (H':ι→Hp) (Γ':ι→List Fct) (e:Ending) (w':World):Prop :=
  ∃ x v',e=.returned (ret x)∧v'.w=w'∧v'.sat (H' x)∧ac_ (Γ' x) v'∧v0.to H0 v' (H' x)
def kQ_ (i:Nat):List Value→Fr
  | []=>[]
  | x::r=>(i,x)::kQ_ (i+1) r
theorem jz_:∀ (l:List Value) (i t:Nat) (v:Value),Fr.get (kQ_ i l) t=some v→i≤t∧l[t - i]? = some v
 | [],i,t,v,h=>by simp[kQ_,Fr.get]at h
 | x::r,i,t,v,h=>by
   simp only[kQ_,Fr.get]at h
   by_cases e:i=t
   · subst e
     simp only[Nat.beq_refl,cond_true,Option.some.injEq]at h;subst h;simp
   · have q:Nat.beq i t=false:=by
       cases q:Nat.beq i t
       · rfl
       · exact absurd (Nat.eq_of_beq_eq_true q) e
     rw[q,cond_false]at h;obtain⟨A,y⟩:=jz_ r (i+1) t v h;refine⟨by omega,?_⟩;rw[show t - i=(t - (i+1))+1 by omega];simpa using y
theorem i_ {N:Nat} {f:FuncId} {fn:Func} {c:Code} {args:List Value} {ι:Type} {e:ι→Value} {H':ι→Hp} {Γ':ι→List Fct}
    (A : P.funcs[f]? = some fn) (B : fn.body = some c) (F : (fn.name == "runtime.NumGoroutine") = false) (J : fn.ntmps = N) (hl : Nat.ble args.length N = true)
    (h:∀ v0,Run P (bodyPost P fn (kz_ v0 H e H' Γ')) N v0 H c [] (kQ_ 0 args) H Γ):Tri P f args.toArray H Γ e H' Γ':=by
  refine⟨callable A B F,fun v E C=>calls_of_wp A B ?_⟩;have G:args.length≤N:=Nat.le_of_ble_eq_true hl;have:=h v ⟨args.toArray++Array.replicate (fn.ntmps - args.toArray.size) undef,[]⟩ v ⟨by simp[J];omega,rfl,fun t x I=>?_⟩ E (Vw.to.refl _ _) C
  · exact this
  · obtain⟨_,q⟩:=jz_ args 0 t x I
    simp only[Nat.sub_zero]at q;have y:=(List.getElem?_eq_some_iff.1 q).1;rw[Array.getElem?_append_left (by simpa using y)];simpa using q
theorem Y_ {N:Nat} {fn:Func} {t:Nat} {ι:Type} {v0:Vw} {H0 F:Hp} {ret:ι→Value} {H':ι→Hp} {Γ':ι→List Fct} (y:fn.results=#[.tmp t]) (x:ι) (E:Fr.get fr t=some (ret x)) (h:H.Perm (H' x++F))
    (A:∀ v,v.sat H→ac_ Γ v→ac_ (Γ' x) v):Ok N v0 H0 (bodyPost P fn (kz_ v0 H0 ret H' Γ') .ret) fr H Γ :=
  dN_ h A fun a v e q C B=>⟨e.defers,ret x,by rw[results_tmp y];have:=e.val t _ E;simp[this],x,v,rfl,rfl,q,B,C⟩
theorem kK_ {N:Nat} {fn:Func} {t s:Nat} {ι:Type} {v0:Vw} {H0 F:Hp} {ret:ι→Value} {H':ι→Hp} {Γ':ι→List Fct} {y A:Value} (E:fn.results=#[.tmp t,.tmp s]) (x:ι) (h:Fr.get fr t=some y) (q:Fr.get fr s=some A) (O:.tuple #[y,A]=ret x) (B:H.Perm (H' x++F))
    (G:∀ v,v.sat H→ac_ Γ v→ac_ (Γ' x) v):Ok N v0 H0 (bodyPost P fn (kz_ v0 H0 ret H' Γ') .ret) fr H Γ :=
  dN_ B G fun a v e C M I=>⟨e.defers,ret x,by rw[results_tmp2 E,← O];have J:=e.val t _ h;have L:=e.val s _ q;simp[J,L],x,v,rfl,rfl,C,I,M⟩
theorem m_ {t:Nat} {x y:Bool} (h:Fr.get fr t=some (.bool x)) (e:x=y):Fr.get fr t=some (.bool y):=e▸h
theorem cd_ {t:Nat} {k:IntKind} {x y:Int} (h:Fr.get fr t=some (.int k x)) (e:x=y):Fr.get fr t=some (.int k y):=e▸h
theorem fH_ {t:Nat} {x y:List UInt8} (h:Fr.get fr t=some (str x)) (e:x=y):Fr.get fr t=some (str y):=e▸h
theorem fG_ {t:Nat} {x y:Value} (h:Fr.get fr t=some x) (e:x=y):Fr.get fr t=some y:=e▸h
abbrev Fn0 (P:Program) (f:FuncId) (args:Array Value) (ret:Value):Prop:=Tri P f args [] [] (fun _:Unit=>ret) (fun _=>[]) (fun _=>[])
end body
section cut
variable {P:Program} {N:Nf} {v0:Vw} {H0:Hp} {R:Exit→Act→World→Prop} {K:List Kt} {fr:Fr} {H:Hp} {Γ:List Fct}
def Mid (N:Nf) (v0:Vw) (H0:Hp) {ι:Type} (frs:ι→Fr) (Hs:ι→Hp) (Γs:ι→List Fct) (e:Exit) (a:Act) (w:World):Prop :=
  e=.normal∧∃ i v,v.w=w∧Fr.sat N (frs i) a∧v.sat (Hs i)∧v0.to H0 v (Hs i)∧ac_ (Γs i) v
theorem vR_ {ι:Type} {e:ι→Fr} {Hs:ι→Hp} {q:ι→List Fct} (i:ι) {F:Hp} (h:Fr.le (e i) fr) (x:H.Perm (Hs i++F)) (B:∀ v,v.sat H→ac_ Γ v→ac_ (q i) v) :
    Ok N v0 H0 (Mid N v0 H0 e Hs q .normal) fr H Γ :=
  bJ_ (e i) h (dN_ x B fun _ v A E y C=>⟨rfl,i,v,rfl,A,E,y,C⟩)
end cut
end Go.Sx
namespace Go.Sx
open Go
def bu_ (v:Vw) (ad:Option Addr) (cs:List Value):Prop :=
  cs=[]∨∃ b off arr T fz,ad=some ⟨b,off,none⟩∧v.im b∧v.w.heap[b]? = some (.cells arr T fz)∧∀ j x,cs[j]? = some x→arr[off+j]? = some x
def ai_ (ad:Option Addr) (cs:List Value):Fct where
 p:=fun v=>bu_ v ad cs
 mono:=fun v v' h hp=>by
   rcases hp with hp|⟨b,off,arr,T,fz,h1,h2,h3,h4⟩
   · exact .inl hp
   · exact .inr ⟨b,off,arr,T,fz,h1,h.imUp b h2,by rw[h.block b h2];exact h3,h4⟩
def bas (ad:Option Addr):Addr:=ad.getD ⟨0,0,none⟩
def rad (ad:Option Addr) (k:Nat):Addr:=⟨(bas ad).block,(bas ad).off+k,none⟩
theorem bu_.addr {v:Vw} {ad:Option Addr} {cs:List Value} (h:bu_ v ad cs) (q:cs≠[]):∃ b off,ad=some ⟨b,off,none⟩:=by
 rcases h with h|⟨b,off,x,T,fz,e,_⟩
 ·exact absurd h q
 exact⟨b,off,e⟩
theorem bu_.cell {v:Vw} {ad:Option Addr} {cs:List Value} {k:Nat} {x:Value} (h:bu_ v ad cs) (e:cs[k]? = some x):v.w.cell? (rad ad k)=some x:=by
 rcases h with h|⟨b,off,A,T,fz,rfl,_,y,q⟩
 ·subst h;simp at e
 simp[rad,bas,World.cell?,y,q k x e]
theorem bu_.drop {v:Vw} {ad:Option Addr} {cs:List Value} (h:bu_ v ad cs) (n:Nat) (e:List Value) (y:∀ j x,e[j]? = some x→cs[n+j]? = some x):bu_ v (ad.map (·.add n)) e:=by
 rcases h with h|⟨b,off,q,T,fz,rfl,E,C,B⟩
 ·subst h
  left
  cases e with
  | nil=>rfl
  | cons d e=>have:=y 0 d rfl;simp at this
 exact .inr ⟨b,off+n,q,T,fz,by simp[cj_],E,C,fun j x A=>by rw[Nat.add_assoc];exact B _ _ (y j x A)⟩
theorem kT_ {α:Type} (f:α→List Value) (n:Nat) (e:∀ x,(f x).length=n):∀ (l:List α) (i j:Nat) (x:α),l[i]? = some x→j<n→(l.flatMap f)[i*n+j]? = (f x)[j]?
  | [],i,j,x,h,_=>by simp at h
  | y::l,0,j,x,h,hj=>by
    simp only[List.getElem?_cons_zero,Option.some.injEq]at h;subst h;simp only[List.flatMap_cons,Nat.zero_mul,Nat.zero_add];rw[List.getElem?_append_left (by rw[e];exact hj)]
  | y::l,i+1,j,x,h,hj=>by
    simp only[List.flatMap_cons];rw[List.getElem?_append_right (by rw[e,Nat.add_mul];omega),e,show (i+1)*n+j - n=i*n+j by rw[Nat.add_mul];omega];exact kT_ f n e l i j x zK_ hj
theorem dv_ {α:Type} (f:α→List Value) (n:Nat) (e:∀ x,(f x).length=n):∀ (l:List α),(l.flatMap f).length=l.length*n
  | []=>by simp
  | y::l=>by simp only[List.flatMap_cons,List.length_append,e,List.length_cons,dv_ f n e l,Nat.add_mul];omega
section ops
variable {P:Program} {N:Nf} {v0:Vw} {H0:Hp} {R:Exit→Act→World→Prop} {K:List Kt} {fr:Fr} {H:Hp} {Γ:List Fct}
variable {ops:Array Oper} {l:List Oper} {d:Nat} {ty:TypeId} {ps:String} {af:Array Edge}
theorem O_ {t e:TypeId} {x y:Operand} {ad:Option Addr} {len cap n:Nat} {k:IntKind} {i:Int} (E:∀ w,(underlying t).run P w=.ok (.slice e) w) (I:∀ w,(sizeOf e).run P w=.ok n w)
    (C:Fr.ev fr x=some (.slice ad len cap)) (B:Fr.ev fr y=some (.int k i)) (q:∀ v,v.sat H→ac_ Γ v→∃ b off,ad=some ⟨b,off,none⟩) (F:0≤i) (hl:i<len) :
    Yld P N fr H Γ (.indexAddr t x y) ty (.pointer (some (rad ad (i.toNat*n)))) :=
  fun a v h G A _ _ _=>by
    obtain⟨b,off,rfl⟩:=q v G A;simp[execOp,h.ev C,h.ev B,Instr.indexAt,E,asIntOf,I,cj_,F,hl,rad,bas]
theorem mx_ {s:TypeId} {x:Operand} {f k o:Nat} {ad:Option Addr} {fs:Array Field} {e:Field} {n:Nat} (B:∀ w,(underlying s).run P w=.ok (.struct fs) w) (A:Fr.ev fr x=some (.pointer (some (rad ad k)))) (h:fs[f]? = some e) (y:e.offset=o)
    (C:∀ w,(sizeOf e.type).run P w=.ok (n+1) w) :
    Yld P N fr H Γ (.fieldAddr s x f) ty (.pointer (some (rad ad (k+o)))) :=
  fun a v q E _ _ _ _=>by simp[execOp,q.ev A,Instr.fieldAt,B,h,Instr.sureAddr,fieldPlace,C,rad,cj_,y,Nat.add_assoc]
theorem bl_ {t:TypeId} {x:Operand} {ad:Option Addr} {k:Nat} {cs:List Value} {u:Value} (q:∀ w,(isAgg t).run P w=.ok false w) (e:Fr.ev fr x=some (.pointer (some (rad ad k))))
    (h:∀ v,v.sat H→ac_ Γ v→bu_ v ad cs) (y:cs[k]? = some u):Yld P N fr H Γ (.load t x) ty u :=
  gJ_ e (fun v B A=>cE_ q ((h v B A).cell y))
theorem ae_ {t:TypeId} {x:Operand} {ad:Option Addr} {k n:Nat} {cs us:List Value} (q:∀ w,(isAgg t).run P w=.ok true w) (G:∀ w,(sizeOf t).run P w=.ok n w) (C:Fr.ev fr x=some (.pointer (some (rad ad k))))
    (h:∀ v,v.sat H→ac_ Γ v→bu_ v ad cs) (A:us.length=n) (E:∀ j y,us[j]? = some y→cs[k+j]? = some y):Yld P N fr H Γ (.load t x) ty (.agg us.toArray) :=
  gJ_ C (fun v F B=>dP_ q G A (fun j y e=>by
    have:=(h v F B).cell (E j y e);simpa [rad,Nat.add_assoc] using this))
theorem eJ_ {k:Act→World→Prop} {b:Nat} {o:Obj} {F:Hp} (f:Fct) (C:H.Perm ((b,o)::F)) (M:∀ v:Vw,v.im b→v.w.heap[b]? = some o→ac_ Γ v→f.p v) (h:Ok N v0 H0 k fr F (f::Γ)):Ok N v0 H0 k fr H Γ:=by
 intro a v O L q I;have g:=L.perm C;have J:=g.own (b,o) (List.mem_cons_self);have E:b<v.w.heap.size:=(Array.getElem?_eq_some_iff.1 J.1).1;have y:=g.nodup;rw[List.map_cons,List.nodup_cons]at y;have B:v.le ⟨fun x=>v.im x∨x=b,v.w,v.sl⟩:=⟨fun x e=>.inl e,fun _ _=>rfl,rfl⟩;have A:b∈H.map Prod.fst:=(C.map Prod.fst).mem_iff.2 zj_;refine h a ⟨fun x=>v.im x∨x=b,v.w,v.sl⟩ O ⟨fun p G=>⟨(g.own p (List.mem_cons_of_mem _ G)).1,fun hi=>?_⟩,y.2,fun x e=>?_⟩ ?_ ⟨M _ (.inr rfl) J.1 (an_ B I),an_ B I⟩
 ·rcases hi with hi|hi
  ·exact (g.own p (List.mem_cons_of_mem _ G)).2 hi
  exact y.1 (by have:=List.mem_map_of_mem (f:=Prod.fst) G;rw[hi]at this;exact this)
 ·rcases e with e|e
  ·exact L.lt x e
  exact e▸E
 refine⟨q.os,q.tape,q.output,q.size,q.block,fun x e=>.inl (q.imUp x e),fun x e=>?_,fun x e=>q.hNew x ((C.map Prod.fst).mem_iff.2 (by rw[List.map_cons];exact List.mem_cons_of_mem _ e)),q.sl,q.dr⟩;rcases e with e|e
 ·exact q.imNew x e
 exact .inr (e▸q.hNew b A)
def ax_ (e:TypeId) (sz:Nat) (sv:Value) (n:Nat) (xs:List Value) (Hr:Hp):Prop :=
  xs.length=n*sz∧((sv=.slice none 0 0∧n=0∧Hr=[]) ∨
    ∃ g cap cur,sv=.slice (some ⟨g,0,none⟩) n cap∧Hr=[(g,.cells cur e (0,0))]∧n≤cap∧cap≤maxLen∧cur.size=cap*sz∧cur.toList.take (n*sz)=xs)
theorem ax_.nil (e:TypeId) (sz:Nat):ax_ e sz (.slice none 0 0) 0 [] []:=⟨by simp,.inl ⟨rfl,rfl,rfl⟩⟩
theorem ax_.owns {e:TypeId} {sz n:Nat} {sv:Value} {x:List Value} {Hr F:Hp} {v:Vw} (h:ax_ e sz sv n x Hr) (G:v.sat (Hr++F)):v.w.ownsRow 0 e sz sv n x:=by
 refine⟨h.1,?_⟩;rcases h.2 with⟨q,E,_⟩|⟨g,cap,cur,q,rfl,C,y,B,A⟩
 ·exact .inl ⟨q,E⟩
 exact .inr ⟨g,cap,cur,q,Nat.zero_le _,(G.own (g,.cells cur e (0,0)) zj_).1,C,y,B,A⟩
theorem iS_ {e:TypeId} {sz n n':Nat} {sv sv':Value} {X ys:List Value} {Hr F:Hp} {v:Vw} {w':World} (h:ax_ e sz sv n X Hr) (M:v.sat (Hr++F)) (T:w'.ownsRow 0 e sz sv' n' ys) (J:v.w.grownBy w' sv.ownBlock) (V:v.w.drawn≤w'.drawn)
    (L:∀ g,sv'.ownBlock=some g→sv.ownBlock=some g∨v.w.heap.size≤g) :
    ∃ A,ax_ e sz sv' n' ys A∧(⟨v.im,w',v.sl⟩:Vw).sat (A++F)∧v.to (Hr++F) ⟨v.im,w',v.sl⟩ (A++F):=by
  have O:∀ p,p∈Hr++F→p.1<v.w.heap.size:=fun p y=>(Array.getElem?_eq_some_iff.1 (M.own p y).1).1
  have G:∀ b,sv.ownBlock=some b→b∈Hr.map Prod.fst:=fun b B=>by
    rcases h.2 with⟨rfl,_,_⟩|⟨g,cap,cur,rfl,rfl,_⟩
    · simp[Value.ownBlock]at B
    · simp[Value.ownBlock]at B;simp[B]
  have C:=M.nodup;rw[List.map_append,List.nodup_append]at C;have hF:∀ p,p∈F→some p.1≠sv.ownBlock:=fun p y e=>C.2.2 _ (G p.1 e.symm) _ (List.mem_map_of_mem y) rfl
  have E:∀ p,p∈F→w'.heap[p.1]? = some p.2∧¬ v.im p.1:=fun p y=>by
    have:=M.own p (List.mem_append_right _ y);exact⟨by rw[J.block _ (O p (List.mem_append_right _ y)) (hF p y)];exact this.1,this.2⟩
  have Q:∀ A:Hp,(∀ b,b∈A.map Prod.fst→b∈Hr.map Prod.fst∨v.w.heap.size≤b)→v.to (Hr++F) ⟨v.im,w',v.sl⟩ (A++F):=fun A W=>by
    refine⟨J.os,J.tape,J.output,J.size,fun b B Y=>J.block b B (fun e=>Y ?_),fun _ h=>h,fun _ h=>.inl h,fun b B=>?_,rfl,.inr V⟩
    · rw[List.map_append];exact List.mem_append_left _ (G b e.symm)
    · rw[List.map_append]at B ⊢
      rcases List.mem_append.1 B with I|I
      · exact (W b I).imp (List.mem_append_left _) id
      · exact .inl (List.mem_append_right _ I)
  rcases T.2 with⟨I,h2⟩|⟨g,cap,cur,I,_,h3,Z,h5,h6,U⟩
  · refine⟨[],⟨T.1,.inl ⟨I,h2,rfl⟩⟩,⟨fun p y=>E p (by simpa using y),by simpa using C.2.1,fun b B=>Nat.lt_of_lt_of_le (M.lt b B) J.size⟩,Q [] zj_⟩
  · have x:g∈Hr.map Prod.fst∨v.w.heap.size≤g:=(L g (by rw[I];rfl)).imp (G g) id
    refine⟨[(g,.cells cur e (0,0))],⟨T.1,.inr ⟨g,cap,cur,I,rfl,Z,h5,h6,U⟩⟩,⟨fun p y=>?_,?_,fun b B=>Nat.lt_of_lt_of_le (M.lt b B) J.size⟩,Q _ (by simpa using x)⟩
    · rcases List.mem_append.1 y with y|y
      · simp only[List.mem_singleton]at y
        subst y;refine⟨h3,fun hi=>?_⟩;rcases x with x|x
        · obtain⟨q,S,rfl⟩:=List.mem_map.1 x
          exact (M.own q (List.mem_append_left _ S)).2 hi
        · have:=M.lt _ hi;omega
      · exact E p y
    · simp only[List.map_append,List.map_cons,List.map_nil,List.singleton_append,List.nodup_cons]
      refine⟨fun hm=>?_,C.2.1⟩;obtain⟨q,S,e⟩:=List.mem_map.1 hm;rcases x with x|x
      · exact C.2.2 _ x _ (List.mem_map_of_mem S) e.symm
      · have:=O q (List.mem_append_right _ S);omega
theorem kw_ (w:World) {t ty' e:TypeId} {i:TypeInfo} {z:Value} {n m c sz:Nat} {sv Q:Value} {w':World} {L news:List Value} {ad:Addr} (E:P.underlying t=some (.slice e)) (hi:P.info? e=some i) (S:i.zero=some z)
    (G:i.size=sz) (q:w.ownsRow 0 e sz sv n L) (hl:news.length=m*sz) (h:∀ j u,news[j]? = some u→w.cell? (ad.add j)=some u) (U:∀ u∈news,u.oneCell'=true) (J:n+m≤maxLen) (O:(n+m)*i.bytes≤140737488355328)
    (y:(Builtin.append_ #[t,t] ty' #[sv,.slice (some ad) m c]).run P w=.ok Q w'):w.drawn≤w'.drawn∧∀ g,Q.ownBlock=some g→sv.ownBlock=some g∨w.heap.size≤g:=by
  subst G;have C:n+m≤9223372036854775807:=by simp only[maxLen]at J;omega
  rcases q.2 with⟨rfl,rfl⟩|⟨b,cap,cur,rfl,_,M,T,_,F,I⟩
  · by_cases hm:m=0
    · subst hm
      have V:news=[]:=List.eq_nil_of_length_eq_zero (by simpa using hl);subst V
      have:(Builtin.append_ #[t,t] ty' #[.slice none 0 0,.slice (some ad) 0 c]).run P w=.ok (.slice none 0 0) w:=by
        simp[Builtin.append_,run_underlying E,sizeOf,typeInfo,hi,Builtin.lenOf,Builtin.firstCells,loadCells,loadCellsFrom]
      rw[this]at y;cases y;exact⟨Nat.le_refl _,fun g A=>by simp[Value.ownBlock]at A⟩
    · have:=run_append_nil (P:=P) w t ty' e i z E hi S ad m c news hl h za_ za_ (by simp only[Nat.zero_add]at O;omega)
      rw[this]at y;cases y;refine⟨by simp,fun g A=>?_⟩;simp only[Value.ownBlock,Option.some.injEq]at A;exact .inr za_
  · by_cases x:n+m≤cap
    · have B:n*i.size+news.length≤cur.size:=by rw[hl,F,← Nat.add_mul];exact Nat.mul_le_mul_right _ x
      have:=run_append_room (P:=P) w t ty' e i E hi b n cap cur M ad m c news hl h U x B;rw[this]at y;cases y;exact⟨by simp,fun g A=>.inl A⟩
    · have ac_:∀ j u,L[j]? = some u→w.cell? ((⟨b,0,none⟩:Addr).add j)=some u:=q.cells (g:=b) rfl
      have:=run_append_grow (P:=P) w t ty' e i z E hi S ⟨b,0,none⟩ n cap L q.1 ac_ ad m c news hl h za_ za_ (growslice_fits za_ O);rw[this]at y;cases y;refine⟨by simp,fun g A=>?_⟩;simp only[Value.ownBlock,Option.some.injEq]at A;exact .inr za_
structure Elt (P:Program) (t e:TypeId) (sz by':Nat):Prop where
  und:P.underlying t=some (.slice e)
  info:∃ i z,P.info? e=some i∧i.zero=some z∧i.size=sz∧i.bytes=by'∧z.cells.size=sz
  pos:0<sz
theorem am_ {x y:Operand} {t e:TypeId} {sz by' n m c:Nat} {sv:Value} {J news:List Value} {Hr F:Hp} {ad:Addr} (E:Elt P t e sz by') (q:ax_ e sz sv n J Hr)
    (hx:Fr.ev fr x=some sv) (Y:Fr.ev fr y=some (.slice (some ad) m c)) (G:H.Perm (Hr++F)) (hl:news.length=m*sz) (A:∀ v,v.sat H→ac_ Γ v→∀ j u,news[j]? = some u→v.w.cell? (ad.add j)=some u) (C:∀ u∈news,u.oneCell'=true)
    (B:n+m≤maxLen) (Q:(n+m)*by'≤140737488355328) (hN:Nat.blt d N.n=true)
    (hk:∀ sv' h,ax_ e sz sv' (n+m) (J++news) h→Ops P R N v0 H0 ops l K ((d,sv')::fr) (h++F) Γ) :
    Ops P R N v0 H0 ops (⟨some d,.call ⟨.builtin .append,#[x,y],#[t,t]⟩,ty,ps,af,none⟩::l) K fr H Γ :=
  co_ rfl fun a v I L h3 V=>by
    obtain⟨i,z,hi,T,es,W,X⟩:=E.info;have g:=L.perm G;have U:=A v L V;have S:=q.owns g;obtain⟨v',w',M,q1,q2,_⟩:=run_append_own (P:=P) v.w 0 t ty e i z sz by' E.und hi T es W X E.pos sv n J S ad m c news hl U C B Q (Nat.zero_le _)
    obtain⟨a1,Z⟩:=kw_ v.w E.und hi T es S hl U C B (by rw[W];exact Q) M;obtain⟨h,k1,k2,O⟩:=iS_ q g q1 q2 a1 Z;unfold Oper.wp execOp;simp only[resolve,invoke,builtin,Sem.run_bind,Sem.run_pure,Result.andThen_ok,List.map_toArray,List.map_cons,List.map_nil,I.ev hx,I.ev Y,M];exact hk v' h k1 _ ⟨v.im,w',v.sl⟩ (I.put hN) k2 (h3.trans (O.permL G.symm)) (an_ ((O.permL G.symm).le L) V)
theorem oj_ {t:TypeId} {parts:Array (Nat×Operand)} {u:Value} (h:∀ a:Act,Fr.sat N fr a→∀ w,(Instr.build t (parts.map fun (i,x)=>(i,a.eval x))).run P w=.ok u w) :
    Yld P N fr H Γ (.build t parts) ty (u) :=
  fun a v e y q _ _ _=>by
    have:=h a e v.w;simp only[execOp,Sem.run_bind,this,Result.andThen_ok,Sem.run_pure]
def Fr.evp (fr:Fr):List (Nat×Operand)→Option (List (Nat×Value))
  | []=>some []
  | (i,x)::r=>match Fr.ev fr x with
    | some v=>match Fr.evp fr r with
      | some vs=>some ((i,v)::vs)
      | none=>none
    | none=>none
theorem Fr.sat.evp {a:Act} (h:Fr.sat N fr a):∀ {xs:List (Nat×Operand)} {vs:List (Nat×Value)},Fr.evp fr xs=some vs→xs.map (fun (i,x)=>(i,a.eval x))=vs
 | [],vs,e=>by simp only[Fr.evp,Option.some.injEq]at e;subst e;rfl
 | (i,x)::r,vs,e=>by
   simp only[Fr.evp]at e
   split at e
   · rename_i u y
     split at e
     · rename_i us q
       simp only[Option.some.injEq]at e;subst e;show (i,a.eval x)::_=_
       rw[h.ev y];exact congrArg _ (h.evp q)
     · cases e
   · cases e
def kP_:List Value→Nat→List Value→List Value
  | cs,0,[]=>cs
  | _::cs,0,v::vs=>v::kP_ cs 0 vs
  | c::cs,n+1,vs=>c::kP_ cs n vs
  | [],_,_=>[]
theorem qN_:∀ (cs:List Value) (n:Nat),kP_ cs n []=cs
  | [],0=>rfl
  | [],n+1=>rfl
  | c::cs,0=>rfl
  | c::cs,n+1=>by simp only[kP_];rw[qN_ cs n]
theorem oF_:∀ (cs:List Value) (n:Nat) (v:Value) (vs:List Value),kP_ cs n (v::vs)=kP_ (cs.set n v) (n+1) vs
  | [],0,v,vs=>by simp[kP_]
  | [],n+1,v,vs=>by simp[kP_]
  | c::cs,0,v,vs=>by simp[kP_]
  | c::cs,n+1,v,vs=>by simp only[kP_,List.set_cons_succ];rw[oF_ cs n v vs]
theorem oN_ (off:Nat):∀ (vs:List Value) (k:Nat) (cs:List Value),
    (vs.zipIdx k).foldl (fun (cs:Array Value) (p:Value×Nat)=>cs.setIfInBounds (off+p.2) p.1) cs.toArray=(kP_ cs (off+k) vs).toArray
  | [],k,cs=>by simp[qN_]
  | v::vs,k,cs=>by
    simp only[List.zipIdx_cons,List.foldl_cons];rw[oF_,show cs.toArray.setIfInBounds (off+k) v=(cs.set (off+k) v).toArray by simp,oN_ off vs (k+1)];rfl
def lK_ (place:Nat→Option (Nat×Nat)):List Value→List (Nat×Value)→Option (List Value)
  | cells,[]=>some cells
  | cells,(i,v)::rest=>match place i with
    | none=>none
    | some (off,size)=>bif Nat.beq v.cells.toList.length size&&Nat.ble (off+size) cells.length then lK_ place (kP_ cells off v.cells.toList) rest else none
theorem ix_ (e:Nat→Option (Nat×Nat)):∀ (vs:List (Nat×Value)) (cells cs:List Value),lK_ e cells vs=some cs→Instr.fill e cells.toArray vs=some cs.toArray
  | [],cells,cs,h=>by simp only[lK_,Option.some.injEq]at h;subst h;rfl
  | (i,v)::rest,cells,cs,h=>by
    simp only[lK_]at h;cases hp:e i with
    | none=>rw[hp]at h;cases h
    | some q =>
      obtain⟨off,size⟩:=q;rw[hp]at h;simp only at h;cases hb:(Nat.beq v.cells.toList.length size&&Nat.ble (off+size) cells.length) with
      | false=>rw[hb]at h;cases h
      | true =>
        rw[hb,cond_true]at h;simp only[Bool.and_eq_true]at hb;have A:v.cells.size=size:=by simpa using Nat.eq_of_beq_eq_true hb.1
        have C:off+size≤cells.length:=Nat.le_of_ble_eq_true hb.2;have B:=ix_ e rest _ _ h;have y:=oN_ off v.cells.toList 0 cells;simp only[Nat.add_zero]at y
        have x:v.cells.zipIdx.foldl (fun (cs:Array Value) (p:Value×Nat)=>cs.setIfInBounds (off+p.2) p.1) cells.toArray=(kP_ cells off v.cells.toList).toArray:=by
          rw[← y,← Array.foldl_toList];simp[Array.toList_zipIdx]
        simp only[Instr.fill,hp];rw[if_neg (by simp[A];omega)];exact x▸B
def iC_ (P:Program) (t:TypeId) (pl:List (Nat×Nat)) (z:List Value):Prop :=
  ∃ fs:Array Field,(∀ w,(zeroValue t).run P w=.ok (.agg z.toArray) w)∧(∀ w,(underlying t).run P w=.ok (.struct fs) w)∧(∀ w,(fs.mapM (fun (f:Field)=>(do pure (f.offset,← sizeOf f.type):Sem (Nat×Nat)))).run P w=.ok pl.toArray w)
theorem J_ {t:TypeId} {parts:List (Nat×Operand)} {vs:List (Nat×Value)} {pl:List (Nat×Nat)} {z cs:List Value} (E:iC_ P t pl z) (B:Fr.evp fr parts=some vs) (h:lK_ (fun i=>pl[i]?) z vs=some cs) :
    Yld P N fr H Γ (.build t parts.toArray) ty (.agg cs.toArray) :=
  oj_ (fun a q w=>by
    obtain⟨fs,x,A,y⟩:=E;have:=q.evp B;rw[List.map_toArray,this];have e:=ix_ _ _ _ _ h;have C:Instr.fill (fun i=>pl.toArray[i]?) z.toArray vs=some cs.toArray:=by simpa using e
    simp only[Instr.build,Sem.run_bind,x,Result.andThen_ok,A,y,Value.cells,C,Sem.run_pure])
def jb_ (z:List Value):Nat→List Value
  | 0=>[]
  | n+1=>z++jb_ z n
theorem pS_ (z:List Value) (e:0<z.length):∀ (n i:Nat),i<n*z.length→(jb_ z n)[i]? = z[i%z.length]?
 | 0,i,h=>by simp at h
 | n+1,i,h=>by
   simp only[jb_]
   by_cases hi:i<z.length
   · rw[List.getElem?_append_left hi,Nat.mod_eq_of_lt hi]
   · rw[List.getElem?_append_right za_,pS_ z e n (i - z.length) (by rw[Nat.add_mul]at h;omega)]
     rw[← Nat.mod_eq_sub_mod za_]
theorem ia_ (z:List Value):∀ n,(jb_ z n).length=n*z.length
  | 0=>by simp[jb_]
  | n+1=>by simp only[jb_,List.length_append,ia_ z n,Nat.add_mul];omega
theorem jr_ (z:List Value) (e:0<z.length) (n:Nat):(Array.range (n*z.length)).map (fun i=>z.toArray[i%z.toArray.size]!)=(jb_ z n).toArray:=by
 apply Array.ext'
 apply List.ext_getElem?
 intro i;simp only[Array.toList_map,Array.toList_range,List.getElem?_map]
 by_cases hi:i<n*z.length
 ·rw[pS_ z e n i hi,List.getElem?_range hi]
  have hm:i%z.length<z.length:=Nat.mod_lt _ e;simp[hm]
 rw[List.getElem?_eq_none (by simpa using hi),List.getElem?_eq_none (by rw[ia_];omega)];rfl
theorem X_ {t e:TypeId} {len sz:Nat} {parts:List (Nat×Operand)} {vs:List (Nat×Value)} {y:Value} {cs:List Value} (Q:∀ w,(underlying t).run P w=.ok (.slice e) w) (T:∀ w,(sizeOf e).run P w=.ok sz w) (L:∀ w,(zeroValue e).run P w=.ok y w)
    (A:y.cells.toList.length=sz) (M:Nat.blt 0 (len*sz)=true) (E:Nat.ble (len*sz) 16777216=true) (O:Fr.evp fr parts=some vs) (I:lK_ (fun i=>some (i*sz,sz)) (jb_ y.cells.toList len) vs=some cs) (S:Nat.blt d N.n=true)
    (hk:∀ b,Ops P R N v0 H0 ops l K ((d,.slice (some ⟨b,0,none⟩) len len)::fr) ((b,.cells cs.toArray e (0,0))::H) Γ):Ops P R N v0 H0 ops (⟨some d,.buildSlice t len parts.toArray,ty,ps,af,none⟩::l) K fr H Γ :=
  gt_ (x:=fun b=>.slice (some ⟨b,0,none⟩) len len) S (fun a v J V U=>by
    have C:=J.evp O;have h:=ix_ _ _ _ _ I;have q:0<len*sz:=by simpa [Nat.blt_eq] using M
    have F:0<sz:=Nat.pos_of_mul_pos_left q;have G:len*sz≤16777216:=Nat.le_of_ble_eq_true E;have B:=jr_ y.cells.toList za_ len;rw[A]at B;simp only[Array.toArray_toList]at B;rw[← B]at h;simp only[execOp,Instr.buildSlice,Sem.run_bind,Q,Result.andThen_ok,T,List.map_toArray,C];rw[if_neg za_,if_neg za_];simp only[Sem.run_bind,Sem.run_pure,L,Result.andThen_ok,h];rfl) hk
end ops
end Go.Sx
namespace Go.Sx
open Go
section ops
variable {P:Program} {N:Nf} {v0:Vw} {H0:Hp} {R:Exit→Act→World→Prop} {K:List Kt} {fr:Fr} {H:Hp} {Γ:List Fct}
variable {ops:Array Oper} {l:List Oper} {d:Nat} {ty:TypeId} {ps:String} {af:Array Edge}
theorem qu_ (h:Array Obj) (o:Obj) (f:Obj→Obj):(h.push o).modify h.size f=h.push (f o):=by
 apply Array.ext_getElem?
 intro i;rw[Array.getElem?_modify]
 by_cases e:h.size=i
 ·subst e;simp
 rw[if_neg e,Array.getElem?_push,Array.getElem?_push,if_neg (fun h=>e h.symm),if_neg (fun h=>e h.symm)]
def bytesV (m:List UInt8):List Value:=m.map fun c=>.int .u8 (c.toNat:Int)
theorem xJ_ {x:Operand} {s t e:TypeId} {m:List UInt8} (O:∀ w,(underlying s).run P w=.ok .string w) (J:∀ w,(underlying t).run P w=.ok (.slice e) w) (I:∀ w,(underlying e).run P w=.ok (.int .u8) w)
    (L:Fr.ev fr x=some (str m)) (M:Nat.blt d N.n=true)
    (hk:∀ cap b,m.length≤cap→Ops P R N v0 H0 ops l K ((d,.slice (some ⟨b,0,none⟩) m.length cap)::fr) ((b,.cells (bytesV m++List.replicate (cap - m.length) (Value.int .u8 0)).toArray e (cap,cap+1))::H) Γ) :
    Ops P R N v0 H0 ops (⟨some d,.convert s t x,ty,ps,af,none⟩::l) K fr H Γ :=
  nd_ (β:=Nat) (x:=fun cap b=>.slice (some ⟨b,0,none⟩) m.length cap) (o:=fun cap=>.cells (bytesV m++List.replicate (cap - m.length) (Value.int .u8 0)).toArray e (cap,cap+1)) (fun cap=>m.length≤cap) M
    (fun a v E S Q=>by
      have h:m.length≤(Question.appendCap m.length 0 e).cut (v.w.tape v.w.drawn (.appendCap m.length 0 e)):=by simp[Question.cut]
      generalize F:(Question.appendCap m.length 0 e).cut (v.w.tape v.w.drawn (.appendCap m.length 0 e))=cap at h
      have q:(bytesV m++List.replicate (cap - m.length) (Value.int .u8 0)).length=cap:=by simp[bytesV];omega
      have G:(⟨m.toArray⟩:ByteArray).size=m.length:=by simp[ByteArray.size]
      have B:(Array.map (fun (b:UInt8)=>Value.int .u8 (b.toNat:Int)) m.toArray++Array.replicate (cap - m.length) (Value.int .u8 0))=(bytesV m++List.replicate (cap - m.length) (Value.int .u8 0)).toArray:=by simp[bytesV]
      refine⟨cap,{ v.w with heap:=v.w.heap.push (.cells (bytesV m++List.replicate (cap - m.length) (Value.int .u8 0)).toArray e (cap,cap+1)),drawn:=v.w.drawn+1 },h,?_,rfl,rfl,rfl,rfl,Nat.le_succ _⟩
      have A:(Conv.stringToBytes e ⟨m.toArray⟩).run P v.w=.ok (.slice (some ⟨v.w.heap.size,0,none⟩) m.length cap) { v.w with heap:=v.w.heap.push (.cells (bytesV m++List.replicate (cap - m.length) (Value.int .u8 0)).toArray e (cap,cap+1)),drawn:=v.w.drawn+1 }:=by
        generalize bytesV m++List.replicate (cap - m.length) (Value.int .u8 0)=cs at q B ⊢
        simp only[Conv.stringToBytes,G];show Sem.run P (choose _ >>= _) v.w=_
        rw[Sem.run_bind]
        have y:(choose (.appendCap m.length 0 e)).run P v.w=.ok cap { v.w with drawn:=v.w.drawn+1 }:=by
          simp[choose,Sem.run,Question.forced,F]
        rw[y,Result.andThen_ok,B];simp only[newRow,Sem.run_bind,newObj,markStringish,shape,freeze];simp only[Sem.run,Result.andThen_ok,World.shape?,Array.getElem?_push_size,List.size_toArray,q,World.freeze,Nat.one_ne_zero,if_false,Sem.run_pure];rw[qu_];simp
      simp only[execOp,Sem.run_bind,convert,O,J,I,Result.andThen_ok,E.ev L,str,A,Sem.run_pure])
    (fun cap b C=>hk cap b C)
theorem eR_ {t:TypeId} {x:Operand} {lo hi:Option Operand} {m:List UInt8} {i j:Nat} {kl kh:IntKind} (F:∀ w,(underlying t).run P w=.ok .string w) (E:Fr.ev fr x=some (str m))
    (h:match lo with|some y=>Fr.ev fr y=some (.int kl (i:Int))|none=>i=0) (e:match hi with|some y=>Fr.ev fr y=some (.int kh (j:Int))|none=>j=m.length) (A:i≤j) (G:j≤m.length) :
    Yld P N fr H Γ (.slice t x lo hi none) ty (str ((m.drop i).take (j - i))) :=
  fun a v q J I _ _ _=>by
    have B:(⟨m.toArray⟩:ByteArray).size=m.length:=by simp[ByteArray.size]
    have C:=ByteArray.extract_mk m i j;cases lo<;>cases hi<;>simp only at h e
    · subst h e;simp[execOp,Instr.sliceAt,Instr.slice,F,q.ev E,str,Instr.sliceBounds,B,C]
    · subst h;simp[execOp,Instr.sliceAt,Instr.slice,F,q.ev E,q.ev e,str,Instr.sliceBounds,Instr.sliceBound,asIntOf,B,C,G]
    · subst e;simp[execOp,Instr.sliceAt,Instr.slice,F,q.ev E,q.ev h,str,Instr.sliceBounds,Instr.sliceBound,asIntOf,B,C,A]
    · simp[execOp,Instr.sliceAt,Instr.slice,F,q.ev E,q.ev h,q.ev e,str,Instr.sliceBounds,Instr.sliceBound,asIntOf,B,C,A,G]
def sad (ad:Option Addr) (cap i n:Nat):Option Addr:=if cap=i then ad else ad.map (·.add (i*n))
theorem dJ_ {t e:TypeId} {x:Operand} {lo hi:Option Operand} {ad:Option Addr} {len cap i j n:Nat} {kl kh:IntKind} (E:∀ w,(underlying t).run P w=.ok (.slice e) w) (F:∀ w,(sizeOf e).run P w=.ok n w) (C:Fr.ev fr x=some (.slice ad len cap))
    (q:match lo with|some y=>Fr.ev fr y=some (.int kl (i:Int))|none=>i=0) (h:match hi with|some y=>Fr.ev fr y=some (.int kh (j:Int))|none=>j=len) (B:i≤j) (G:j≤cap) :
    Yld P N fr H Γ (.slice t x lo hi none) ty (.slice (sad ad cap i n) (j - i) (cap - i)) :=
  fun a v A J I _ _ _=>by
    cases lo<;>cases hi<;>simp only at q h
    · subst q h;simp[execOp,Instr.sliceAt,Instr.slice,E,F,A.ev C,Instr.sliceBounds,sad]
    · subst q;simp[execOp,Instr.sliceAt,Instr.slice,E,F,A.ev C,A.ev h,Instr.sliceBounds,Instr.sliceBound,asIntOf,G,sad]
    · subst h;simp[execOp,Instr.sliceAt,Instr.slice,E,F,A.ev C,A.ev q,Instr.sliceBounds,Instr.sliceBound,asIntOf,B,sad]
    · simp[execOp,Instr.sliceAt,Instr.slice,E,F,A.ev C,A.ev q,A.ev h,Instr.sliceBounds,Instr.sliceBound,asIntOf,B,G,sad]
theorem bu_.sad {v:Vw} {ad:Option Addr} {cs:List Value} {cap i n:Nat} (h:bu_ v ad cs) (e:List Value) (y:∀ j x,e[j]? = some x→cs[i*n+j]? = some x) (A:cs.length≤cap*n):bu_ v (sad ad cap i n) e:=by
 unfold Sx.sad
 split
 ·rename_i q
  subst q;left
  cases e with
  | nil=>rfl
  | cons d e =>
    have:=y 0 d rfl;rw[List.getElem?_eq_none za_]at this;cases this
 exact h.drop (i*n) e y
theorem bF_ {fn:Fn} {h ys:List Operand} {us vs:List Value} (x:Fr.evs fr h=some us) (A:Fr.evs fr ys=some vs):Yld P N fr H Γ (.makeFunc fn h.toArray ys.toArray) ty (.func fn us.toArray vs.toArray) :=
  fun a v e B C _ _ _=>by
    have y:=e.evs x;have q:=e.evs A;simp[execOp,Instr.makeFunc,y,q]
theorem ao_ {f:FuncId} {g:Operand} {first cap:List Value} {y:List Operand} {h:Array TypeId} {vs:List Value} {ι:Type} {Hc F:Hp} {A:List Fct} {e:ι→Value} {H':ι→Hp} {Γ':ι→List Fct}
    (B:Tri P f (first++vs++cap).toArray Hc A e H' Γ') (L:Fr.ev fr g=some (.func (.func f) first.toArray cap.toArray)) (J:Fr.evs fr y=some vs) (C:H.Perm (Hc++F)) (E:∀ v,v.sat H→ac_ Γ v→ac_ A v) (M:Nat.blt d N.n=true)
    (hk:∀ x,Ops P R N v0 H0 ops l K ((d,e x)::fr) (H' x++F) (Γ' x++Γ)) :
    Ops P R N v0 H0 ops (⟨some d,.call ⟨.value g,y.toArray,h⟩,ty,ps,af,none⟩::l) K fr H Γ :=
  oA_ B (fun a w q=>by
    have I:=q.evs J;have G:=B.callable (first++vs++cap).toArray w;simp only[execOp,resolve,Deferred.ofValue,q.ev L,invoke,List.map_toArray,I,Sem.run_bind,Sem.run_pure,Result.andThen_ok,List.append_toArray,G]) C E M hk
end ops
end Go.Sx
namespace Go.Sx
open Go
class NoPan (R:Exit→Act→World→Prop):Prop where
  st:∀ c a d x w,R (.panic c) (a.put d x) w→R (.panic c) a w
instance {P:Program} {fn:Func} {ι:Type} {v0:Vw} {H0:Hp} {ret:ι→Value} {H':ι→Hp} {Γ':ι→List Fct}:NoPan (bodyPost P fn (kz_ v0 H0 ret H' Γ')) :=
  ⟨fun c a d x w h=>by obtain⟨_,y,v',e,_⟩:=h;cases e⟩
instance {N:Nf} {v0:Vw} {H0:Hp} {ι:Type} {frs:ι→Fr} {Hs:ι→Hp} {Γs:ι→List Fct}:NoPan (Mid N v0 H0 frs Hs Γs) :=
  ⟨fun c a d x w h=>by cases h.1⟩
theorem jX_ {P:Program} {R:Exit→Act→World→Prop} [hR:NoPan R] {c:List PanicEntry} {a:Act} {d:Option Tmp} {x:Value} {w:World}:∀ (K:List Kt),post P R K (.panic c) (a.put d x) w→post P R K (.panic c) a w
  | [],h=>hR.st c a d x w h
  | .seq _::K,h=>jX_ K h
  | .inv _::K,h=>jX_ K h
  | .blk _::K,h=>jX_ K h
def SW (Hs:Hp) (Γs:List Fct) (w:World):Prop:=∃ v:Vw,v.w=w∧v.sat Hs∧ac_ Γs v
section any
variable {P:Program} {N:Nf} {v0:Vw} {H0:Hp} {R:Exit→Act→World→Prop} {K:List Kt} {fr:Fr} {H Hs:Hp} {Γ Γs:List Fct}
variable {ops:Array Oper} {d:Nat} {ty:TypeId} {ps:String} {af:Array Edge} {fuel:Nat} {listed:Array Bool}
abbrev Any (P:Program) (R:Exit→Act→World→Prop) (N:Nf) (v0:Vw) (H0:Hp) (ops:Array Oper) (Hs:Hp) (Γs:List Fct) (fuel:Nat) (listed:Array Bool) (K:List Kt) (fr:Fr) (H:Hp) (Γ:List Fct):Prop :=
  Ok N v0 H0 (wpAnyH P .any ops (post P R K) (SW Hs Γs) fuel listed) fr H Γ
theorem qm_ {y:Nat} (Hs:Hp) (Γs:List Fct) (hm:P.follows .mixedOrders=true) (h:Any P R N v0 H0 ops Hs Γs ops.size (Array.replicate ops.size false) K fr H Γ):Run P R N v0 H0 (.region y ops true) K fr H Γ :=
  fun a v A q e B=>wp_region_held hm (by
    have x:v.le ⟨v.im,{ v.w with drawn:=v.w.drawn+1 },v.sl⟩:=⟨fun _ h=>h,fun _ _=>rfl,rfl⟩;exact h a ⟨v.im,{ v.w with drawn:=v.w.drawn+1 },v.sl⟩ A ⟨q.own,q.nodup,q.lt⟩ ⟨e.os,e.tape,e.output,e.size,e.block,e.imUp,e.imNew,e.hNew,e.sl,e.dr.imp (fun h=>h) fun h=>Nat.le_succ_of_le h⟩ (an_ x B))
theorem op_ {e:Nat} (hm:P.follows .mixedOrders=true) (h:Any P R N v0 H0 ops H Γ ops.size (Array.replicate ops.size false) K fr H Γ):Run P R N v0 H0 (.region e ops true) K fr H Γ:=qm_ H Γ hm h
theorem Vw.sat.tail {v:Vw} {p:Nat×Obj} (h:v.sat (p::H)):v.sat H :=
  ⟨fun x e=>h.own x (List.mem_cons_of_mem _ e),by have:=h.nodup;rw[List.map_cons,List.nodup_cons]at this;exact this.2,h.lt⟩
theorem pP_ [NoPan R] (i:Nat) {e:Oper} {x:Value} (hi:ops[i]? = some e) (F:Region.noSelect ops=true) (C:Region.free .any ops listed i=true) (E:(Region.ready .any ops listed).contains i=true)
    (G:e.dst=some d) (L:Nat.blt d N.n=true) (I:∀ a,Fr.sat N fr a→YieldsIf P ops (SW Hs Γs) e x a) (M:∀ v,v.sat H→ac_ Γ v→v.sat Hs∧ac_ Γs v)
    (h:Any P R N v0 H0 ops Hs Γs fuel (listed.setIfInBounds i true) K ((d,x)::fr) H Γ):Any P R N v0 H0 ops Hs Γs (fuel+1) listed K fr H Γ :=
  fun a v q A J y=>wpAnyH_take hi F C E (fun c a w B=>jX_ K B) (I a q) ⟨v,rfl,M v A y⟩ (by
    rw[G];exact h _ v (q.put L) A J y)
theorem wP_ [NoPan R] (i:Nat) {q:Op} {x:Value} (hi:ops[i]? = some ⟨some d,q,ty,ps,af,none⟩) (C:Region.noSelect ops=true) (y:Region.free .any ops listed i=true) (A:(Region.ready .any ops listed).contains i=true)
    (G:Yld P N fr Hs Γs q ty x) (E:Nat.blt d N.n=true) (F:∀ v,v.sat H→ac_ Γ v→v.sat Hs∧ac_ Γs v)
    (h:Any P R N v0 H0 ops Hs Γs fuel (listed.setIfInBounds i true) K ((d,x)::fr) H Γ):Any P R N v0 H0 ops Hs Γs (fuel+1) listed K fr H Γ :=
  pP_ i hi C y A rfl E (fun a B=>.inl ⟨rfl,fun w ⟨v,e,k1,k2⟩=>by subst e;exact G a v B k1 k2 (some d) ps af⟩) F h
theorem uA_ [NoPan R] (i:Nat) {y:Op} {x:Value} {j t:Nat} {q:Bool} (hi:ops[i]? = some ⟨some d,y,ty,ps,af,some (j,q)⟩) (F:Region.noSelect ops=true) (C:Region.free .any ops listed i=true) (E:(Region.ready .any ops listed).contains i=true)
    (B:iu_ ops j=some t) (I:Fr.get fr t=some (.bool q)) (G:Yld P N fr Hs Γs y ty x) (J:Nat.blt d N.n=true) (L:∀ v,v.sat H→ac_ Γ v→v.sat Hs∧ac_ Γs v)
    (h:Any P R N v0 H0 ops Hs Γs fuel (listed.setIfInBounds i true) K ((d,x)::fr) H Γ):Any P R N v0 H0 ops Hs Γs (fuel+1) listed K fr H Γ :=
  pP_ i hi F C E rfl J (fun a A=>.inl ⟨by simp[Region.wanted,hh_ A B I],fun w ⟨v,e,k1,k2⟩=>by subst e;exact G a v A k1 k2 (some d) ps af⟩) L h
theorem any_no [NoPan R] (i:Nat) {y:Op} {x:Value} {j t:Nat} {e:Bool} (hi:ops[i]? = some ⟨some d,y,ty,ps,af,some (j,e)⟩) (E:Region.noSelect ops=true) (A:Region.free .any ops listed i=true) (B:(Region.ready .any ops listed).contains i=true)
    (q:iu_ ops j=some t) (G:Fr.get fr t=some x) (F:(match x with|.bool b=>Bool.xor b e|_=>true)=true) (I:Nat.blt d N.n=true) (J:∀ v,v.sat H→ac_ Γ v→v.sat Hs∧ac_ Γs v)
    (h:Any P R N v0 H0 ops Hs Γs fuel (listed.setIfInBounds i true) K ((d,undef)::fr) H Γ):Any P R N v0 H0 ops Hs Γs (fuel+1) listed K fr H Γ :=
  pP_ i hi E A B rfl I (fun a C=>.inr ⟨by
    simp only[Region.wanted,hh_ C q G];cases x<;>first|rfl|(rename_i b;cases b<;>cases e<;>simp_all),rfl⟩) J h
def iI_ (ops:Array Oper):Array Bool→List Nat→Bool
  | _,[]=>true
  | listed,i::is=>Region.free .any ops listed i&&((Region.ready .any ops listed).contains i&&iI_ ops (listed.setIfInBounds i true) is)
def Sq (P:Program) (R:Exit→Act→World→Prop) (N:Nf) (v0:Vw) (H0:Hp) (ops:Array Oper) (Hs:Hp) (Γs:List Fct) (is:List Nat) (fuel:Nat) (listed:Array Bool) (K:List Kt) (fr:Fr) (H:Hp) (Γ:List Fct):Prop :=
  (Region.noSelect ops&&iI_ ops listed is)=true→(∀ v,v.sat H→ac_ Γ v→v.sat Hs∧ac_ Γs v)→Any P R N v0 H0 ops Hs Γs (fuel+is.length) listed K fr H Γ
theorem t_ (fuel:Nat) (e:List Nat) (q:(Region.noSelect ops&&iI_ ops listed e)=true) (x:∀ v,v.sat H→ac_ Γ v→v.sat Hs∧ac_ Γs v) (h:Sq P R N v0 H0 ops Hs Γs e fuel listed K fr H Γ):Any P R N v0 H0 ops Hs Γs (fuel+e.length) listed K fr H Γ:=h q x
theorem bh_ (h:Any P R N v0 H0 ops Hs Γs fuel listed K fr H Γ):Sq P R N v0 H0 ops Hs Γs [] fuel listed K fr H Γ:=fun _ _=>h
theorem mJ_ {i:Nat} {e:List Nat} (h:(Region.noSelect ops&&iI_ ops listed (i::e))=true):Region.noSelect ops=true∧Region.free .any ops listed i=true∧(Region.ready .any ops listed).contains i=true∧(Region.noSelect ops&&iI_ ops (listed.setIfInBounds i true) e)=true:=by
  simp only[iI_,Bool.and_eq_true]at h ⊢;exact⟨h.1,h.2.1,h.2.2.1,h.1,h.2.2.2⟩
theorem N_ [NoPan R] {i:Nat} {q:List Nat} {e:Op} {x:Value} (hi:ops[i]? = some ⟨some d,e,ty,ps,af,none⟩) (F:Yld P N fr Hs Γs e ty x) (C:Nat.blt d N.n=true)
    (h:Sq P R N v0 H0 ops Hs Γs q fuel (listed.setIfInBounds i true) K ((d,x)::fr) H Γ):Sq P R N v0 H0 ops Hs Γs (i::q) fuel listed K fr H Γ:=fun A y=>by
  obtain⟨I,G,E,B⟩:=mJ_ A;exact wP_ i hi I G E F C y (h B y)
theorem cZ_ [NoPan R] {i:Nat} {q:List Nat} {e:Op} {X:Bool} (hi:ops[i]? = some ⟨some d,e,ty,ps,af,none⟩) (y:Yld P N fr Hs Γs e ty (.bool X)) (x:Nat.blt d N.n=true)
    (h:∀ r:Bool,X=r→Sq P R N v0 H0 ops Hs Γs q fuel (listed.setIfInBounds i true) K ((d,.bool r)::fr) H Γ):Sq P R N v0 H0 ops Hs Γs (i::q) fuel listed K fr H Γ:=N_ hi y x (h X rfl)
theorem aP_ [NoPan R] {i:Nat} {y:List Nat} {q:Op} {x:Value} {j t:Nat} {e:Bool} (hi:ops[i]? = some ⟨some d,q,ty,ps,af,some (j,e)⟩) (C:iu_ ops j=some t) (G:Fr.get fr t=some (.bool e)) (F:Yld P N fr Hs Γs q ty x) (J:Nat.blt d N.n=true)
    (h:Sq P R N v0 H0 ops Hs Γs y fuel (listed.setIfInBounds i true) K ((d,x)::fr) H Γ):Sq P R N v0 H0 ops Hs Γs (i::y) fuel listed K fr H Γ:=fun B A=>by
  obtain⟨M,L,E,I⟩:=mJ_ B;exact uA_ i hi M L E C G F J A (h I A)
theorem bG_ [NoPan R] {i:Nat} {x:List Nat} {q:Op} {X:Bool} {j t:Nat} {e:Bool} (hi:ops[i]? = some ⟨some d,q,ty,ps,af,some (j,e)⟩) (y:iu_ ops j=some t) (A:Fr.get fr t=some (.bool e)) (C:Yld P N fr Hs Γs q ty (.bool X)) (B:Nat.blt d N.n=true)
    (h:∀ r:Bool,X=r→Sq P R N v0 H0 ops Hs Γs x fuel (listed.setIfInBounds i true) K ((d,.bool r)::fr) H Γ):Sq P R N v0 H0 ops Hs Γs (i::x) fuel listed K fr H Γ:=aP_ hi y A C B (h X rfl)
theorem sq_no [NoPan R] {i:Nat} {y:List Nat} {E:Op} {x:Value} {j t:Nat} {e:Bool} (hi:ops[i]? = some ⟨some d,E,ty,ps,af,some (j,e)⟩) (C:iu_ ops j=some t) (G:Fr.get fr t=some x) (q:(match x with|.bool b=>Bool.xor b e|_=>true)=true) (J:Nat.blt d N.n=true)
    (h:Sq P R N v0 H0 ops Hs Γs y fuel (listed.setIfInBounds i true) K ((d,undef)::fr) H Γ):Sq P R N v0 H0 ops Hs Γs (i::y) fuel listed K fr H Γ:=fun B A=>by
  obtain⟨M,L,F,I⟩:=mJ_ B;exact any_no i hi M L F C G q J A (h I A)
def Nx (P:Program) (R:Exit→Act→World→Prop) (ops:Array Oper) (Hs:Hp) (Γs:List Fct) (fuel:Nat) (listed:Array Bool) (K:List Kt) (a:Act) (w:World):Prop :=
  SW Hs Γs w∧wpAnyH P .any ops (post P R K) (SW Hs Γs) fuel listed a w
theorem o_ (i:Nat) {o:Oper} (hi:ops[i]? = some o) (B:Region.ready .any ops listed=[i]) (h:Ops P R N v0 H0 ops [o] (.inv (Nx P R ops Hs Γs fuel (listed.setIfInBounds i true) K)::K) fr H Γ):Any P R N v0 H0 ops Hs Γs (fuel+1) listed K fr H Γ:=by
 intro a v C F A E;refine wpAnyH_all B zj_ fun j y=>?_;simp only[List.mem_singleton]at y;subst y;have:=h a v C F A E;unfold wpOp;simp only[hi];unfold wpList at this
 split
 ·rename_i e
  rw[if_pos e]at this;rcases this with q|q
  ·left
   unfold Oper.wp at q ⊢;generalize (execOp a.eval o).run P v.w=r at q ⊢
   cases r with
   | ok n w' =>
     cases n<;>simp only[Oper.upon]at q ⊢<;>exact q
   | halt x w' =>
     cases x<;>simp only[Oper.upon]at q ⊢
     case panic u=>exact q
  exact .inr q
 rename_i e
 rw[if_neg e]at this;exact this
theorem R_ (A:∀ v,v.sat H→ac_ Γ v→v.sat Hs∧ac_ Γs v) (h:Any P R N v0 H0 ops Hs Γs fuel listed K fr H Γ):Ok N v0 H0 (Nx P R ops Hs Γs fuel listed K) fr H Γ :=
  fun a v y q x e=>⟨⟨v,rfl,A v q e⟩,h a v y q x e⟩
theorem rt_ (q:Region.ready .any ops listed=[]) (h:Fin P R N v0 H0 K fr H Γ):Any P R N v0 H0 ops Hs Γs fuel listed K fr H Γ :=
  fun a v x A e y=>wpAnyH_done q (h a v x A e y) fuel
theorem iO_ {α:Type} [BEq α] [LawfulBEq α] {a b:α} (h:(a != b)=true):a≠b:=by simpa using h
theorem iV_ {α:Type} [BEq α] [LawfulBEq α] {a b:α} (h:(a != b)=false):a=b:=by simpa using h
theorem xz_ {N:Nat} {fn:Func} {t s u:Nat} {ι:Type} {F:Hp} {ret:ι→Value} {H':ι→Hp} {Γ':ι→List Fct} {B C A:Value} (I:fn.results=#[.tmp t,.tmp s,.tmp u]) (x:ι) (h:Fr.get fr t=some B) (y:Fr.get fr s=some C) (q:Fr.get fr u=some A) (T:.tuple #[B,C,A]=ret x) (E:H.Perm (H' x++F))
    (J:∀ v,v.sat H→ac_ Γ v→ac_ (Γ' x) v):Ok N v0 H0 (bodyPost P fn (kz_ v0 H0 ret H' Γ') .ret) fr H Γ :=
  dN_ E J fun a v e G S L=>⟨e.defers,ret x,by rw[← T];have M:=e.val t _ h;have Q:=e.val s _ y;have O:=e.val u _ q;simp[results,I,M,Q,O],x,v,rfl,rfl,G,L,S⟩
theorem hy_ {f:FuncId} {args:Array Value} {r:Value} (A:hc_ P f) (h:∀ w,Calls P f args w fun e w'=>e=.returned r∧w'.heap=w.heap∧w'.os=w.os∧w'.tape=w.tape∧w'.output=w.output∧w.drawn≤w'.drawn):Fn0 P f args r :=
  ⟨A,fun v x _=>(h v.w).mono fun e w' ⟨B,q,F,E,y,G⟩=>⟨(),⟨v.im,w',v.sl⟩,B,rfl,⟨by simp,by simp,fun b C=>by show b<w'.heap.size;rw[q];exact x.lt b C⟩,trivial,
    ⟨F,E,y,by simp[q],fun b _ _=>by show w'.heap[b]? = _;rw[q],fun _ h=>h,fun _ h=>.inl h,fun _ h=>by simp at h,rfl,.inr G⟩⟩⟩
theorem bD_ {f:FuncId} {g:Operand} {first cap:List Value} {l:List Oper} {h:List Operand} {e:Array TypeId} {vs:List Value} {Hc F:Hp} {q:List Fct} {X:Bool}
    (A:Tri P f (first++vs++cap).toArray Hc q (fun _:Unit=>.bool X) (fun _=>Hc) (fun _=>[])) (C:Fr.ev fr g=some (.func (.func f) first.toArray cap.toArray)) (B:Fr.evs fr h=some vs) (x:H.Perm (Hc++F)) (y:∀ v,v.sat H→ac_ Γ v→ac_ q v) (E:Nat.blt d N.n=true)
    (hk:∀ r:Bool,X=r→Ops P R N v0 H0 ops l K ((d,.bool r)::fr) (Hc++F) Γ) :
    Ops P R N v0 H0 ops (⟨some d,.call ⟨.value g,h.toArray,e⟩,ty,ps,af,none⟩::l) K fr H Γ :=
  ao_ A C B x y E fun _=>hk X rfl
theorem C_ {k:Act→World→Prop} {H':Hp} (e:H.Perm H') (h:Ok N v0 H0 k fr H' Γ):Ok N v0 H0 k fr H Γ :=
  fun a v x A q y=>h a v x (A.perm e) (q.subR fun b B=>(e.map Prod.fst).mem_iff.2 B) y
theorem gs_:∀ {H:Hp} {i:Nat} {p:Nat×Obj},H[i]? = some p→H.Perm (p::H.eraseIdx i)
  | [],i,p,h=>by simp at h
  | x::H,0,p,h=>by simp at h;subst h;exact .refl _
  | x::H,i+1,p,h=>by
    have:=gs_ (H:=H) (i:=i) (p:=p) zK_;exact (List.Perm.cons x this).trans (List.Perm.swap p x _)
theorem qy_:∀ {H:Hp} {i:Nat} {p q:Nat×Obj},H[i]? = some p→(q::H.eraseIdx i).Perm (H.set i q)
  | [],i,p,q,h=>by simp at h
  | x::H,0,p,q,h=>by exact .refl _
  | x::H,i+1,p,q,h=>by
    have:=qy_ (H:=H) (i:=i) (p:=p) (q:=q) zK_;exact (List.Perm.swap x q _).trans (List.Perm.cons x this)
theorem uc_ {f:FuncId} {l:List Oper} {h:List Operand} {e:Array TypeId} {vs:List Value} (i:Nat) {b:Nat} {o o':Obj} {q:List Fct} {r:Value}
    (y:Tri P f vs.toArray [(b,o)] q (fun _:Unit=>r) (fun _=>[(b,o')]) (fun _=>[])) (A:Fr.evs fr h=some vs) (hi:H[i]? = some (b,o)) (x:∀ v,v.sat H→ac_ Γ v→ac_ q v) (B:Nat.blt d N.n=true)
    (hk:Ops P R N v0 H0 ops l K ((d,r)::fr) (H.set i (b,o')) Γ) :
    Ops P R N v0 H0 ops (⟨some d,.call ⟨.value (.func f),h.toArray,e⟩,ty,ps,af,none⟩::l) K fr H Γ :=
  j_ y A (gs_ hi) x B fun _=>C_ (qy_ hi) hk
theorem nf_ {f:FuncId} {l:List Oper} {h:List Operand} {e:Array TypeId} {vs:List Value} (i:Nat) {b:Nat} {o o':Obj} {q:List Fct} {X:Bool}
    (y:Tri P f vs.toArray [(b,o)] q (fun _:Unit=>.bool X) (fun _=>[(b,o')]) (fun _=>[])) (A:Fr.evs fr h=some vs) (hi:H[i]? = some (b,o)) (x:∀ v,v.sat H→ac_ Γ v→ac_ q v) (B:Nat.blt d N.n=true)
    (hk:∀ r:Bool,X=r→Ops P R N v0 H0 ops l K ((d,.bool r)::fr) (H.set i (b,o')) Γ) :
    Ops P R N v0 H0 ops (⟨some d,.call ⟨.value (.func f),h.toArray,e⟩,ty,ps,af,none⟩::l) K fr H Γ :=
  uc_ i y A hi x B (hk X rfl)
end any
end Go.Sx
namespace Go.Sx
open Go
structure Opn (F:Fence):Prop where
  fn:∀ f,F.fn f
  depth:F.depth=none
theorem cY_:Opn Fence.wide:=⟨fun _=>trivial,rfl⟩
theorem L_ (l:Nat):Opn (Fence.wide.inRound l):=⟨fun _=>trivial,rfl⟩
theorem pL_ {F:Fence} {n:Nat} {P:Program} {f:FuncId} {args:Array Value} {w:World} {R:Ending→World→Prop} (h:Calls P f args w R) (l:Nat):CallsIn (Fence.wide.inRound l) n P f args w R :=
  (callsIn_wide (n:=n)).2 h
structure SatD (N:Nat) (D:List Deferred) (fr:Fr) (a:Act):Prop where
  sat:Fr.sat N fr ⟨a.tmps,[]⟩
  defers:a.defers=D
theorem SatD.put {N:Nat} {D:List Deferred} {fr:Fr} {a:Act} {d:Nat} {x:Value} (h:SatD N D fr a) (e:Nat.blt d N=true):SatD N D ((d,x)::fr) (a.put (some d) x) :=
  ⟨h.sat.put e,h.defers⟩
def OkD (N:Nat) (D:List Deferred) (v0:Vw) (H0:Hp) (k:Act→World→Prop) (fr:Fr) (H:Hp) (Γ:List Fct):Prop :=
  ∀ a v,SatD N D fr a→v.sat H→v0.to H0 v H→ac_ Γ v→k a v.w
def ej_ (F:Fence) (n:Nat) (P:Program) (R:Exit→Act→World→Prop):List Kt→Exit→Act→World→Prop
  | [],e,a,w=>R e a w
  | .seq c::K,.normal,a,w=>c.wpIn F n P (ej_ F n P R K) a w
  | .seq _::K,e,a,w=>ej_ F n P R K e a w
  | .inv J::_,.normal,a,w=>J a w
  | .inv _::K,e,a,w=>ej_ F n P R K e a w
  | .blk id::K,.exit id',a,w=>if id'=id then ej_ F n P R K .normal a w else ej_ F n P R K (.exit id') a w
  | .blk _::K,e,a,w=>ej_ F n P R K e a w
section code
variable {F:Fence} {n:Nat} {P:Program} {N:Nat} {D:List Deferred} {v0:Vw} {H0:Hp} {R:Exit→Act→World→Prop} {K:List Kt} {fr:Fr} {H:Hp} {Γ:List Fct}
theorem ow_ (K:List Kt) (a:Act) (w:World) (h:R .ret a w):ej_ F n P R K .ret a w:=by
  induction K with
  | nil=>exact h
  | cons x K ih=>cases x<;>exact ih
theorem mY_ {c:Code} {e:List Kt} {a:Act} {w:World}:∀ {K:List Kt},nxt K=some (c,e)→c.wpIn F n P (ej_ F n P R e) a w→ej_ F n P R K .normal a w
  | [],h,_=>by simp[nxt]at h
  | .seq _::K,h,hp=>by simp only[nxt,Option.some.injEq,Prod.mk.injEq]at h;obtain⟨rfl,rfl⟩:=h;exact hp
  | .blk _::K,h,hp=>mY_ (K:=K) (by simpa [nxt] using h) hp
  | .inv _::K,h,_=>by simp[nxt]at h
theorem ox_ {a:Act} {w:World}:∀ {K:List Kt},fW_ K=true→R .normal a w→ej_ F n P R K .normal a w
  | [],_,hp=>hp
  | .inv _::K,h,_=>by simp[fW_]at h
  | .blk _::K,h,hp=>ox_ (K:=K) (by simpa [fW_] using h) hp
  | .seq _::K,h,_=>by simp[fW_]at h
abbrev iD_ (F:Fence) (n:Nat) (P:Program) (R:Exit→Act→World→Prop) (N:Nat) (D:List Deferred) (v0:Vw) (H0:Hp) (c:Code) (K:List Kt) (fr:Fr) (H:Hp) (Γ:List Fct):Prop :=
  OkD N D v0 H0 (c.wpIn F n P (ej_ F n P R K)) fr H Γ
abbrev sB_ (F:Fence) (n:Nat) (P:Program) (R:Exit→Act→World→Prop) (N:Nat) (D:List Deferred) (v0:Vw) (H0:Hp) (K:List Kt) (fr:Fr) (H:Hp) (Γ:List Fct):Prop :=
  OkD N D v0 H0 (ej_ F n P R K .normal) fr H Γ
abbrev fC_ (F:Fence) (n:Nat) (P:Program) (R:Exit→Act→World→Prop) (N:Nat) (D:List Deferred) (v0:Vw) (H0:Hp) (ops:Array Oper) (l:List Oper) (K:List Kt) (fr:Fr) (H:Hp) (Γ:List Fct):Prop :=
  OkD N D v0 H0 (wpListIn F n P ops (ej_ F n P R K) l) fr H Γ
theorem cW_ {x y:Code} (h:iD_ F n P R N D v0 H0 x (.seq y::K) fr H Γ):iD_ F n P R N D v0 H0 (.seq x y) K fr H Γ :=
  fun a v B E A C=>wpIn_seq (wpIn_mono (h a v B E A C) fun e a w q=>by cases e<;>exact q)
theorem et_ {q:Nat} {c:Code} (h:iD_ F n P R N D v0 H0 c (.blk q::K) fr H Γ):iD_ F n P R N D v0 H0 (.block q c) K fr H Γ :=
  fun a v A C y B=>wpIn_block (wpIn_mono (h a v A C y B) fun e a w x=>by cases e<;>exact x)
theorem oq_ (h:sB_ F n P R N D v0 H0 K fr H Γ):iD_ F n P R N D v0 H0 .skip K fr H Γ :=
  fun a v y e x q=>wpIn_skip (h a v y e x q)
theorem mQ_ (h:OkD N D v0 H0 (R .ret) fr H Γ):iD_ F n P R N D v0 H0 .ret K fr H Γ :=
  fun a v y e x q=>wpIn_ret (ow_ K a v.w (h a v y e x q))
theorem cc_ {c:Code} {e:List Kt} (y:nxt K=some (c,e)) (h:iD_ F n P R N D v0 H0 c e fr H Γ):sB_ F n P R N D v0 H0 K fr H Γ :=
  fun a v x B q A=>mY_ y (h a v x B q A)
theorem dp_ (x:fW_ K=true) (h:OkD N D v0 H0 (R .normal) fr H Γ):sB_ F n P R N D v0 H0 K fr H Γ :=
  fun a v q A e y=>ox_ x (h a v q A e y)
theorem aJ_ {e:Nat} {l:List Oper} (h:fC_ F n P R N D v0 H0 l.toArray l K fr H Γ):iD_ F n P R N D v0 H0 (.region e l.toArray false) K fr H Γ :=
  fun a v x A q y=>wpIn_region_lit (h a v x A q y)
theorem bp_ {ops:Array Oper} (h:sB_ F n P R N D v0 H0 K fr H Γ):fC_ F n P R N D v0 H0 ops [] K fr H Γ :=
  fun a v q y e x=>wpListIn_nil (h a v q y e x)
theorem fr_ {c:Operand} {x y:Code} (A:Fr.ev fr c=some (.bool true)) (q:iD_ F n P R N D v0 H0 x K fr H Γ):iD_ F n P R N D v0 H0 (.cond c x y) K fr H Γ :=
  fun a v e C h B=>wpIn_cond_true (e.sat.ev A) (q a v e C h B)
theorem lB_ {c:Operand} {x y:Code} (q:Fr.ev fr c=some (.bool false)) (C:iD_ F n P R N D v0 H0 y K fr H Γ):iD_ F n P R N D v0 H0 (.cond c x y) K fr H Γ :=
  fun a v e B h A=>wpIn_cond_false (e.sat.ev q) (C a v e B h A)
def nl_:Op→Bool
  | .defer _=>false
  | _=>true
theorem semAt_eq {o:Oper} (h:nl_ o.op=true) (ro:Option Nat) (ρ:Operand→Value):o.semAt ro ρ=execOp ρ o :=
  Oper.semAt_eq ro ρ o (fun c e=>by rw[e]at h;cases h)
variable {ops:Array Oper} {l:List Oper} {d:Nat} {ty:TypeId} {ps:String} {af:Array Edge}
theorem rz_ {o:Oper} {a:Act} {w:World} {C E:Act→World→Prop} {Q:Exit→Act→World→Prop} (B:∀ a w,C a w→E a w) (h:o.wpIn F n P a w C Q):o.wpIn F n P a w E Q:=by
  refine⟨h.1,?_⟩;have q:=h.2;generalize (o.semAt F.round a.eval).run P w=r at q ⊢
  cases r with
  | ok nx w' =>
    cases nx<;>simp only[Oper.uponIn]at q ⊢<;>first|exact B _ _ q|exact q|skip
    case enter f args=>exact⟨q.1,q.2.mono fun e A y=>by cases e<;>first|exact B _ _ y|exact y⟩
    case row row args=>exact⟨q.1,q.2.mono fun v A y=>B _ _ y⟩
    case round l f tmps assign body=>exact⟨q.1,q.2.mono fun e A y=>by cases e<;>first|exact B _ _ y|exact y⟩
  | halt x w'=>cases x<;>simp only[Oper.uponIn]at q ⊢<;>exact q
theorem ee_ {o:Oper} (q:o.guard=none) (h:∀ a v,SatD N D fr a→v.sat H→v0.to H0 v H→ac_ Γ v→o.wpIn F n P a v.w (wpListIn F n P ops (ej_ F n P R K) l) (ej_ F n P R K)) :
    fC_ F n P R N D v0 H0 ops (o::l) K fr H Γ :=
  fun a v x B e y=>wpListIn_plain q fun C A=>rz_ A (h a v x B e y)
theorem U_ {e:Op} {x:Value} (G:Opn F) (E:Yld P N fr H Γ e ty x) (h:nl_ e=true) (C:Nat.blt d N=true)
    (hk:fC_ F n P R N D v0 H0 ops l K ((d,x)::fr) H Γ):fC_ F n P R N D v0 H0 ops (⟨some d,e,ty,ps,af,none⟩::l) K fr H Γ :=
  ee_ rfl fun a v q A B y=>by
    refine⟨fun f _=>G.fn f,?_⟩;rw[semAt_eq h];have:=E ⟨a.tmps,[]⟩ v q.sat A y (some d) ps af;rw[show a.eval=Act.eval ⟨a.tmps,[]⟩ from rfl,this];exact hk _ v (q.put C) A B y
theorem ud_ {h:Op} {X:Bool} (y:Opn F) (x:Yld P N fr H Γ h ty (.bool X)) (e:nl_ h=true) (q:Nat.blt d N=true)
    (hk:∀ r:Bool,X=r→fC_ F n P R N D v0 H0 ops l K ((d,.bool r)::fr) H Γ):fC_ F n P R N D v0 H0 ops (⟨some d,h,ty,ps,af,none⟩::l) K fr H Γ :=
  U_ y x e q (hk X rfl)
theorem ng_ {t:TypeId} {z:Value} (A:Opn F) (x:∀ w,(zeroValue t).run P w=.ok z w) (E:Nat.blt d N=true)
    (hk:∀ b,fC_ F n P R N D v0 H0 ops l K ((d,.pointer (some ⟨b,0,none⟩))::fr) ((b,.cells z.cells t (0,0))::H) Γ):fC_ F n P R N D v0 H0 ops (⟨some d,.alloc t,ty,ps,af,none⟩::l) K fr H Γ :=
  ee_ rfl fun a v q h C y=>by
    refine⟨fun f _=>A.fn f,?_⟩;rw[semAt_eq rfl]
    have B:(execOp a.eval ⟨some d,.alloc t,ty,ps,af,none⟩).run P v.w=.ok (.value (.pointer (some ⟨v.w.heap.size,0,none⟩))) (v.w.alloc (.cells z.cells t (0,0))):=by
      simp[execOp,x,Instr.alloc,newVar,newRow,newObj];rfl
    rw[B];obtain⟨G,e⟩:=fE_ (w':=v.w.alloc (.cells z.cells t (0,0))) (o:=.cells z.cells t (0,0)) h rfl rfl rfl rfl (Nat.le_refl _);exact hk v.w.heap.size _ ⟨v.im,_,v.sl⟩ (q.put E) G (C.trans e) (an_ (e.le h) y)
theorem fU_ {t:TypeId} {x y:Operand} {b off m:Nat} (S:Opn F) (i:Nat) {cur:Array Value} {T:TypeId} {u:Value} (X:∀ w,(sizeOf t).run P w=.ok m w)
    (I:Fr.ev fr x=some (.pointer (some ⟨b,off,none⟩))) (G:Fr.ev fr y=some u) (hi:H[i]? = some (b,.cells cur T (0,0))) (A:u.cells.size=m) (L:Nat.ble (off+m) cur.size=true) (B:u.cells.toList.all Value.oneCell'=true)
    (hk:fC_ F n P R N D v0 H0 ops l K fr (H.set i (b,.cells (cur.toList.take off++u.cells.toList++cur.toList.drop (off+m)).toArray T (0,0))) Γ) :
    fC_ F n P R N D v0 H0 ops (⟨none,.store t x y,ty,ps,af,none⟩::l) K fr H Γ :=
  ee_ rfl fun a v q h W O=>by
    refine⟨fun f _=>S.fn f,?_⟩;rw[semAt_eq rfl];have C:=(h.own _ (List.mem_of_getElem? hi)).1;have e:=run_storeCells_at P b off T u.cells.toList 0 cur v.w C (by simp[A];exact Nat.le_of_ble_eq_true L) (fun c M=>List.all_eq_true.1 B c M)
    have U:(execOp a.eval ⟨none,.store t x y,ty,ps,af,none⟩).run P v.w=.ok .skip (v.w.setRow b (cur.toList.take off++u.cells.toList++cur.toList.drop (off+m)).toArray):=by
      simp only[Nat.add_zero,Array.length_toList,A]at e;have Q:a.eval x=.pointer (some ⟨b,off,none⟩):=q.sat.ev I;have V:a.eval y=u:=q.sat.ev G;simp[execOp,Q,V,Instr.storeAt,Instr.sureAddr,storeVar,X,A,e]
    rw[U];obtain⟨J,E⟩:=eG_ (w':=v.w.setRow b (cur.toList.take off++u.cells.toList++cur.toList.drop (off+m)).toArray) h hi rfl rfl rfl (Nat.le_refl _) zj_ (setRow_heap _ _ _ _ _ _ C) (fun k hk=>setRow_other _ _ _ _ hk);exact hk a _ q J (W.trans E) (an_ (E.le h) O)
theorem uf_ {r:Nat} {f:FuncId} {B:List Operand} {A:Array TypeId} {vs:List Value} {ι:Type} {Hc G:Hp} {L:List Fct} {y:ι→Value} {H':ι→Hp} {Γ':ι→List Fct}
    (E:Tri P f vs.toArray Hc L y H' Γ') (O:Fr.evs fr B=some vs) (C:H.Perm (Hc++G)) (U:∀ v,v.sat H→ac_ Γ v→ac_ L v) (Q:Nat.blt d N=true)
    (hk:∀ x,fC_ (Fence.wide.inRound r) n P R N D v0 H0 ops l K ((d,y x)::fr) (H' x++G) (Γ' x++Γ)) :
    fC_ (Fence.wide.inRound r) n P R N D v0 H0 ops (⟨some d,.call ⟨.value (.func f),B.toArray,A⟩,ty,ps,af,none⟩::l) K fr H Γ :=
  ee_ rfl fun a v I M Z J=>by
    refine⟨fun f _=>trivial,?_⟩;rw[semAt_eq rfl]
    have X:(execOp a.eval ⟨some d,.call ⟨.value (.func f),B.toArray,A⟩,ty,ps,af,none⟩).run P v.w=.ok (.enter f vs.toArray) v.w:=by
      have W:B.map a.eval=vs:=I.sat.evs O;simp[execOp,resolve,Deferred.ofValue,Act.eval,invoke,W,E.callable _ v.w]
    rw[X];have q:=M.perm C;refine⟨fun h=>(by cases h),(pL_ (F:=Fence.wide) (E.run v q.sub (U v M J)) r).mono ?_⟩;rintro e w' ⟨x,T,rfl,rfl,S,Y,V⟩;obtain⟨k1,k2⟩:=V.frame q S;exact hk x _ T (I.put Q) k1 (Z.trans (k2.permL C.symm)) (eM_.2 ⟨Y,an_ (k2.le q) J⟩)
def jc_ (P:Program) (l:Nat) (x:Value) (H:Hp) (Γ:List Fct) {ι:Type} (ret:ι→Value) (H':ι→Hp) (Γ':ι→List Fct):Prop :=
  ∀ v,v.sat H→ac_ Γ v→∃ fn tmps assign body,(Instr.yield l #[x]).run P v.w=.ok (.round l fn tmps assign body) v.w ∧
    ∀ n,RoundIn Fence.wide n P l fn tmps assign body v.w fun e w'=>∃ x v',e=.returned (ret x)∧v'.w=w'∧v'.sat (H' x)∧ac_ (Γ' x) v'∧v.to H v' (H' x)
theorem hs_ {r:Nat} {g y:Operand} {C:Array TypeId} {u:Value} {ι:Type} {Hc G:Hp} {Q:List Fct} {B:ι→Value} {H':ι→Hp} {Γ':ι→List Fct}
    (U:jc_ P r u Hc Q B H' Γ') (hg:Fr.ev fr g=some (.func (.yield r) #[] #[])) (T:Fr.ev fr y=some u) (M:H.Perm (Hc++G)) (Y:∀ v,v.sat H→ac_ Γ v→ac_ Q v) (V:Nat.blt d N=true)
    (hk:∀ x,fC_ Fence.wide n P R N D v0 H0 ops l K ((d,B x)::fr) (H' x++G) (Γ' x++Γ)) :
    fC_ Fence.wide n P R N D v0 H0 ops (⟨some d,.call ⟨.value g,#[y],C⟩,ty,ps,af,none⟩::l) K fr H Γ :=
  ee_ rfl fun a v J S h3 O=>by
    refine⟨fun f _=>trivial,?_⟩;rw[semAt_eq rfl];have A:=S.perm M;obtain⟨fn,I,q,E,L,hR⟩:=U v A.sub (Y v S O)
    have he:(execOp a.eval ⟨some d,.call ⟨.value g,#[y],C⟩,ty,ps,af,none⟩).run P v.w=.ok (.round r fn I q E) v.w:=by
      have e1:a.eval g=.func (.yield r) #[] #[]:=J.sat.ev hg;have e2:a.eval y=u:=J.sat.ev T;simp[execOp,resolve,Deferred.ofValue,e1,e2,invoke,L]
    rw[he];refine⟨fun h=>(by cases h),(hR _).mono ?_⟩;rintro e w' ⟨x,X,rfl,rfl,W,g2,Z⟩;obtain⟨k1,k2⟩:=Z.frame A W;exact hk x _ X (J.put V) k1 (h3.trans (k2.permL M.symm)) (eM_.2 ⟨g2,an_ (k2.le A) O⟩)
theorem gG_ {k:Act→World→Prop}:OkD N [] v0 H0 k fr H Γ↔Ok N v0 H0 k fr H Γ :=
  ⟨fun h a v e y q x=>h a v ⟨⟨e.size,rfl,e.val⟩,e.defers⟩ y q x,fun h a v e y q x=>h a v ⟨e.sat.size,e.defers,e.sat.val⟩ y q x⟩
end code
end Go.Sx
