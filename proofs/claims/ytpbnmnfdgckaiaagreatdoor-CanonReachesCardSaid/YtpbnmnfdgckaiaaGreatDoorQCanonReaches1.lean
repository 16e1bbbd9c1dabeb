/-
  Part of the proof of the law CanonReaches over this seat: the small logic, the data, the contracts of functions (no condition).
-/
import Derived.Test.YtpbnmnfdgckaiaaGreatDoorQCanonReaches0
import Derived.WalkKit
import Derived.OrdersHeld
import Derived.Deep.LoopGhost
import Derived.RangeFuncIn
import Derived.RangeFuncLeaves
import Derived.TacticsIn
set_option linter.unusedVariables false
set_option linter.unusedSimpArgs false
set_option linter.unusedSectionVars false
set_option maxHeartbeats 1000000
namespace Go.Sx
open Go
structure Vw where
  im:Nat→Prop
  w:World
  sl:Prop
abbrev Fr:=List (Nat×Value)
abbrev Hp:=List (Nat×Obj)
def Fr.get:Fr→Nat→Option Value
  | [],_=>none
  | (t,v)::r,n=>bif Nat.beq t n then some v else Fr.get r n
structure Nf where
  n:Nat
  D:List Deferred
instance:Coe Nat Nf:=⟨fun n=>⟨n,[]⟩⟩
structure Fr.sat (N:Nf) (fr:Fr) (a:Act):Prop where
  size:a.tmps.size=N.n
  defers:a.defers=N.D
  val:∀ t v,Fr.get fr t=some v→a.tmps[t]? = some v
structure Vw.sat (v:Vw) (H:Hp):Prop where
  own:∀ p,p∈H→v.w.heap[p.1]? = some p.2∧¬ v.im p.1
  nodup:(H.map Prod.fst).Nodup
  lt:∀ b,v.im b→b<v.w.heap.size
structure Vw.to (v:Vw) (H:Hp) (v':Vw) (H':Hp):Prop where
  os:v'.w.os=v.w.os
  tape:v'.w.tape=v.w.tape
  output:v'.w.output=v.w.output
  size:v.w.heap.size≤v'.w.heap.size
  block:∀ b,b<v.w.heap.size→b ∉ H.map Prod.fst→v'.w.heap[b]? = v.w.heap[b]?
  imUp:∀ b,v.im b→v'.im b
  imNew:∀ b,v'.im b→v.im b∨b∈H.map Prod.fst∨v.w.heap.size≤b
  hNew:∀ b,b∈H'.map Prod.fst→b∈H.map Prod.fst∨v.w.heap.size≤b
  sl:v'.sl=v.sl
  dr:v.sl∨v.w.drawn≤v'.w.drawn
structure Vw.le (v v':Vw):Prop where
  imUp:∀ b,v.im b→v'.im b
  block:∀ b,v.im b→v'.w.heap[b]? = v.w.heap[b]?
  sl:v'.sl=v.sl
structure Fct where
  p:Vw→Prop
  mono:∀ v v',v.le v'→p v→p v'
def Z_:List Fct→Vw→Prop
  | [],_=>True
  | f::l,v=>f.p v∧Z_ l v
theorem eR_ {a b:List Fct} {v:Vw}:Z_ (a++b) v↔Z_ a v∧Z_ b v:=by
  induction a with
  | nil=>simp[Z_]
  | cons f l ih=>simp[Z_,ih,and_assoc]
theorem ao_ {l:List Fct} {v d:Vw} (h:v.le d):Z_ l v→Z_ l d:=by
  induction l with
  | nil=>exact fun _=>trivial
  | cons f l ih=>exact fun⟨a,b⟩=>⟨f.mono _ _ h a,ih b⟩
theorem Vw.to.le {v k:Vw} {H H':Hp} (d:v.sat H) (h:v.to H k H'):v.le k :=
  ⟨h.imUp,fun b e=>h.block b (d.lt b e) (fun hm=>by
    obtain⟨p,m,rfl⟩:=List.mem_map.1 hm;exact (d.own p m).2 e),h.sl⟩
theorem Vw.to.refl (v:Vw) (H:Hp):v.to H v H :=
  ⟨rfl,rfl,rfl,Nat.le_refl _,fun _ _ _=>rfl,fun _ h=>h,fun _ h=>.inl h,fun _ h=>.inl h,rfl,.inr (Nat.le_refl _)⟩
theorem Vw.to.trans {a b c:Vw} {v y Hc:Hp} (h:a.to v b y) (k:b.to y c Hc):a.to v c Hc where
 os:=k.os.trans h.os
 tape:=k.tape.trans h.tape
 output:=k.output.trans h.output
 size:=Nat.le_trans h.size k.size
 block:=fun x e q=>by
   rw[k.block x (Nat.lt_of_lt_of_le e h.size) (fun hm=>(h.hNew x hm).elim q (fun hl=>by omega))];exact h.block x e q
 imUp:=fun x e=>k.imUp x (h.imUp x e)
 imNew:=fun x e=>by
   rcases k.imNew x e with d|d|d
   · exact h.imNew x d
   · exact .inr (h.hNew x d)
   · exact .inr (.inr (Nat.le_trans h.size d))
 hNew:=fun x e=>by
   rcases k.hNew x e with d|d
   · exact h.hNew x d
   · exact .inr (Nat.le_trans h.size d)
 sl:=k.sl.trans h.sl
 dr:=by
   rcases h.dr with d|d
   · exact .inl d
   · rcases k.dr with m|m
     · exact .inl (by rw[← h.sl];exact m)
     · exact .inr (Nat.le_trans d m)
theorem Vw.to.frame {v I:Vw} {H H' F:Hp} (J:v.sat (H++F)) (A:I.sat H') (h:v.to H I H') :
    I.sat (H'++F)∧v.to (H++F) I (H'++F):=by
  have q:=J.nodup;rw[List.map_append,List.nodup_append]at q;have L:∀ p,p∈F→p.1 ∉ H.map Prod.fst:=fun p k hm=>q.2.2 _ hm _ (List.mem_map_of_mem k) rfl
  have m:∀ p,p∈F→p.1<v.w.heap.size:=fun p k=>by
    have:=(J.own p (List.mem_append_right _ k)).1;exact (Array.getElem?_eq_some_iff.1 this).1
  have E:∀ p,p∈F→p.1 ∉ H'.map Prod.fst:=fun p k hm=>by
    rcases h.hNew _ hm with d|d
    · exact L p k d
    · have:=m p k;omega
  refine⟨⟨fun p k=>?_,?_,A.lt⟩,?_⟩
  · rcases List.mem_append.1 k with d|d
    · exact A.own p d
    · have B:=J.own p (List.mem_append_right _ d)
      refine⟨by rw[h.block _ (m p d) (L p d)];exact B.1,fun hi=>?_⟩;rcases h.imNew _ hi with G|G|G
      · exact B.2 G
      · exact L p d G
      · have:=m p d;omega
  · rw[List.map_append,List.nodup_append]
    refine⟨A.nodup,q.2.1,fun x M y Q e=>?_⟩;subst e;obtain⟨p,k,rfl⟩:=List.mem_map.1 Q;exact E p k M
  · refine⟨h.os,h.tape,h.output,h.size,fun b C O=>h.block b C (fun hm=>O ?_),h.imUp,fun b C=>?_,fun b C=>?_,h.sl,h.dr⟩
    · rw[List.map_append];exact List.mem_append_left _ hm
    · rcases h.imNew b C with d|d|d
      · exact .inl d
      · exact .inr (.inl (by rw[List.map_append];exact List.mem_append_left _ d))
      · exact .inr (.inr d)
    · rw[List.map_append]at C ⊢
      rcases List.mem_append.1 C with d|d
      · rcases h.hNew b d with B|B
        · exact .inl (List.mem_append_left _ B)
        · exact .inr B
      · exact .inl (List.mem_append_right _ d)
theorem Vw.sat.perm {v:Vw} {H H':Hp} (h:v.sat H) (p:H.Perm H'):v.sat H' :=
  ⟨fun x d=>h.own x (p.mem_iff.2 d),(p.map _).nodup_iff.1 h.nodup,h.lt⟩
theorem Vw.sat.sub {v:Vw} {H F:Hp} (h:v.sat (H++F)):v.sat H :=
  ⟨fun x d=>h.own x (List.mem_append_left _ d),by have:=h.nodup;rw[List.map_append,List.nodup_append]at this;exact this.1,h.lt⟩
theorem Vw.to.permL {v k:Vw} {H K H':Hp} (h:v.to H k H') (p:H.Perm K):v.to K k H':=by
  have e:∀ b,b∈H.map Prod.fst↔b∈K.map Prod.fst:=fun b=>(p.map _).mem_iff
  exact⟨h.os,h.tape,h.output,h.size,fun b d m=>h.block b d (fun hm=>m ((e b).1 hm)),h.imUp,
    fun b d=>(h.imNew b d).imp id (Or.imp (e b).1 id),fun b d=>(h.hNew b d).imp (e b).1 id,h.sl,h.dr⟩
theorem Vw.to.subR {v d:Vw} {H H' K:Hp} (h:v.to H d H') (p:∀ b,b∈K.map Prod.fst→b∈H'.map Prod.fst):v.to H d K :=
  ⟨h.os,h.tape,h.output,h.size,h.block,h.imUp,h.imNew,fun b e=>h.hNew b (p b e),h.sl,h.dr⟩
def Ok (N:Nf) (v0:Vw) (H0:Hp) (k:Act→World→Prop) (fr:Fr) (H:Hp) (Γ:List Fct):Prop :=
  ∀ a v,Fr.sat N fr a→v.sat H→v0.to H0 v H→Z_ Γ v→k a v.w
inductive Kt where
  | seq (c:Code)
  | blk (id:Nat)
  | inv (J:Act→World→Prop)
def post (P:Program) (R:Exit→Act→World→Prop):List Kt→Exit→Act→World→Prop
  | [],e,a,w=>R e a w
  | .seq c::K,.normal,a,w=>c.wp P (post P R K) a w
  | .seq _::K,e,a,w=>post P R K e a w
  | .inv J::_,.normal,a,w=>J a w
  | .inv _::K,e,a,w=>post P R K e a w
  | .blk id::K,.exit id',a,w=>if id'=id then post P R K .normal a w else post P R K (.exit id') a w
  | .blk _::K,e,a,w=>post P R K e a w
theorem vL_ (P:Program) (R:Exit→Act→World→Prop) (K:List Kt) (a:Act) (w:World) (h:R .ret a w):post P R K .ret a w:=by
  induction K with
  | nil=>exact h
  | cons x K ih=>cases x<;>exact ih
def unw (id:Nat):List Kt→Option (List Kt)
  | []=>none
  | .blk i::K=>bif Nat.beq id i then some K else unw id K
  | .seq _::K=>unw id K
  | .inv _::K=>unw id K
theorem iQ_ {P:Program} {R:Exit→Act→World→Prop} {d:Nat} {k:List Kt} {a:Act} {w:World} :
    ∀ {K:List Kt},unw d K=some k→post P R k .normal a w→post P R K (.exit d) a w
  | [],h,_=>by simp[unw]at h
  | .seq _::K,h,hp=>iQ_ (K:=K) (by simpa [unw] using h) hp
  | .inv _::K,h,hp=>iQ_ (K:=K) (by simpa [unw] using h) hp
  | .blk i::K,h,hp=>by
    simp only[unw]at h
    by_cases e:d=i
    · subst e
      simp only[Nat.beq_refl,cond_true,Option.some.injEq]at h;subst h;simp only[post,if_true];exact hp
    · have:Nat.beq d i=false:=by
        cases hb:Nat.beq d i
        · rfl
        · exact absurd (Nat.eq_of_beq_eq_true hb) e
      rw[this,cond_false]at h;simp only[post,e,if_false];exact iQ_ h hp
def nxt:List Kt→Option (Code×List Kt)
  | .seq c::K=>some (c,K)
  | .blk _::K=>nxt K
  | _=>none
theorem oA_ {P:Program} {R:Exit→Act→World→Prop} {c:Code} {d:List Kt} {a:Act} {w:World} :
    ∀ {K:List Kt},nxt K=some (c,d)→c.wp P (post P R d) a w→post P R K .normal a w
  | [],h,_=>by simp[nxt]at h
  | .seq _::K,h,hp=>by simp only[nxt,Option.some.injEq,Prod.mk.injEq]at h;obtain⟨rfl,rfl⟩:=h;exact hp
  | .blk _::K,h,hp=>oA_ (K:=K) (by simpa [nxt] using h) hp
  | .inv _::K,h,_=>by simp[nxt]at h
def jF_:List Kt→Option (Act→World→Prop)
  | .inv J::_=>some J
  | .blk _::K=>jF_ K
  | _=>none
theorem qE_ {P:Program} {R:Exit→Act→World→Prop} {J:Act→World→Prop} {a:Act} {w:World} :
    ∀ {K:List Kt},jF_ K=some J→J a w→post P R K .normal a w
  | [],h,_=>by simp[jF_]at h
  | .inv _::K,h,hp=>by simp only[jF_,Option.some.injEq]at h;subst h;exact hp
  | .blk _::K,h,hp=>qE_ (K:=K) (by simpa [jF_] using h) hp
  | .seq _::K,h,_=>by simp[jF_]at h
def ge_:List Kt→Bool
  | []=>true
  | .blk _::K=>ge_ K
  | _=>false
theorem qF_ {P:Program} {R:Exit→Act→World→Prop} {a:Act} {w:World} :
    ∀ {K:List Kt},ge_ K=true→R .normal a w→post P R K .normal a w
  | [],_,hp=>hp
  | .inv _::K,h,_=>by simp[ge_]at h
  | .blk _::K,h,hp=>qF_ (K:=K) (by simpa [ge_] using h) hp
  | .seq _::K,h,_=>by simp[ge_]at h
section code
variable {P:Program} {N:Nf} {v0:Vw} {H0:Hp} {R:Exit→Act→World→Prop} {K:List Kt} {fr:Fr} {H:Hp} {Γ:List Fct}
abbrev Run (P:Program) (R:Exit→Act→World→Prop) (N:Nf) (v0:Vw) (H0:Hp) (c:Code) (K:List Kt) (fr:Fr) (H:Hp) (Γ:List Fct):Prop :=
  Ok N v0 H0 (c.wp P (post P R K)) fr H Γ
abbrev Fin (P:Program) (R:Exit→Act→World→Prop) (N:Nf) (v0:Vw) (H0:Hp) (K:List Kt) (fr:Fr) (H:Hp) (Γ:List Fct):Prop :=
  Ok N v0 H0 (post P R K .normal) fr H Γ
abbrev Ops (P:Program) (R:Exit→Act→World→Prop) (N:Nf) (v0:Vw) (H0:Hp) (ops:Array Oper) (l:List Oper) (K:List Kt) (fr:Fr) (H:Hp) (Γ:List Fct):Prop :=
  Ok N v0 H0 (wpList P ops (post P R K) l) fr H Γ
theorem be_ {x y:Code} (h:Run P R N v0 H0 x (.seq y::K) fr H Γ):Run P R N v0 H0 (.seq x y) K fr H Γ :=
  fun a v q m d A=>wp_seq (wp_mono (h a v q m d A) fun e a w k=>by cases e<;>exact k)
theorem gV_ {d:Nat} {c:Code} (h:Run P R N v0 H0 c (.blk d::K) fr H Γ):Run P R N v0 H0 (.block d c) K fr H Γ :=
  fun a v x q k y=>wp_block (wp_mono (h a v x q k y) fun e a w m=>by cases e<;>exact m)
theorem gU_ (h:Fin P R N v0 H0 K fr H Γ):Run P R N v0 H0 .skip K fr H Γ :=
  fun a v e k d m=>wp_skip (h a v e k d m)
theorem mV_ {d:Nat} {e:List Kt} (y:unw d K=some e) (h:Fin P R N v0 H0 e fr H Γ):Run P R N v0 H0 (.exit d) K fr H Γ :=
  fun a v q m k x=>wp_exit (iQ_ y (h a v q m k x))
theorem iP_ (h:Ok N v0 H0 (R .ret) fr H Γ):Run P R N v0 H0 .ret K fr H Γ :=
  fun a v e k d m=>wp_ret (vL_ P R K a v.w (h a v e k d m))
theorem aZ_ {c:Code} {d:List Kt} (k:nxt K=some (c,d)) (h:Run P R N v0 H0 c d fr H Γ):Fin P R N v0 H0 K fr H Γ :=
  fun a v q m e x=>oA_ k (h a v q m e x)
theorem fO_ {J:Act→World→Prop} (e:jF_ K=some J) (h:Ok N v0 H0 J fr H Γ):Fin P R N v0 H0 K fr H Γ :=
  fun a v m k d q=>qE_ e (h a v m k d q)
theorem yw_ (e:ge_ K=true) (h:Ok N v0 H0 (R .normal) fr H Γ):Fin P R N v0 H0 K fr H Γ :=
  fun a v m k d q=>qF_ e (h a v m k d q)
theorem aG_ {k:Nat} {l:List Oper} (h:Ops P R N v0 H0 l.toArray l K fr H Γ):Run P R N v0 H0 (.region k l.toArray false) K fr H Γ :=
  fun a v m e d q=>wp_region_lit (h a v m e d q)
theorem bq_ {d:Array Oper} (h:Fin P R N v0 H0 K fr H Γ):Ops P R N v0 H0 d [] K fr H Γ :=
  fun a v m k e q=>wpList_nil (h a v m k e q)
def Fr.ev (fr:Fr):Operand→Option Value
  | .tmp t=>Fr.get fr t
  | .const v=>some v
  | .global g=>some (.pointer (some ⟨g,0,none⟩))
  | .func f=>some (.func (.func f) #[] #[])
theorem Fr.sat.ev {a:Act} {x:Operand} {v:Value} (h:Fr.sat N fr a) (d:Fr.ev fr x=some v):a.eval x=v:=by
  cases x with
  | tmp t=>have:=h.val t v d;simp[Act.eval,this]
  | const c=>simpa [Fr.ev,Act.eval] using d
  | global g=>simpa [Fr.ev,Act.eval] using d
  | func f=>simpa [Fr.ev,Act.eval] using d
theorem Fr.sat.put {a:Act} {d:Nat} {x:Value} (h:Fr.sat N fr a) (y:Nat.blt d N.n=true):Fr.sat N ((d,x)::fr) (a.put (some d) x):=by
 have q:d<N.n:=by simpa [Nat.blt_eq] using y
 refine⟨by simp[Act.put,h.size],h.defers,fun t v k=>?_⟩;simp only[Fr.get]at k
 by_cases e:d=t
 ·subst e
  simp only[Nat.beq_refl,cond_true,Option.some.injEq]at k;subst k;simp[Act.put,Array.getElem?_setIfInBounds,h.size,q]
 have m:Nat.beq d t=false:=by
   cases m:Nat.beq d t
   · rfl
   · exact absurd (Nat.eq_of_beq_eq_true m) e
 rw[m,cond_false]at k;simp only[Act.put];rw[Array.getElem?_setIfInBounds_ne e];exact h.val t v k
theorem yb_ {k:Act→World→Prop} (d:Fr) (y:∀ t v,Fr.get d t=some v→Fr.get fr t=some v) (h:Ok N v0 H0 k d H Γ):Ok N v0 H0 k fr H Γ :=
  fun a v e A m B=>h a v ⟨e.size,e.defers,fun t x q=>e.val t x (y t x q)⟩ A m B
def Fr.le:Fr→Fr→Prop
  | [],_=>True
  | (t,v)::r,fr=>Fr.get fr t=some v∧Fr.le r fr
theorem Fr.le_get {d fr:Fr} (h:Fr.le d fr):∀ t v,Fr.get d t=some v→Fr.get fr t=some v:=by
 induction d with
 | nil=>intro t v k;simp[Fr.get]at k
 | cons p r ih =>
   obtain⟨s,u⟩:=p;intro t v k;simp only[Fr.get]at k
   by_cases e:s=t
   · subst e
     simp only[Nat.beq_refl,cond_true,Option.some.injEq]at k;subst k;exact h.1
   · have m:Nat.beq s t=false:=by
       cases m:Nat.beq s t
       · rfl
       · exact absurd (Nat.eq_of_beq_eq_true m) e
     rw[m,cond_false]at k;exact ih h.2 t v k
theorem bs_ {k:Act→World→Prop} (d:Fr) (e:Fr.le d fr) (h:Ok N v0 H0 k d H Γ):Ok N v0 H0 k fr H Γ :=
  yb_ d (Fr.le_get e) h
theorem dK_ {k:Act→World→Prop} {H' F:Hp} {Γ':List Fct} (d:H.Perm (H'++F)) (y:∀ v,v.sat H→Z_ Γ v→Z_ Γ' v) (h:Ok N v0 H0 k fr H' Γ'):Ok N v0 H0 k fr H Γ :=
  fun a v A e m q=>h a v A (e.perm d).sub (m.subR fun b x=>by
    have:b∈(H'++F).map Prod.fst:=by rw[List.map_append];exact List.mem_append_left _ x
    exact (d.map Prod.fst).mem_iff.2 this) (y v e q)
theorem no_ {k:Act→World→Prop} {Γ':List Fct} (m:∀ v,v.sat H→Z_ Γ v→Z_ Γ' v) (h:Ok N v0 H0 k fr H Γ'):Ok N v0 H0 k fr H Γ :=
  fun a v q d e x=>h a v q d e (m v d x)
theorem vS_ {k:Act→World→Prop} {p:Prop} (q:∀ v,v.sat H→Z_ Γ v→p) (h:p→Ok N v0 H0 k fr H Γ):Ok N v0 H0 k fr H Γ :=
  fun a v x d m e=>h (q v d e) a v x d m e
theorem qv_ {c:Operand} {x y:Code} {t:Bool} (q:Fr.ev fr c=some (.bool t)) (A:t=true→Run P R N v0 H0 x K fr H Γ) (B:t=false→Run P R N v0 H0 y K fr H Γ) :
    Run P R N v0 H0 (.cond c x y) K fr H Γ :=
  fun a v d k h m=>wp_cond_split (d.ev q) (fun e=>A e a v d k h m) (fun e=>B e a v d k h m)
theorem bX_ {c:Operand} {x y:Code} (d:Fr.ev fr c=some (.bool true)) (h:Run P R N v0 H0 x K fr H Γ):Run P R N v0 H0 (.cond c x y) K fr H Γ :=
  qv_ d (fun _=>h) (fun e=>by cases e)
theorem fe_ {c:Operand} {x y:Code} (d:Fr.ev fr c=some (.bool false)) (h:Run P R N v0 H0 y K fr H Γ):Run P R N v0 H0 (.cond c x y) K fr H Γ :=
  qv_ d (fun e=>by cases e) (fun _=>h)
def xj_ {ι:Type} (N:Nf) (v0:Vw) (H0:Hp) (frs:ι→Fr) (Hs:ι→Hp) (Γs:ι→List Fct) (μ:ι→Nat) (n:Nat) (a:Act) (w:World):Prop :=
  ∃ j v,v.w=w∧Fr.sat N (frs j) a∧v.sat (Hs j)∧v0.to H0 v (Hs j)∧Z_ (Γs j) v∧μ j<n
theorem bR_ {ι:Type} {c:Code} (d:ι→Fr) (Hs:ι→Hp) (q:ι→List Fct) (μ:ι→Nat) (m:ι)
    (h:∀ i,Run P R N v0 H0 c (.inv (xj_ N v0 H0 d Hs q μ (μ i))::K) (d i) (Hs i) (q i)) :
    Run P R N v0 H0 (.loop c) K (d m) (Hs m) (q m):=by
  intro a v E M C O;refine wp_loop_ghost (fun n a w=>∃ i v,v.w=w∧Fr.sat N (d i) a∧v.sat (Hs i)∧v0.to H0 v (Hs i)∧Z_ (q i) v∧μ i=n) (μ m) ⟨m,v,rfl,E,M,C,O,rfl⟩ ?_;rintro n a w ⟨i,v,rfl,G,I,L,J,rfl⟩;refine wp_mono (h i a v G I L J) fun e Q w' k=>?_;cases e with
  | normal =>
    obtain⟨j,F,A,k1,k2,B,y,x⟩:=k;exact⟨μ j,x,j,F,A,k1,k2,B,y,rfl⟩
  | exit id=>exact k
  | goto l=>exact k
  | ret=>exact k
  | panic ch=>exact k
  | outgrown=>exact k
theorem M_ {ι:Type} {c:Code} (d:ι→Fr) (Hs:ι→Hp) (h:ι→List Fct) (μ:ι→Nat) (k:ι) {F:Hp} (m:Fr.le (d k) fr) (x:H.Perm (Hs k++F)) (q:∀ v,v.sat H→Z_ Γ v→Z_ (h k) v)
    (e:∀ i,Run P R N v0 H0 c (.inv (xj_ N v0 H0 d Hs h μ (μ i))::K) (d i) (Hs i) (h i)):Run P R N v0 H0 (.loop c) K fr H Γ :=
  bs_ _ m (dK_ x q (bR_ d Hs h μ k e))
theorem w_ {ι:Type} {d:ι→Fr} {Hs:ι→Hp} {h:ι→List Fct} {μ:ι→Nat} {n:Nat} (j:ι) {F:Hp} (m:μ j<n) (e:Fr.le (d j) fr) (B:H.Perm (Hs j++F))
    (y:∀ v,v.sat H→Z_ Γ v→Z_ (h j) v):Ok N v0 H0 (xj_ N v0 H0 d Hs h μ n) fr H Γ :=
  bs_ (d j) e (dK_ B y fun _ v A q k x=>⟨j,v,rfl,A,q,k,x,m⟩)
end code
end Go.Sx
namespace Go.Sx
open Go
section ops
variable {P:Program} {N:Nf} {v0:Vw} {H0:Hp} {R:Exit→Act→World→Prop} {K:List Kt} {fr:Fr} {H:Hp} {Γ:List Fct}
variable {ops:Array Oper} {l:List Oper} {d:Nat} {ty:TypeId} {ps:String} {af:Array Edge}
theorem cq_ {o:Oper} (k:o.guard=none) (h:∀ a v,Fr.sat N fr a→v.sat H→v0.to H0 v H→Z_ Γ v→o.wp P a v.w (wpList P ops (post P R K) l) (post P R K)) :
    Ops P R N v0 H0 ops (o::l) K fr H Γ :=
  fun a v q x e y=>wpList_plain k fun A m=>Oper.wp_mono m (h a v q x e y)
def Yld (P:Program) (N:Nf) (fr:Fr) (H:Hp) (Γ:List Fct) (op:Op) (ty:TypeId) (x:Value):Prop :=
  ∀ a v,Fr.sat N fr a→v.sat H→Z_ Γ v→∀ d ps af,(execOp a.eval ⟨d,op,ty,ps,af,none⟩).run P v.w=.ok (.value x) v.w
theorem e_ {e:Op} {x:Value} (A:Yld P N fr H Γ e ty x) (y:Nat.blt d N.n=true)
    (hk:Ops P R N v0 H0 ops l K ((d,x)::fr) H Γ):Ops P R N v0 H0 ops (⟨some d,e,ty,ps,af,none⟩::l) K fr H Γ :=
  cq_ rfl fun a v k h q m=>by
    unfold Oper.wp;rw[A a v k h m (some d) ps af];exact hk _ v (k.put y) h q m
theorem B_ {e:Op} {X:Bool} (h:Yld P N fr H Γ e ty (.bool X)) (k:Nat.blt d N.n=true)
    (hk:∀ r:Bool,X=r→Ops P R N v0 H0 ops l K ((d,.bool r)::fr) H Γ):Ops P R N v0 H0 ops (⟨some d,e,ty,ps,af,none⟩::l) K fr H Γ :=
  e_ h k (hk X rfl)
def iC_ (ops:Array Oper) (j:Nat):Option Nat:=(ops[j]?).bind (·.dst)
theorem hm_ {a:Act} {j t:Nat} {x:Value} (h:Fr.sat N fr a) (k:iC_ ops j=some t) (m:Fr.get fr t=some x) :
    yielded ops a.tmps j=match x with|.bool b=>some b|_=>none:=by
  have e:((ops[j]?).bind (·.dst)).bind (a.tmps[·]?)=some x:=by
    show (iC_ ops j).bind _=_
    rw[k];exact h.val t x m
  unfold yielded;rw[e];cases x<;>rfl
theorem aQ_ {m:Op} {k:Option Nat} {j t:Nat} {e:Bool} (C:iC_ ops j=some t) (A:Fr.get fr t=some (.bool e))
    (h:Ops P R N v0 H0 ops (⟨k,m,ty,ps,af,none⟩::l) K fr H Γ):Ops P R N v0 H0 ops (⟨k,m,ty,ps,af,some (j,e)⟩::l) K fr H Γ :=
  fun a v x F y B=>by
    have E:Region.wanted (⟨k,m,ty,ps,af,some (j,e)⟩:Oper) (yielded ops a.tmps)=true:=by
      simp[Region.wanted,hm_ x C A]
    have q:Region.wanted (⟨k,m,ty,ps,af,none⟩:Oper) (yielded ops a.tmps)=true:=rfl;have:=h a v x F y B;unfold wpList at this ⊢;rw[if_pos q]at this;rw[if_pos E];exact this
theorem ops_no {k:Op} {j t:Nat} {e:Bool} {x:Value} (C:iC_ ops j=some t) (y:Fr.get fr t=some x) (G:(match x with|.bool b=>Bool.xor b e|_=>true)=true) (A:Nat.blt d N.n=true)
    (h:Ops P R N v0 H0 ops l K ((d,undef)::fr) H Γ):Ops P R N v0 H0 ops (⟨some d,k,ty,ps,af,some (j,e)⟩::l) K fr H Γ :=
  fun a v m F q B=>by
    have E:Region.wanted (⟨some d,k,ty,ps,af,some (j,e)⟩:Oper) (yielded ops a.tmps)=false:=by
      simp only[Region.wanted,hm_ m C y];cases x<;>first|rfl|(rename_i b;cases b<;>cases e<;>simp_all)
    exact wpList_skip E (h _ v (m.put A) F q B)
theorem al_ {x:Operand} {u:Value} (e:Fr.ev fr x=some u) :
    Yld P N fr H Γ (.move x) ty (u) :=
  fun a v h _ _ _ _ _=>by rw[← h.ev e];rfl
theorem az_ {x:Operand} {u:Value} (e:Fr.ev fr x=some u) :
    Yld P N fr H Γ (.assign x) ty (u) :=
  fun a v h _ _ _ _ _=>by rw[← h.ev e];rfl
theorem cg_ {c x y:Operand} {u:Value} (h:Fr.ev fr c=some (.bool true)) (k:Fr.ev fr x=some u) :
    Yld P N fr H Γ (.pick c x y) ty (u) :=
  fun a v e _ _ _ _ _=>by simp[execOp,e.ev h,e.ev k,asBool]
theorem mE_ {c x y:Operand} {u:Value} (h:Fr.ev fr c=some (.bool false)) (k:Fr.ev fr y=some u) :
    Yld P N fr H Γ (.pick c x y) ty (u) :=
  fun a v e _ _ _ _ _=>by simp[execOp,e.ev h,e.ev k,asBool]
theorem bt_ {t A:TypeId} {x y:Operand} {k:IntKind} {m n:Int} (h:Fr.ev fr x=some (.int k m)) (q:Fr.ev fr y=some (.int k n)) :
    Yld P N fr H Γ (.binOp .eql t x y A) ty (.bool ((m==n))) :=
  fun a v e _ _ _ _ _=>by simp[execOp,e.ev h,e.ev q,eqGuard,binOp,Op.intCmp]
theorem ce_ {t A:TypeId} {x y:Operand} {k:IntKind} {m n:Int} (h:Fr.ev fr x=some (.int k m)) (q:Fr.ev fr y=some (.int k n)) :
    Yld P N fr H Γ (.binOp .neq t x y A) ty (.bool ((m != n))) :=
  fun a v e _ _ _ _ _=>by simp[execOp,e.ev h,e.ev q,eqGuard,binOp,Op.intCmp]
theorem dc_ {t A:TypeId} {x y:Operand} {k:IntKind} {m n:Int} (h:Fr.ev fr x=some (.int k m)) (q:Fr.ev fr y=some (.int k n)) :
    Yld P N fr H Γ (.binOp .lss t x y A) ty (.bool (decide (m<n))) :=
  fun a v e _ _ _ _ _=>by simp[execOp,e.ev h,e.ev q,eqGuard,binOp,Op.intCmp]
theorem dj_ {t A:TypeId} {x y:Operand} {k:IntKind} {m n:Int} (h:Fr.ev fr x=some (.int k m)) (q:Fr.ev fr y=some (.int k n)) :
    Yld P N fr H Γ (.binOp .leq t x y A) ty (.bool (decide (m≤n))) :=
  fun a v e _ _ _ _ _=>by simp[execOp,e.ev h,e.ev q,eqGuard,binOp,Op.intCmp]
theorem dA_ {t A:TypeId} {x y:Operand} {k:IntKind} {m n:Int} (h:Fr.ev fr x=some (.int k m)) (q:Fr.ev fr y=some (.int k n)) :
    Yld P N fr H Γ (.binOp .gtr t x y A) ty (.bool (decide (n<m))) :=
  fun a v e _ _ _ _ _=>by simp[execOp,e.ev h,e.ev q,eqGuard,binOp,Op.intCmp]
theorem eH_ {t A:TypeId} {x y:Operand} {k:IntKind} {m n:Int} (h:Fr.ev fr x=some (.int k m)) (q:Fr.ev fr y=some (.int k n)) :
    Yld P N fr H Γ (.binOp .geq t x y A) ty (.bool (decide (n≤m))) :=
  fun a v e _ _ _ _ _=>by simp[execOp,e.ev h,e.ev q,eqGuard,binOp,Op.intCmp]
def ww_:BinOp→Int→Int→Option Int
  | .add,a,b=>some (a+b)
  | .sub,a,b=>some (a - b)
  | .mul,a,b=>some (a*b)
  | _,_,_=>none
theorem bc_ {e:BinOp} {t E:TypeId} {x y:Operand} {k:IntKind} {m n r:Int} (A:Fr.ev fr x=some (.int k m)) (B:Fr.ev fr y=some (.int k n)) (q:ww_ e m n=some r) (C:k.wrap r=r) :
    Yld P N fr H Γ (.binOp e t x y E) ty (.int k r) :=
  fun a v h _ _ _ _ _=>by
    cases e<;>simp only[ww_,Option.some.injEq,reduceCtorEq]at q<;>subst q <;>
      simp[execOp,h.ev A,h.ev B,eqGuard,binOp,Op.intArith,C]
theorem cm_ {r:Int} (e:-9223372036854775808≤r) (h:r≤9223372036854775807):IntKind.wrap .i64 r=r:=by
  exact IntWalk.i64_in r ⟨e,h⟩
theorem aw_ {x:Operand} {t:TypeId} {b:Bool} (e:Fr.ev fr x=some (.bool b)) :
    Yld P N fr H Γ (.unOp .not t x) ty (.bool !b) :=
  fun a v h _ _ _ _ _=>by simp[execOp,h.ev e,Op.unary]
def lg:List Value→Nat→Option Value
  | [],_=>none
  | x::_,0=>some x
  | _::r,n+1=>lg r n
theorem lg_eq:∀ (c:List Value) (i:Nat),lg c i=c[i]?
  | [],i=>by simp[lg]
  | x::r,0=>rfl
  | x::r,n+1=>by simpa [lg] using lg_eq r n
def pv_:List Value→Nat→Nat→Option (List Value)
  | _,_,0=>some []
  | c,off,n+1=>match lg c off with
    | some x=>match pv_ c (off+1) n with
      | some r=>some (x::r)
      | none=>none
    | none=>none
theorem oN_:∀ (n off:Nat) (c r:List Value),pv_ c off n=some r→r.length=n∧∀ j v,r[j]? = some v→c[off+j]? = some v
 | 0,off,c,r,h=>by simp only[pv_,Option.some.injEq]at h;subst h;exact⟨rfl,by simp⟩
 | n+1,off,c,r,h=>by
   simp only[pv_]at h
   split at h
   · rename_i x k
     split at h
     · rename_i q m
       simp only[Option.some.injEq]at h;subst h;obtain⟨A,y⟩:=oN_ n (off+1) c q m;refine⟨by simp[A],fun j v e=>?_⟩;cases j with
       | zero=>simp only[List.getElem?_cons_zero,Option.some.injEq]at e;subst e;rw[← lg_eq];exact k
       | succ j=>rw[show off+(j+1)=off+1+j by omega];exact y j v zag_
     · cases h
   · cases h
theorem cp_ (b off n:Nat):(⟨b,off,none⟩:Addr).add n=⟨b,off+n,none⟩:=by unfold Addr.add;split<;>simp_all
theorem cG_ {t:TypeId} {w:World} {ad:Addr} {x:Value} (h:∀ w,(isAgg t).run P w=.ok false w) (e:w.cell? ad=some x):(loadVar t ad).run P w=.ok x w:=by
  simp[loadVar,h,e]
theorem dM_ {t:TypeId} {w:World} {b off n:Nat} {cs:List Value} (m:∀ w,(isAgg t).run P w=.ok true w) (k:∀ w,(sizeOf t).run P w=.ok n w) (h:cs.length=n)
    (e:∀ j v,cs[j]? = some v→w.cell? ⟨b,off+j,none⟩=some v):(loadVar t ⟨b,off,none⟩).run P w=.ok (.agg cs.toArray) w:=by
  have:=run_loadCells_list (P:=P) w ⟨b,off,none⟩ cs (fun j v q=>by rw[cp_];exact e j v q);rw[h]at this;simp[loadVar,m,k,this]
theorem gb_ {v:Vw} {i b:Nat} {cur:Array Value} {T:TypeId} {fz:Nat×Nat} (h:v.sat H) (hi:H[i]? = some (b,.cells cur T fz)) (j:Nat):v.w.cell? ⟨b,j,none⟩=cur.toList[j]? := by
  have:=(h.own _ (List.mem_of_getElem? hi)).1;simp[World.cell?,this]
theorem aE_ {t:TypeId} {x:Operand} {b off:Nat} (i:Nat) {cur:Array Value} {T:TypeId} {fz:Nat×Nat} {u:Value} (k:∀ w,(isAgg t).run P w=.ok false w)
    (e:Fr.ev fr x=some (.pointer (some ⟨b,off,none⟩))) (hi:H[i]? = some (b,.cells cur T fz)) (q:lg cur.toList off=some u) :
    Yld P N fr H Γ (.load t x) ty (u) :=
  fun a v m h _ _ _ _=>by
    have:=cG_ (P:=P) (w:=v.w) k (show v.w.cell? ⟨b,off,none⟩=some u by rw[gb_ h hi,← lg_eq];exact q);simp[execOp,m.ev e,Instr.loadAt,Instr.sureAddr,this]
theorem bE_ {t:TypeId} {x:Operand} {b off n:Nat} (i:Nat) {cur:Array Value} {T:TypeId} {fz:Nat×Nat} {us:List Value} (h:∀ w,(isAgg t).run P w=.ok true w) (e:∀ w,(sizeOf t).run P w=.ok n w)
    (C:Fr.ev fr x=some (.pointer (some ⟨b,off,none⟩))) (hi:H[i]? = some (b,.cells cur T fz)) (B:pv_ cur.toList off n=some us) :
    Yld P N fr H Γ (.load t x) ty (.agg us.toArray) :=
  fun a v E A _ _ _ _=>by
    obtain⟨k,q⟩:=oN_ n off _ _ B;have:=dM_ (P:=P) (w:=v.w) (b:=b) (off:=off) h e k (fun j y m=>by rw[gb_ A hi];exact q j y m);simp[execOp,E.ev C,Instr.loadAt,Instr.sureAddr,this]
theorem gO_ {t:TypeId} {x:Operand} {ad:Addr} {u:Value} (e:Fr.ev fr x=some (.pointer (some ad))) (q:∀ v,v.sat H→Z_ Γ v→(loadVar t ad).run P v.w=.ok u v.w) :
    Yld P N fr H Γ (.load t x) ty (u) :=
  fun a v m h k _ _ _=>by simp[execOp,m.ev e,Instr.loadAt,Instr.sureAddr,q v h k]
theorem fK_ {v:Vw} {w':World} {o:Obj} (h:v.sat H) (y:w'.heap=v.w.heap.push o) (C:w'.os=v.w.os) (G:w'.tape=v.w.tape) (E:w'.output=v.w.output) (F:v.w.drawn≤w'.drawn) :
    (⟨v.im,w',v.sl⟩:Vw).sat ((v.w.heap.size,o)::H)∧v.to H ⟨v.im,w',v.sl⟩ ((v.w.heap.size,o)::H):=by
  have B:∀ k,k<v.w.heap.size→w'.heap[k]? = v.w.heap[k]? := fun k hk=>by rw[y,Array.getElem?_push,if_neg zs_]
  have x:∀ p,p∈H→p.1<v.w.heap.size:=fun p q=>(Array.getElem?_eq_some_iff.1 (h.own p q).1).1
  refine⟨⟨fun p q=>?_,?_,fun b m=>?_⟩,C,G,E,by simp[y],fun b A _=>B b A,fun _ h=>h,fun _ h=>.inl h,fun b m=>?_,rfl,.inr F⟩
  · rcases List.mem_cons.1 q with rfl|q
    · refine⟨by show w'.heap[v.w.heap.size]? = some o;rw[y];simp,fun hi=>?_⟩
      have:=h.lt _ hi;simp at this
    · exact⟨by show w'.heap[p.1]? = _;rw[B _ (x p q)];exact (h.own p q).1,(h.own p q).2⟩
  · rw[List.map_cons,List.nodup_cons]
    refine⟨fun hm=>?_,h.nodup⟩;obtain⟨p,q,e⟩:=List.mem_map.1 hm;have:=x p q;simp at e;omega
  · have:=h.lt b m
    show b<w'.heap.size
    simp[y];omega
  · rw[List.map_cons]at m
    rcases List.mem_cons.1 m with rfl|A
    · exact .inr (Nat.le_refl _)
    · exact .inl A
theorem ni_ {h:Op} {β:Type} {x:β→Nat→Value} {o:β→Obj} (q:β→Prop) (M:Nat.blt d N.n=true)
    (F:∀ a v,Fr.sat N fr a→v.sat H→Z_ Γ v→∃ y w',q y∧(execOp a.eval ⟨some d,h,ty,ps,af,none⟩).run P v.w=.ok (.value (x y v.w.heap.size)) w'∧w'.heap=v.w.heap.push (o y)∧w'.os=v.w.os∧w'.tape=v.w.tape∧w'.output=v.w.output∧v.w.drawn≤w'.drawn)
    (hk:∀ y b,q y→Ops P R N v0 H0 ops l K ((d,x y b)::fr) ((b,o y)::H) Γ):Ops P R N v0 H0 ops (⟨some d,h,ty,ps,af,none⟩::l) K fr H Γ :=
  cq_ rfl fun a v m e L A=>by
    obtain⟨y,w',B,J,I,C,G,Q,E⟩:=F a v m e A;unfold Oper.wp;rw[J];obtain⟨O,k⟩:=fK_ e I C G Q E;exact hk y v.w.heap.size B _ ⟨v.im,w',v.sl⟩ (m.put M) O (L.trans k) (ao_ (k.le e) A)
theorem gy_ {e:Op} {x:Nat→Value} {o:Obj} (h:Nat.blt d N.n=true)
    (m:∀ a v,Fr.sat N fr a→v.sat H→Z_ Γ v→(execOp a.eval ⟨some d,e,ty,ps,af,none⟩).run P v.w=.ok (.value (x v.w.heap.size)) (v.w.alloc o))
    (hk:∀ b,Ops P R N v0 H0 ops l K ((d,x b)::fr) ((b,o)::H) Γ):Ops P R N v0 H0 ops (⟨some d,e,ty,ps,af,none⟩::l) K fr H Γ :=
  ni_ (β:=Unit) (x:=fun _ b=>x b) (o:=fun _=>o) (fun _=>True) h (fun a v k q y=>⟨(),v.w.alloc o,trivial,m a v k q y,rfl,rfl,rfl,rfl,Nat.le_refl _⟩) (fun _ b _=>hk b)
theorem aa_ {t:TypeId} {x:Operand} {u:Value} (e:Fr.ev fr x=some u) (h:Nat.blt d N.n=true)
    (hk:∀ b,Ops P R N v0 H0 ops l K ((d,.pointer (some ⟨b,0,none⟩))::fr) ((b,.cells u.cells t (0,0))::H) Γ):Ops P R N v0 H0 ops (⟨some d,.box t x,ty,ps,af,none⟩::l) K fr H Γ :=
  gy_ (x:=fun b=>.pointer (some ⟨b,0,none⟩)) h (fun a v k _ _=>by simp[execOp,k.ev e,Instr.box,newVar,newRow,newObj];rfl) hk
theorem G_ {t:TypeId} {z:Value} (h:∀ w,(zeroValue t).run P w=.ok z w) (e:Nat.blt d N.n=true)
    (hk:∀ b,Ops P R N v0 H0 ops l K ((d,.pointer (some ⟨b,0,none⟩))::fr) ((b,.cells z.cells t (0,0))::H) Γ):Ops P R N v0 H0 ops (⟨some d,.alloc t,ty,ps,af,none⟩::l) K fr H Γ :=
  gy_ (x:=fun b=>.pointer (some ⟨b,0,none⟩)) e (fun a v k _ _=>by simp[execOp,h,Instr.alloc,newVar,newRow,newObj];rfl) hk
theorem eL_ {v:Vw} {i b:Nat} {o o':Obj} {w':World} (h:v.sat H) (hi:H[i]? = some (b,o)) (L:w'.os=v.w.os) (M:w'.tape=v.w.tape) (W:w'.output=v.w.output) (T:v.w.drawn≤w'.drawn) (F:w'.heap.size=v.w.heap.size)
    (S:w'.heap[b]? = some o') (G:∀ k,k≠b→w'.heap[k]? = v.w.heap[k]?):(⟨v.im,w',v.sl⟩:Vw).sat (H.set i (b,o'))∧v.to H ⟨v.im,w',v.sl⟩ (H.set i (b,o')):=by
  have hm:=List.mem_of_getElem? hi
  have q:(H.set i (b,o')).map Prod.fst=H.map Prod.fst:=by
    rw[List.map_set]
    apply List.ext_getElem?
    intro j;rw[List.getElem?_set]
    split
    · rename_i m;subst m;rw[List.getElem?_map,hi];simp[(List.getElem?_eq_some_iff.1 hi).1]
    · rfl
  refine⟨⟨fun p J=>?_,by rw[q];exact h.nodup,fun x B=>?_⟩,L,M,W,by simp[F],fun x _ U=>G x (fun e=>U ?_),fun _ h=>h,fun _ h=>.inl h,fun x B=>.inl (by rw[q]at B;exact B),rfl,.inr T⟩
  · obtain⟨j,m⟩:=List.getElem?_of_mem J
    rw[List.getElem?_set]at m
    split at m
    · rename_i y
      subst y
      split at m
      · simp only[Option.some.injEq]at m;subst m
        exact⟨S,(h.own _ hm).2⟩
      · cases m
    · rename_i y
      have A:=List.mem_of_getElem? m
      have C:p.1≠b:=fun e=>by
        have E:=h.nodup;have O:(H.map Prod.fst)[i]? = some b:=by simp[hi]
        have Q:(H.map Prod.fst)[j]? = some b:=by simp[m,e]
        obtain⟨X,I⟩:=List.getElem?_eq_some_iff.1 O;obtain⟨Y,V⟩:=List.getElem?_eq_some_iff.1 Q;exact y ((List.getElem_inj E).1 (I.trans V.symm))
      exact⟨by show w'.heap[p.1]? = _;rw[G _ C];exact (h.own p A).1,(h.own p A).2⟩
  · show x<w'.heap.size
    rw[F];exact h.lt x B
  · subst e;exact List.mem_map.2 ⟨_,hm,rfl⟩
theorem u_ {t:TypeId} {x y:Operand} {b off n:Nat} (i:Nat) {cur:Array Value} {T:TypeId} {u:Value} (F:∀ w,(sizeOf t).run P w=.ok n w)
    (L:Fr.ev fr x=some (.pointer (some ⟨b,off,none⟩))) (M:Fr.ev fr y=some u) (hi:H[i]? = some (b,.cells cur T (0,0))) (m:u.cells.size=n) (I:Nat.ble (off+n) cur.size=true) (A:u.cells.toList.all Value.oneCell'=true)
    (hk:Ops P R N v0 H0 ops l K fr (H.set i (b,.cells (cur.toList.take off++u.cells.toList++cur.toList.drop (off+n)).toArray T (0,0))) Γ) :
    Ops P R N v0 H0 ops (⟨none,.store t x y,ty,ps,af,none⟩::l) K fr H Γ :=
  cq_ rfl fun a v q h J O=>by
    have C:=(h.own _ (List.mem_of_getElem? hi)).1;have e:=run_storeCells_at P b off T u.cells.toList 0 cur v.w C (by simp[m];exact Nat.le_of_ble_eq_true I) (fun c E=>List.all_eq_true.1 A c E)
    have G:(execOp a.eval ⟨none,.store t x y,ty,ps,af,none⟩).run P v.w=.ok .skip (v.w.setRow b (cur.toList.take off++u.cells.toList++cur.toList.drop (off+n)).toArray):=by
      simp only[Nat.add_zero,Array.length_toList,m]at e;simp[execOp,q.ev L,q.ev M,Instr.storeAt,Instr.sureAddr,storeVar,F,m,e]
    unfold Oper.wp;rw[G];obtain⟨Q,B⟩:=eL_ (w':=v.w.setRow b (cur.toList.take off++u.cells.toList++cur.toList.drop (off+n)).toArray) h hi rfl rfl rfl (Nat.le_refl _) zB_ (setRow_heap _ _ _ _ _ _ C) (fun k hk=>setRow_other _ _ _ _ hk);exact hk a _ q Q (J.trans B) (ao_ (B.le h) O)
theorem bS_ {s:TypeId} {x:Operand} {f b off o:Nat} {fs:Array Field} {e:Field} {n:Nat} (m:∀ w,(underlying s).run P w=.ok (.struct fs) w) (y:Fr.ev fr x=some (.pointer (some ⟨b,off,none⟩))) (q:fs[f]? = some e) (h:e.offset=o)
    (k:∀ w,(sizeOf e.type).run P w=.ok (n+1) w) :
    Yld P N fr H Γ (.fieldAddr s x f) ty (.pointer (some ⟨b,off+o,none⟩)) :=
  fun a v A B _ _ _ _=>by simp[execOp,A.ev y,Instr.fieldAt,m,q,Instr.sureAddr,fieldPlace,k,cp_,h]
theorem fa_ {t e:TypeId} {x y:Operand} {b off len cap n:Nat} {k:IntKind} {i:Int} (q:∀ w,(underlying t).run P w=.ok (.slice e) w) (m:∀ w,(sizeOf e).run P w=.ok n w)
    (A:Fr.ev fr x=some (.slice (some ⟨b,off,none⟩) len cap)) (B:Fr.ev fr y=some (.int k i)) (C:0≤i) (hl:i<len) :
    Yld P N fr H Γ (.indexAddr t x y) ty (.pointer (some ⟨b,off+i.toNat*n,none⟩)) :=
  fun a v h E _ _ _ _=>by simp[execOp,h.ev A,h.ev B,Instr.indexAt,q,asIntOf,m,cp_,C,hl]
theorem dZ_ {t e:TypeId} {x y:Operand} {b off len n:Nat} {k:IntKind} {i:Int} (q:∀ w,(underlying t).run P w=.ok (.array len e) w) (m:∀ w,(sizeOf e).run P w=.ok n w)
    (A:Fr.ev fr x=some (.pointer (some ⟨b,off,none⟩))) (B:Fr.ev fr y=some (.int k i)) (C:0≤i) (hl:i<len) :
    Yld P N fr H Γ (.indexAddr t x y) ty (.pointer (some ⟨b,off+i.toNat*n,none⟩)) :=
  fun a v h E _ _ _ _=>by simp[execOp,h.ev A,h.ev B,Instr.indexAt,q,asIntOf,m,Instr.sureAddr,cp_,C,hl]
theorem kF_ {x:Operand} {ad:Addr} (e:Fr.ev fr x=some (.pointer (some ad))) :
    Yld P N fr H Γ (.nilCheck x) ty (.pointer (some ad)) :=
  fun a v h k _ _ _ _=>by simp[execOp,h.ev e]
theorem dC_ {x:Operand} {t e:TypeId} {ad:Option Addr} {len cap:Nat} (m:∀ w,(underlying t).run P w=.ok (.slice e) w) (h:Fr.ev fr x=some (.slice ad len cap)) :
    Yld P N fr H Γ (.call ⟨.builtin .len,#[x],#[t]⟩) ty (.int .i64 (len:Int)) :=
  fun a v k q _ _ _ _=>by simp[execOp,resolve,invoke,builtin,Builtin.len_,k.ev h,m,goInt]
theorem bG_ {x:Operand} {i:Nat} {vs:Array Value} {u:Value} (h:Fr.ev fr x=some (.tuple vs)) (e:lg vs.toList i=some u) :
    Yld P N fr H Γ (.extract x i) ty (u) :=
  fun a v k m _ _ _ _=>by
    rw[lg_eq,Array.getElem?_toList]at e;simp[execOp,k.ev h,Instr.extract,e]
def str (l:List UInt8):Value:=.string ⟨l.toArray⟩
theorem str_of (s:ByteArray):Value.string s=str s.data.toList:=rfl
theorem cX_ {t q:TypeId} {x y:Operand} {m n:List UInt8} (h:Fr.ev fr x=some (str m)) (k:Fr.ev fr y=some (str n)) :
    Yld P N fr H Γ (.binOp .eql t x y q) ty (.bool ((m==n))) :=
  fun a v e _ _ _ _ _=>by simp[execOp,e.ev h,e.ev k,str,eqGuard,binOp,Op.stringOp]
theorem cJ_ {t q:TypeId} {x y:Operand} {m n:List UInt8} (h:Fr.ev fr x=some (str m)) (k:Fr.ev fr y=some (str n)) :
    Yld P N fr H Γ (.binOp .neq t x y q) ty (.bool ((m != n))) :=
  fun a v e _ _ _ _ _=>by simp[execOp,e.ev h,e.ev k,str,eqGuard,binOp,Op.stringOp,bne]
theorem er_ {t A:TypeId} {x y:Operand} {m n:List UInt8} (k:Fr.ev fr x=some (str m)) (q:Fr.ev fr y=some (str n)) (hl:m.length+n.length≤9223372036854775807) :
    Yld P N fr H Γ (.binOp .add t x y A) ty (str (m++n)) :=
  fun a v e _ _ _ _ _=>by
    have h:=run_string_add_sum (P:=P) v.w ⟨m.toArray⟩ ⟨n.toArray⟩ zaI_;rw[ByteArray.mk_append_mk]at h;simp[execOp,e.ev k,e.ev q,str,eqGuard,binOp_string_add,h]
theorem cK_ {x:Operand} {t:TypeId} {m:List UInt8} (k:∀ w,(underlying t).run P w=.ok .string w) (e:Fr.ev fr x=some (str m)) :
    Yld P N fr H Γ (.call ⟨.builtin .len,#[x],#[t]⟩) ty (.int .i64 (m.length:Int)) :=
  fun a v h q _ _ _ _=>by simp[execOp,resolve,invoke,builtin,Builtin.len_,h.ev e,k,goInt,str];rfl
theorem dY_ {x y:Operand} {t:TypeId} {m:List UInt8} {k:IntKind} {i:Int} {c:UInt8} (q:∀ w,(underlying t).run P w=.ok .string w) (A:Fr.ev fr x=some (str m)) (C:Fr.ev fr y=some (.int k i)) (E:0≤i) (e:m[i.toNat]? = some c) :
    Yld P N fr H Γ (.index t x y) ty (.int .u8 (c.toNat:Int)) :=
  fun a v h F _ _ _ _=>by
    have hl:i.toNat<m.length:=(List.getElem?_eq_some_iff.1 e).1
    have B:(⟨m.toArray⟩:ByteArray)[i.toNat]? = some c:=by
      rw[ByteArray.getElem?_lt' _ _ zaI_];have:(⟨m.toArray⟩:ByteArray)[i.toNat]'zaI_=m[i.toNat]:=rfl;rw[this];rw[List.getElem?_eq_getElem hl]at e;exact e
    simp[execOp,Instr.index,h.ev A,h.ev C,asIntOf,q,str,E,B]
def hh_ (P:Program) (f:FuncId):Prop:=∀ args w,(callFunc f args).run P w=.ok (.enter f args) w
theorem callable {f : FuncId} {fn : Func} {c : Code} (h : P.funcs[f]? = some fn) (m : fn.body = some c) (k : (fn.name == "runtime.NumGoroutine") = false) : hh_ P f := by
  intro args w;have e : ¬ fn.name = "runtime.NumGoroutine" := by simpa using k
  simp[callFunc,run_program,h,m,e]
structure Tri (P:Program) (f:FuncId) (args:Array Value) (H:Hp) (Γ:List Fct) {ι:Type} (ret:ι→Value) (H':ι→Hp) (Γ':ι→List Fct):Prop where
  callable:hh_ P f
  run:∀ v,v.sat H→Z_ Γ v→Calls P f args v.w fun e w'=>∃ x v',e=.returned (ret x)∧v'.w=w'∧v'.sat (H' x)∧Z_ (Γ' x) v'∧v.to H v' (H' x)
def Fr.evs (fr:Fr):List Operand→Option (List Value)
  | []=>some []
  | x::r=>match Fr.ev fr x with
    | some v=>match Fr.evs fr r with
      | some vs=>some (v::vs)
      | none=>none
    | none=>none
theorem Fr.sat.evs {a:Act} (h:Fr.sat N fr a):∀ {xs:List Operand} {vs:List Value},Fr.evs fr xs=some vs→xs.map a.eval=vs
 | [],vs,e=>by simp only[Fr.evs,Option.some.injEq]at e;subst e;rfl
 | x::r,vs,e=>by
   simp only[Fr.evs]at e
   split at e
   · rename_i u m
     split at e
     · rename_i us k
       simp only[Option.some.injEq]at e;subst e;rw[List.map_cons,h.ev m,h.evs k]
     · cases e
   · cases e
theorem oF_ {m:Op} {f:FuncId} {vs:List Value} {ι:Type} {Hc F:Hp} {y:List Fct} {k:ι→Value} {H':ι→Hp} {Γ':ι→List Fct}
    (S:Tri P f vs.toArray Hc y k H' Γ') (J:∀ a v,Fr.sat N fr a→(execOp a.eval ⟨some d,m,ty,ps,af,none⟩).run P v=.ok (.enter f vs.toArray) v)
    (B:H.Perm (Hc++F)) (O:∀ v,v.sat H→Z_ Γ v→Z_ y v) (M:Nat.blt d N.n=true)
    (hk:∀ x,Ops P R N v0 H0 ops l K ((d,k x)::fr) (H' x++F) (Γ' x++Γ)):Ops P R N v0 H0 ops (⟨some d,m,ty,ps,af,none⟩::l) K fr H Γ :=
  cq_ rfl fun a v A q L C=>by
    unfold Oper.wp;rw[J a v.w A];have h:=q.perm B;refine (S.run v h.sub (O v q C)).mono ?_;rintro e w' ⟨x,Q,rfl,rfl,E,G,I⟩;obtain⟨k1,k2⟩:=I.frame h E;exact hk x _ Q (A.put M) k1 (L.trans (k2.permL B.symm)) (eR_.2 ⟨G,ao_ (k2.le h) C⟩)
theorem g_ {f:FuncId} {q:List Operand} {h:Array TypeId} {vs:List Value} {ι:Type} {Hc F:Hp} {k:List Fct} {e:ι→Value} {H':ι→Hp} {Γ':ι→List Fct}
    (m:Tri P f vs.toArray Hc k e H' Γ') (y:Fr.evs fr q=some vs) (E:H.Perm (Hc++F)) (B:∀ v,v.sat H→Z_ Γ v→Z_ k v) (A:Nat.blt d N.n=true)
    (hk:∀ x,Ops P R N v0 H0 ops l K ((d,e x)::fr) (H' x++F) (Γ' x++Γ)) :
    Ops P R N v0 H0 ops (⟨some d,.call ⟨.value (.func f),q.toArray,h⟩,ty,ps,af,none⟩::l) K fr H Γ :=
  oF_ m (fun a w C=>by
    have:=C.evs y;simp[execOp,resolve,Deferred.ofValue,Act.eval,invoke,this,m.callable _ w]) E B A hk
theorem T_ {f:FuncId} {k:List Operand} {e:Array TypeId} {vs:List Value} {Hc F:Hp} {h:List Fct} {X:Bool}
    (A:Tri P f vs.toArray Hc h (fun _:Unit=>.bool X) (fun _=>Hc) (fun _=>[])) (m:Fr.evs fr k=some vs) (y:H.Perm (Hc++F)) (x:∀ v,v.sat H→Z_ Γ v→Z_ h v) (q:Nat.blt d N.n=true)
    (hk:∀ r:Bool,X=r→Ops P R N v0 H0 ops l K ((d,.bool r)::fr) (Hc++F) Γ) :
    Ops P R N v0 H0 ops (⟨some d,.call ⟨.value (.func f),k.toArray,e⟩,ty,ps,af,none⟩::l) K fr H Γ :=
  g_ A m y x q fun _=>hk X rfl
end ops
section body
variable {P:Program} {N:Nf} {fr:Fr} {H:Hp} {Γ:List Fct}
def kD_ {ι:Type} (v0:Vw) (H0:Hp) (ret:ι→Value) (H':ι→Hp) (Γ':ι→List Fct) (e:Ending) (w':World):Prop :=
  ∃ x v',e=.returned (ret x)∧v'.w=w'∧v'.sat (H' x)∧Z_ (Γ' x) v'∧v0.to H0 v' (H' x)
def kY_ (i:Nat):List Value→Fr
  | []=>[]
  | x::r=>(i,x)::kY_ (i+1) r
theorem jJ_:∀ (l:List Value) (i t:Nat) (v:Value),Fr.get (kY_ i l) t=some v→i≤t∧l[t - i]? = some v
 | [],i,t,v,h=>by simp[kY_,Fr.get]at h
 | x::r,i,t,v,h=>by
   simp only[kY_,Fr.get]at h
   by_cases e:i=t
   · subst e
     simp only[Nat.beq_refl,cond_true,Option.some.injEq]at h;subst h;simp
   · have k:Nat.beq i t=false:=by
       cases k:Nat.beq i t
       · rfl
       · exact absurd (Nat.eq_of_beq_eq_true k) e
     rw[k,cond_false]at h;obtain⟨q,m⟩:=jJ_ r (i+1) t v h;refine⟨by omega,?_⟩;rw[show t - i=(t - (i+1))+1 by omega];simpa using m
theorem i_ {N:Nat} {f:FuncId} {fn:Func} {c:Code} {args:List Value} {ι:Type} {e:ι→Value} {H':ι→Hp} {Γ':ι→List Fct}
    (q : P.funcs[f]? = some fn) (y : fn.body = some c) (E : (fn.name == "runtime.NumGoroutine") = false) (F : fn.ntmps = N) (hl : Nat.ble args.length N = true)
    (h:∀ v0,Run P (bodyPost P fn (kD_ v0 H e H' Γ')) N v0 H c [] (kY_ 0 args) H Γ):Tri P f args.toArray H Γ e H' Γ':=by
  refine⟨callable q y E,fun v G B=>calls_of_wp q y ?_⟩;have C:args.length≤N:=Nat.le_of_ble_eq_true hl;have:=h v ⟨args.toArray++Array.replicate (fn.ntmps - args.toArray.size) undef,[]⟩ v ⟨by simp[F];omega,rfl,fun t x A=>?_⟩ G (Vw.to.refl _ _) B
  · exact this
  · obtain⟨_,m⟩:=jJ_ args 0 t x A
    simp only[Nat.sub_zero]at m;have k:=(List.getElem?_eq_some_iff.1 m).1;rw[Array.getElem?_append_left zax_];simpa using m
theorem ae_ {N:Nat} {fn:Func} {t:Nat} {ι:Type} {v0:Vw} {H0 F:Hp} {ret:ι→Value} {H':ι→Hp} {Γ':ι→List Fct} (k:fn.results=#[.tmp t]) (x:ι) (q:Fr.get fr t=some (ret x)) (A:H.Perm (H' x++F))
    (y:∀ v,v.sat H→Z_ Γ v→Z_ (Γ' x) v):Ok N v0 H0 (bodyPost P fn (kD_ v0 H0 ret H' Γ') .ret) fr H Γ :=
  dK_ A y fun a v e h m B=>⟨e.defers,ret x,by rw[results_tmp k];have:=e.val t _ q;simp[this],x,v,rfl,rfl,h,B,m⟩
theorem kO_ {N:Nat} {fn:Func} {t s:Nat} {ι:Type} {v0:Vw} {H0 F:Hp} {ret:ι→Value} {H':ι→Hp} {Γ':ι→List Fct} {m q:Value} (C:fn.results=#[.tmp t,.tmp s]) (x:ι) (h:Fr.get fr t=some m) (e:Fr.get fr s=some q) (G:.tuple #[m,q]=ret x) (J:H.Perm (H' x++F))
    (I:∀ v,v.sat H→Z_ Γ v→Z_ (Γ' x) v):Ok N v0 H0 (bodyPost P fn (kD_ v0 H0 ret H' Γ') .ret) fr H Γ :=
  dK_ J I fun a v k B E L=>⟨k.defers,ret x,by rw[results_tmp2 C,← G];have y:=k.val t _ h;have A:=k.val s _ e;simp[y,A],x,v,rfl,rfl,B,L,E⟩
theorem n_ {t:Nat} {x y:Bool} (h:Fr.get fr t=some (.bool x)) (e:x=y):Fr.get fr t=some (.bool y):=e▸h
theorem cf_ {t:Nat} {k:IntKind} {x y:Int} (h:Fr.get fr t=some (.int k x)) (e:x=y):Fr.get fr t=some (.int k y):=e▸h
theorem fN_ {t:Nat} {x y:List UInt8} (h:Fr.get fr t=some (str x)) (e:x=y):Fr.get fr t=some (str y):=e▸h
theorem fM_ {t:Nat} {x y:Value} (h:Fr.get fr t=some x) (e:x=y):Fr.get fr t=some y:=e▸h
abbrev Fn0 (P:Program) (f:FuncId) (args:Array Value) (ret:Value):Prop:=Tri P f args [] [] (fun _:Unit=>ret) (fun _=>[]) (fun _=>[])
end body
section cut
variable {P:Program} {N:Nf} {v0:Vw} {H0:Hp} {R:Exit→Act→World→Prop} {K:List Kt} {fr:Fr} {H:Hp} {Γ:List Fct}
def Mid (N:Nf) (v0:Vw) (H0:Hp) {ι:Type} (frs:ι→Fr) (Hs:ι→Hp) (Γs:ι→List Fct) (e:Exit) (a:Act) (w:World):Prop :=
  e=.normal∧∃ i v,v.w=w∧Fr.sat N (frs i) a∧v.sat (Hs i)∧v0.to H0 v (Hs i)∧Z_ (Γs i) v
theorem hu_ {ι:Type} {c:Code} (h:ι→Fr) (Hs:ι→Hp) (k:ι→List Fct) (C:Run P (Mid N v0 H0 h Hs k) N v0 H0 c [] fr H Γ) (A:∀ i,Fin P R N v0 H0 K (h i) (Hs i) (k i)):Run P R N v0 H0 c K fr H Γ:=by
  intro a v G x y q;refine wp_mono (C a v G x y q) ?_;rintro e E w' ⟨rfl,i,F,rfl,k1,k2,B,m⟩;exact A i E F k1 k2 B m
theorem ds_ {ι:Type} {e:ι→Fr} {Hs:ι→Hp} {k:ι→List Fct} (i:ι) {F:Hp} (h:Fr.le (e i) fr) (B:H.Perm (Hs i++F)) (y:∀ v,v.sat H→Z_ Γ v→Z_ (k i) v) :
    Ok N v0 H0 (Mid N v0 H0 e Hs k .normal) fr H Γ :=
  bs_ (e i) h (dK_ B y fun _ v A q m x=>⟨rfl,i,v,rfl,A,q,m,x⟩)
end cut
end Go.Sx
namespace Go.Sx
open Go
def bx_ (v:Vw) (ad:Option Addr) (cs:List Value):Prop :=
  cs=[]∨∃ b off arr T fz,ad=some ⟨b,off,none⟩∧v.im b∧v.w.heap[b]? = some (.cells arr T fz)∧∀ j x,cs[j]? = some x→arr[off+j]? = some x
def ah_ (ad:Option Addr) (cs:List Value):Fct where
 p:=fun v=>bx_ v ad cs
 mono:=fun v v' h hp=>by
   rcases hp with hp|⟨b,off,arr,T,fz,h1,h2,h3,h4⟩
   · exact .inl hp
   · exact .inr ⟨b,off,arr,T,fz,h1,h.imUp b h2,by rw[h.block b h2];exact h3,h4⟩
def bas (ad:Option Addr):Addr:=ad.getD ⟨0,0,none⟩
def rad (ad:Option Addr) (k:Nat):Addr:=⟨(bas ad).block,(bas ad).off+k,none⟩
theorem bx_.addr {v:Vw} {ad:Option Addr} {cs:List Value} (h:bx_ v ad cs) (e:cs≠[]):∃ b off,ad=some ⟨b,off,none⟩:=by
 rcases h with h|⟨b,off,m,T,fz,k,_⟩
 ·exact absurd h e
 exact⟨b,off,k⟩
theorem bx_.cell {v:Vw} {ad:Option Addr} {cs:List Value} {k:Nat} {x:Value} (h:bx_ v ad cs) (e:cs[k]? = some x):v.w.cell? (rad ad k)=some x:=by
 rcases h with h|⟨b,off,m,T,fz,rfl,_,q,y⟩
 ·subst h;simp at e
 simp[rad,bas,World.cell?,q,y k x e]
theorem bx_.drop {v:Vw} {ad:Option Addr} {cs:List Value} (h:bx_ v ad cs) (n:Nat) (e:List Value) (m:∀ j x,e[j]? = some x→cs[n+j]? = some x):bx_ v (ad.map (·.add n)) e:=by
 rcases h with h|⟨b,off,k,T,fz,rfl,y,A,B⟩
 ·subst h
  left
  cases e with
  | nil=>rfl
  | cons d e=>have:=m 0 d rfl;simp at this
 exact .inr ⟨b,off+n,k,T,fz,by simp[cp_],y,A,fun j x q=>by rw[Nat.add_assoc];exact B _ _ (m j x q)⟩
theorem la_ {α:Type} (f:α→List Value) (n:Nat) (e:∀ x,(f x).length=n):∀ (l:List α) (i j:Nat) (x:α),l[i]? = some x→j<n→(l.flatMap f)[i*n+j]? = (f x)[j]?
  | [],i,j,x,h,_=>by simp at h
  | y::l,0,j,x,h,hj=>by
    simp only[List.getElem?_cons_zero,Option.some.injEq]at h;subst h;simp only[List.flatMap_cons,Nat.zero_mul,Nat.zero_add];rw[List.getElem?_append_left (by rw[e];exact hj)]
  | y::l,i+1,j,x,h,hj=>by
    simp only[List.flatMap_cons];rw[List.getElem?_append_right (by rw[e,Nat.add_mul];omega),e,show (i+1)*n+j - n=i*n+j by rw[Nat.add_mul];omega];exact la_ f n e l i j x zV_ hj
theorem dv_ {α:Type} (f:α→List Value) (n:Nat) (e:∀ x,(f x).length=n):∀ (l:List α),(l.flatMap f).length=l.length*n
  | []=>by simp
  | y::l=>by simp only[List.flatMap_cons,List.length_append,e,List.length_cons,dv_ f n e l,Nat.add_mul];omega
section ops
variable {P:Program} {N:Nf} {v0:Vw} {H0:Hp} {R:Exit→Act→World→Prop} {K:List Kt} {fr:Fr} {H:Hp} {Γ:List Fct}
variable {ops:Array Oper} {l:List Oper} {d:Nat} {ty:TypeId} {ps:String} {af:Array Edge}
theorem S_ {t e:TypeId} {x y:Operand} {ad:Option Addr} {len cap n:Nat} {k:IntKind} {i:Int} (B:∀ w,(underlying t).run P w=.ok (.slice e) w) (m:∀ w,(sizeOf e).run P w=.ok n w)
    (C:Fr.ev fr x=some (.slice ad len cap)) (E:Fr.ev fr y=some (.int k i)) (q:∀ v,v.sat H→Z_ Γ v→∃ b off,ad=some ⟨b,off,none⟩) (F:0≤i) (hl:i<len) :
    Yld P N fr H Γ (.indexAddr t x y) ty (.pointer (some (rad ad (i.toNat*n)))) :=
  fun a v h A G _ _ _=>by
    obtain⟨b,off,rfl⟩:=q v A G;simp[execOp,h.ev C,h.ev E,Instr.indexAt,B,asIntOf,m,cp_,F,hl,rad,bas]
theorem bn_ {t:TypeId} {x:Operand} {ad:Option Addr} {k:Nat} {cs:List Value} {u:Value} (q:∀ w,(isAgg t).run P w=.ok false w) (e:Fr.ev fr x=some (.pointer (some (rad ad k))))
    (y:∀ v,v.sat H→Z_ Γ v→bx_ v ad cs) (A:cs[k]? = some u):Yld P N fr H Γ (.load t x) ty u :=
  gO_ e (fun v h m=>cG_ q ((y v h m).cell A))
theorem aj_ {t:TypeId} {x:Operand} {ad:Option Addr} {k n:Nat} {cs us:List Value} (h:∀ w,(isAgg t).run P w=.ok true w) (e:∀ w,(sizeOf t).run P w=.ok n w) (C:Fr.ev fr x=some (.pointer (some (rad ad k))))
    (A:∀ v,v.sat H→Z_ Γ v→bx_ v ad cs) (E:us.length=n) (B:∀ j y,us[j]? = some y→cs[k+j]? = some y):Yld P N fr H Γ (.load t x) ty (.agg us.toArray) :=
  gO_ C (fun v q F=>dM_ h e E (fun j y m=>by
    have:=(A v q F).cell (B j y m);simpa [rad,Nat.add_assoc] using this))
theorem eO_ {k:Act→World→Prop} {b:Nat} {o:Obj} {F:Hp} (f:Fct) (E:H.Perm ((b,o)::F)) (L:∀ v:Vw,v.im b→v.w.heap[b]? = some o→Z_ Γ v→f.p v) (h:Ok N v0 H0 k fr F (f::Γ)):Ok N v0 H0 k fr H Γ:=by
 intro a v M G m J;have g:=G.perm E;have I:=g.own (b,o) (List.mem_cons_self);have B:b<v.w.heap.size:=(Array.getElem?_eq_some_iff.1 I.1).1;have q:=g.nodup;rw[List.map_cons,List.nodup_cons]at q;have A:v.le ⟨fun x=>v.im x∨x=b,v.w,v.sl⟩:=⟨fun x e=>.inl e,fun _ _=>rfl,rfl⟩;have y:b∈H.map Prod.fst:=(E.map Prod.fst).mem_iff.2 zB_;refine h a ⟨fun x=>v.im x∨x=b,v.w,v.sl⟩ M ⟨fun p C=>⟨(g.own p (List.mem_cons_of_mem _ C)).1,fun hi=>?_⟩,q.2,fun x e=>?_⟩ ?_ ⟨L _ (.inr rfl) I.1 (ao_ A J),ao_ A J⟩
 ·rcases hi with hi|hi
  ·exact (g.own p (List.mem_cons_of_mem _ C)).2 hi
  exact q.1 (by have:=List.mem_map_of_mem (f:=Prod.fst) C;rw[hi]at this;exact this)
 ·rcases e with e|e
  ·exact G.lt x e
  exact e▸B
 refine⟨m.os,m.tape,m.output,m.size,m.block,fun x e=>.inl (m.imUp x e),fun x e=>?_,fun x e=>m.hNew x ((E.map Prod.fst).mem_iff.2 (by rw[List.map_cons];exact List.mem_cons_of_mem _ e)),m.sl,m.dr⟩;rcases e with e|e
 ·exact m.imNew x e
 exact .inr (e▸m.hNew b y)
def ay_ (e:TypeId) (sz:Nat) (sv:Value) (n:Nat) (xs:List Value) (Hr:Hp):Prop :=
  xs.length=n*sz∧((sv=.slice none 0 0∧n=0∧Hr=[]) ∨
    ∃ g cap cur,sv=.slice (some ⟨g,0,none⟩) n cap∧Hr=[(g,.cells cur e (0,0))]∧n≤cap∧cap≤maxLen∧cur.size=cap*sz∧cur.toList.take (n*sz)=xs)
theorem ay_.nil (e:TypeId) (sz:Nat):ay_ e sz (.slice none 0 0) 0 [] []:=⟨by simp,.inl ⟨rfl,rfl,rfl⟩⟩
theorem ay_.owns {e:TypeId} {sz n:Nat} {sv:Value} {m:List Value} {Hr F:Hp} {v:Vw} (h:ay_ e sz sv n m Hr) (x:v.sat (Hr++F)):v.w.ownsRow 0 e sz sv n m:=by
 refine⟨h.1,?_⟩;rcases h.2 with⟨k,y,_⟩|⟨g,cap,cur,k,rfl,A,C,B,q⟩
 ·exact .inl ⟨k,y⟩
 exact .inr ⟨g,cap,cur,k,Nat.zero_le _,(x.own (g,.cells cur e (0,0)) zB_).1,A,C,B,q⟩
theorem iW_ {e:TypeId} {sz n n':Nat} {sv sv':Value} {xs ys:List Value} {Hr F:Hp} {v:Vw} {w':World} (h:ay_ e sz sv n xs Hr) (I:v.sat (Hr++F)) (Q:w'.ownsRow 0 e sz sv' n' ys) (E:v.w.grownBy w' sv.ownBlock) (V:v.w.drawn≤w'.drawn)
    (J:∀ g,sv'.ownBlock=some g→sv.ownBlock=some g∨v.w.heap.size≤g) :
    ∃ x,ay_ e sz sv' n' ys x∧(⟨v.im,w',v.sl⟩:Vw).sat (x++F)∧v.to (Hr++F) ⟨v.im,w',v.sl⟩ (x++F):=by
  have L:∀ p,p∈Hr++F→p.1<v.w.heap.size:=fun p m=>(Array.getElem?_eq_some_iff.1 (I.own p m).1).1
  have B:∀ b,sv.ownBlock=some b→b∈Hr.map Prod.fst:=fun b y=>by
    rcases h.2 with⟨rfl,_,_⟩|⟨g,cap,cur,rfl,rfl,_⟩
    · simp[Value.ownBlock]at y
    · simp[Value.ownBlock]at y;simp[y]
  have A:=I.nodup;rw[List.map_append,List.nodup_append]at A;have U:∀ p,p∈F→some p.1≠sv.ownBlock:=fun p m e=>A.2.2 _ (B p.1 e.symm) _ (List.mem_map_of_mem m) rfl
  have C:∀ p,p∈F→w'.heap[p.1]? = some p.2∧¬ v.im p.1:=fun p m=>by
    have:=I.own p (List.mem_append_right _ m);exact⟨by rw[E.block _ (L p (List.mem_append_right _ m)) (U p m)];exact this.1,this.2⟩
  have M:∀ x:Hp,(∀ b,b∈x.map Prod.fst→b∈Hr.map Prod.fst∨v.w.heap.size≤b)→v.to (Hr++F) ⟨v.im,w',v.sl⟩ (x++F):=fun x X=>by
    refine⟨E.os,E.tape,E.output,E.size,fun b y Z=>E.block b y (fun e=>Z ?_),fun _ h=>h,fun _ h=>.inl h,fun b y=>?_,rfl,.inr V⟩
    · rw[List.map_append];exact List.mem_append_left _ (B b e.symm)
    · rw[List.map_append]at y ⊢
      rcases List.mem_append.1 y with G|G
      · exact (X b G).imp (List.mem_append_left _) id
      · exact .inl (List.mem_append_right _ G)
  rcases Q.2 with⟨G,Y⟩|⟨g,cap,cur,G,_,T,h4,h5,S,W⟩
  · refine⟨[],⟨Q.1,.inl ⟨G,Y,rfl⟩⟩,⟨fun p m=>C p (by simpa using m),by simpa using A.2.1,fun b y=>Nat.lt_of_lt_of_le (I.lt b y) E.size⟩,M [] zB_⟩
  · have k:g∈Hr.map Prod.fst∨v.w.heap.size≤g:=(J g (by rw[G];rfl)).imp (B g) id
    refine⟨[(g,.cells cur e (0,0))],⟨Q.1,.inr ⟨g,cap,cur,G,rfl,h4,h5,S,W⟩⟩,⟨fun p m=>?_,?_,fun b y=>Nat.lt_of_lt_of_le (I.lt b y) E.size⟩,M _ zax_⟩
    · rcases List.mem_append.1 m with m|m
      · simp only[List.mem_singleton]at m
        subst m;refine⟨T,fun hi=>?_⟩;rcases k with k|k
        · obtain⟨q,O,rfl⟩:=List.mem_map.1 k
          exact (I.own q (List.mem_append_left _ O)).2 hi
        · have:=I.lt _ hi;omega
      · exact C p m
    · simp only[List.map_append,List.map_cons,List.map_nil,List.singleton_append,List.nodup_cons]
      refine⟨fun hm=>?_,A.2.1⟩;obtain⟨q,O,e⟩:=List.mem_map.1 hm;rcases k with k|k
      · exact A.2.2 _ k _ (List.mem_map_of_mem O) e.symm
      · have:=L q (List.mem_append_right _ O);omega
theorem kz_ (w:World) {t ty' e:TypeId} {i:TypeInfo} {z:Value} {n m c sz:Nat} {sv L:Value} {w':World} {J news:List Value} {ad:Addr} (B:P.underlying t=some (.slice e)) (hi:P.info? e=some i) (M:i.zero=some z)
    (G:i.size=sz) (q:w.ownsRow 0 e sz sv n J) (hl:news.length=m*sz) (h:∀ j u,news[j]? = some u→w.cell? (ad.add j)=some u) (Q:∀ u∈news,u.oneCell'=true) (F:n+m≤maxLen) (O:(n+m)*i.bytes≤140737488355328)
    (v:(Builtin.append_ #[t,t] ty' #[sv,.slice (some ad) m c]).run P w=.ok L w'):w.drawn≤w'.drawn∧∀ g,L.ownBlock=some g→sv.ownBlock=some g∨w.heap.size≤g:=by
  subst G;have A:n+m≤9223372036854775807:=by simp only[maxLen]at F;omega
  rcases q.2 with⟨rfl,rfl⟩|⟨b,cap,cur,rfl,_,E,S,_,I,C⟩
  · by_cases hm:m=0
    · subst hm
      have T:news=[]:=List.eq_nil_of_length_eq_zero (by simpa using hl);subst T
      have:(Builtin.append_ #[t,t] ty' #[.slice none 0 0,.slice (some ad) 0 c]).run P w=.ok (.slice none 0 0) w:=by
        simp[Builtin.append_,run_underlying B,sizeOf,typeInfo,hi,Builtin.lenOf,Builtin.firstCells,loadCells,loadCellsFrom]
      rw[this]at v;cases v;exact⟨Nat.le_refl _,fun g x=>by simp[Value.ownBlock]at x⟩
    · have:=run_append_nil (P:=P) w t ty' e i z B hi M ad m c news hl h zs_ zs_ (by simp only[Nat.zero_add]at O;omega)
      rw[this]at v;cases v;refine⟨by simp,fun g x=>?_⟩;simp only[Value.ownBlock,Option.some.injEq]at x;exact .inr zs_
  · by_cases k:n+m≤cap
    · have y:n*i.size+news.length≤cur.size:=by rw[hl,I,← Nat.add_mul];exact Nat.mul_le_mul_right _ k
      have:=run_append_room (P:=P) w t ty' e i B hi b n cap cur E ad m c news hl h Q k y;rw[this]at v;cases v;exact⟨by simp,fun g x=>.inl x⟩
    · have Z_:∀ j u,J[j]? = some u→w.cell? ((⟨b,0,none⟩:Addr).add j)=some u:=q.cells (g:=b) rfl
      have:=run_append_grow (P:=P) w t ty' e i z B hi M ⟨b,0,none⟩ n cap J q.1 Z_ ad m c news hl h zs_ zs_ (growslice_fits zs_ O);rw[this]at v;cases v;refine⟨by simp,fun g x=>?_⟩;simp only[Value.ownBlock,Option.some.injEq]at x;exact .inr zs_
structure Elt (P:Program) (t e:TypeId) (sz by':Nat):Prop where
  und:P.underlying t=some (.slice e)
  info:∃ i z,P.info? e=some i∧i.zero=some z∧i.size=sz∧i.bytes=by'∧z.cells.size=sz
  pos:0<sz
theorem an_ {x y:Operand} {t e:TypeId} {sz by' n m c:Nat} {sv:Value} {G news:List Value} {Hr F:Hp} {ad:Addr} (C:Elt P t e sz by') (k:ay_ e sz sv n G Hr)
    (hx:Fr.ev fr x=some sv) (Y:Fr.ev fr y=some (.slice (some ad) m c)) (J:H.Perm (Hr++F)) (hl:news.length=m*sz) (q:∀ v,v.sat H→Z_ Γ v→∀ j u,news[j]? = some u→v.w.cell? (ad.add j)=some u) (A:∀ u∈news,u.oneCell'=true)
    (B:n+m≤maxLen) (U:(n+m)*by'≤140737488355328) (hN:Nat.blt d N.n=true)
    (hk:∀ sv' h,ay_ e sz sv' (n+m) (G++news) h→Ops P R N v0 H0 ops l K ((d,sv')::fr) (h++F) Γ) :
    Ops P R N v0 H0 ops (⟨some d,.call ⟨.builtin .append,#[x,y],#[t,t]⟩,ty,ps,af,none⟩::l) K fr H Γ :=
  cq_ rfl fun a v E I X V=>by
    obtain⟨i,z,hi,S,es,M,ez⟩:=C.info;have g:=I.perm J;have T:=q v I V;have Q:=k.owns g;obtain⟨Z,w',L,W,q2,_⟩:=run_append_own (P:=P) v.w 0 t ty e i z sz by' C.und hi S es M ez C.pos sv n G Q ad m c news hl T A B U (Nat.zero_le _)
    obtain⟨a1,a2⟩:=kz_ v.w C.und hi S es Q hl T A B (by rw[M];exact U) L;obtain⟨h,k1,k2,O⟩:=iW_ k g W q2 a1 a2;unfold Oper.wp execOp;simp only[resolve,invoke,builtin,Sem.run_bind,Sem.run_pure,Result.andThen_ok,List.map_toArray,List.map_cons,List.map_nil,E.ev hx,E.ev Y,L];exact hk Z h k1 _ ⟨v.im,w',v.sl⟩ (E.put hN) k2 (X.trans (O.permL J.symm)) (ao_ ((O.permL J.symm).le I) V)
theorem ol_ {t:TypeId} {parts:Array (Nat×Operand)} {u:Value} (e:∀ a:Act,Fr.sat N fr a→∀ w,(Instr.build t (parts.map fun (i,x)=>(i,a.eval x))).run P w=.ok u w) :
    Yld P N fr H Γ (.build t parts) ty (u) :=
  fun a v h k m _ _ _=>by
    have:=e a h v.w;simp only[execOp,Sem.run_bind,this,Result.andThen_ok,Sem.run_pure]
def Fr.evp (fr:Fr):List (Nat×Operand)→Option (List (Nat×Value))
  | []=>some []
  | (i,x)::r=>match Fr.ev fr x with
    | some v=>match Fr.evp fr r with
      | some vs=>some ((i,v)::vs)
      | none=>none
    | none=>none
theorem Fr.sat.evp {a:Act} (h:Fr.sat N fr a):∀ {xs:List (Nat×Operand)} {vs:List (Nat×Value)},Fr.evp fr xs=some vs→xs.map (fun (i,x)=>(i,a.eval x))=vs
 | [],vs,e=>by simp only[Fr.evp,Option.some.injEq]at e;subst e;rfl
 | (i,x)::r,vs,e=>by
   simp only[Fr.evp]at e
   split at e
   · rename_i u m
     split at e
     · rename_i us k
       simp only[Option.some.injEq]at e;subst e;show (i,a.eval x)::_=_
       rw[h.ev m];exact congrArg _ (h.evp k)
     · cases e
   · cases e
def kT_:List Value→Nat→List Value→List Value
  | cs,0,[]=>cs
  | _::cs,0,v::vs=>v::kT_ cs 0 vs
  | c::cs,n+1,vs=>c::kT_ cs n vs
  | [],_,_=>[]
theorem qV_:∀ (cs:List Value) (n:Nat),kT_ cs n []=cs
  | [],0=>rfl
  | [],n+1=>rfl
  | c::cs,0=>rfl
  | c::cs,n+1=>by simp only[kT_];rw[qV_ cs n]
theorem oL_:∀ (cs:List Value) (n:Nat) (v:Value) (vs:List Value),kT_ cs n (v::vs)=kT_ (cs.set n v) (n+1) vs
  | [],0,v,vs=>by simp[kT_]
  | [],n+1,v,vs=>by simp[kT_]
  | c::cs,0,v,vs=>by simp[kT_]
  | c::cs,n+1,v,vs=>by simp only[kT_,List.set_cons_succ];rw[oL_ cs n v vs]
theorem oS_ (off:Nat):∀ (vs:List Value) (k:Nat) (cs:List Value),
    (vs.zipIdx k).foldl (fun (cs:Array Value) (p:Value×Nat)=>cs.setIfInBounds (off+p.2) p.1) cs.toArray=(kT_ cs (off+k) vs).toArray
  | [],k,cs=>by simp[qV_]
  | v::vs,k,cs=>by
    simp only[List.zipIdx_cons,List.foldl_cons];rw[oL_,show cs.toArray.setIfInBounds (off+k) v=(cs.set (off+k) v).toArray by simp,oS_ off vs (k+1)];rfl
def lR_ (place:Nat→Option (Nat×Nat)):List Value→List (Nat×Value)→Option (List Value)
  | cells,[]=>some cells
  | cells,(i,v)::rest=>match place i with
    | none=>none
    | some (off,size)=>bif Nat.beq v.cells.toList.length size&&Nat.ble (off+size) cells.length then lR_ place (kT_ cells off v.cells.toList) rest else none
theorem iF_ (e:Nat→Option (Nat×Nat)):∀ (vs:List (Nat×Value)) (cells cs:List Value),lR_ e cells vs=some cs→Instr.fill e cells.toArray vs=some cs.toArray
  | [],cells,cs,h=>by simp only[lR_,Option.some.injEq]at h;subst h;rfl
  | (i,v)::rest,cells,cs,h=>by
    simp only[lR_]at h;cases hp:e i with
    | none=>rw[hp]at h;cases h
    | some q =>
      obtain⟨off,size⟩:=q;rw[hp]at h;simp only at h;cases hb:(Nat.beq v.cells.toList.length size&&Nat.ble (off+size) cells.length) with
      | false=>rw[hb]at h;cases h
      | true =>
        rw[hb,cond_true]at h;simp only[Bool.and_eq_true]at hb;have y:v.cells.size=size:=by simpa using Nat.eq_of_beq_eq_true hb.1
        have A:off+size≤cells.length:=Nat.le_of_ble_eq_true hb.2;have x:=iF_ e rest _ _ h;have m:=oS_ off v.cells.toList 0 cells;simp only[Nat.add_zero]at m
        have k:v.cells.zipIdx.foldl (fun (cs:Array Value) (p:Value×Nat)=>cs.setIfInBounds (off+p.2) p.1) cells.toArray=(kT_ cells off v.cells.toList).toArray:=by
          rw[← m,← Array.foldl_toList];simp[Array.toList_zipIdx]
        simp only[Instr.fill,hp];rw[if_neg (by simp[y];omega)];exact k▸x
def hX_ (P:Program) (t:TypeId) (pl:List (Nat×Nat)) (z:List Value):Prop :=
  ∃ fs:Array Field,(∀ w,(zeroValue t).run P w=.ok (.agg z.toArray) w)∧(∀ w,(underlying t).run P w=.ok (.struct fs) w)∧(∀ w,(fs.mapM (fun (f:Field)=>(do pure (f.offset,← sizeOf f.type):Sem (Nat×Nat)))).run P w=.ok pl.toArray w)
theorem I_ {t:TypeId} {parts:List (Nat×Operand)} {vs:List (Nat×Value)} {pl:List (Nat×Nat)} {z cs:List Value} (h:hX_ P t pl z) (v:Fr.evp fr parts=some vs) (q:lR_ (fun i=>pl[i]?) z vs=some cs) :
    Yld P N fr H Γ (.build t parts.toArray) ty (.agg cs.toArray) :=
  ol_ (fun a y w=>by
    obtain⟨fs,k,m,A⟩:=h;have:=y.evp v;rw[List.map_toArray,this];have e:=iF_ _ _ _ _ q;have x:Instr.fill (fun i=>pl.toArray[i]?) z.toArray vs=some cs.toArray:=by simpa using e
    simp only[Instr.build,Sem.run_bind,k,Result.andThen_ok,m,A,Value.cells,x,Sem.run_pure])
def je_ (z:List Value):Nat→List Value
  | 0=>[]
  | n+1=>z++je_ z n
theorem pY_ (z:List Value) (e:0<z.length):∀ (n i:Nat),i<n*z.length→(je_ z n)[i]? = z[i%z.length]?
 | 0,i,h=>by simp at h
 | n+1,i,h=>by
   simp only[je_]
   by_cases hi:i<z.length
   · rw[List.getElem?_append_left hi,Nat.mod_eq_of_lt hi]
   · rw[List.getElem?_append_right zs_,pY_ z e n (i - z.length) (by rw[Nat.add_mul]at h;omega)]
     rw[← Nat.mod_eq_sub_mod zs_]
theorem ih_ (z:List Value):∀ n,(je_ z n).length=n*z.length
  | 0=>by simp[je_]
  | n+1=>by simp only[je_,List.length_append,ih_ z n,Nat.add_mul];omega
theorem jB_ (z:List Value) (e:0<z.length) (n:Nat):(Array.range (n*z.length)).map (fun i=>z.toArray[i%z.toArray.size]!)=(je_ z n).toArray:=by
 apply Array.ext'
 apply List.ext_getElem?
 intro i;simp only[Array.toList_map,Array.toList_range,List.getElem?_map]
 by_cases hi:i<n*z.length
 ·rw[pY_ z e n i hi,List.getElem?_range hi]
  have hm:i%z.length<z.length:=Nat.mod_lt _ e;simp[hm]
 rw[List.getElem?_eq_none (by simpa using hi),List.getElem?_eq_none (by rw[ih_];omega)];rfl
theorem U_ {t e:TypeId} {len sz:Nat} {parts:List (Nat×Operand)} {vs:List (Nat×Value)} {m:Value} {cs:List Value} (J:∀ w,(underlying t).run P w=.ok (.slice e) w) (F:∀ w,(sizeOf e).run P w=.ok sz w) (G:∀ w,(zeroValue e).run P w=.ok m w)
    (q:m.cells.toList.length=sz) (I:Nat.blt 0 (len*sz)=true) (B:Nat.ble (len*sz) 16777216=true) (M:Fr.evp fr parts=some vs) (L:lR_ (fun i=>some (i*sz,sz)) (je_ m.cells.toList len) vs=some cs) (O:Nat.blt d N.n=true)
    (hk:∀ b,Ops P R N v0 H0 ops l K ((d,.slice (some ⟨b,0,none⟩) len len)::fr) ((b,.cells cs.toArray e (0,0))::H) Γ):Ops P R N v0 H0 ops (⟨some d,.buildSlice t len parts.toArray,ty,ps,af,none⟩::l) K fr H Γ :=
  gy_ (x:=fun b=>.slice (some ⟨b,0,none⟩) len len) O (fun a v Q S T=>by
    have y:=Q.evp M;have k:=iF_ _ _ _ _ L;have h:0<len*sz:=by simpa [Nat.blt_eq] using I
    have E:0<sz:=Nat.pos_of_mul_pos_left h;have C:len*sz≤16777216:=Nat.le_of_ble_eq_true B;have A:=jB_ m.cells.toList zs_ len;rw[q]at A;simp only[Array.toArray_toList]at A;rw[← A]at k;simp only[execOp,Instr.buildSlice,Sem.run_bind,J,Result.andThen_ok,F,List.map_toArray,y];rw[if_neg zs_,if_neg zs_];simp only[Sem.run_bind,Sem.run_pure,G,Result.andThen_ok,k];rfl) hk
end ops
end Go.Sx
namespace Go.Sx
open Go
section ops
variable {P:Program} {N:Nf} {v0:Vw} {H0:Hp} {R:Exit→Act→World→Prop} {K:List Kt} {fr:Fr} {H:Hp} {Γ:List Fct}
variable {ops:Array Oper} {l:List Oper} {d:Nat} {ty:TypeId} {ps:String} {af:Array Edge}
theorem qC_ (h:Array Obj) (o:Obj) (f:Obj→Obj):(h.push o).modify h.size f=h.push (f o):=by
 apply Array.ext_getElem?
 intro i;rw[Array.getElem?_modify]
 by_cases e:h.size=i
 ·subst e;simp
 rw[if_neg e,Array.getElem?_push,Array.getElem?_push,if_neg (fun h=>e h.symm),if_neg (fun h=>e h.symm)]
def bytesV (m:List UInt8):List Value:=m.map fun c=>.int .u8 (c.toNat:Int)
theorem ya_ {x:Operand} {s t e:TypeId} {m:List UInt8} (F:∀ w,(underlying s).run P w=.ok .string w) (E:∀ w,(underlying t).run P w=.ok (.slice e) w) (I:∀ w,(underlying e).run P w=.ok (.int .u8) w)
    (J:Fr.ev fr x=some (str m)) (L:Nat.blt d N.n=true)
    (hk:∀ cap b,m.length≤cap→Ops P R N v0 H0 ops l K ((d,.slice (some ⟨b,0,none⟩) m.length cap)::fr) ((b,.cells (bytesV m++List.replicate (cap - m.length) (Value.int .u8 0)).toArray e (cap,cap+1))::H) Γ) :
    Ops P R N v0 H0 ops (⟨some d,.convert s t x,ty,ps,af,none⟩::l) K fr H Γ :=
  ni_ (β:=Nat) (x:=fun cap b=>.slice (some ⟨b,0,none⟩) m.length cap) (o:=fun cap=>.cells (bytesV m++List.replicate (cap - m.length) (Value.int .u8 0)).toArray e (cap,cap+1)) (fun cap=>m.length≤cap) L
    (fun a v M O Q=>by
      have k:m.length≤(Question.appendCap m.length 0 e).cut (v.w.tape v.w.drawn (.appendCap m.length 0 e)):=by simp[Question.cut]
      generalize B:(Question.appendCap m.length 0 e).cut (v.w.tape v.w.drawn (.appendCap m.length 0 e))=cap at k
      have h:(bytesV m++List.replicate (cap - m.length) (Value.int .u8 0)).length=cap:=by simp[bytesV];omega
      have G:(⟨m.toArray⟩:ByteArray).size=m.length:=by simp[ByteArray.size]
      have A:(Array.map (fun (b:UInt8)=>Value.int .u8 (b.toNat:Int)) m.toArray++Array.replicate (cap - m.length) (Value.int .u8 0))=(bytesV m++List.replicate (cap - m.length) (Value.int .u8 0)).toArray:=by simp[bytesV]
      refine⟨cap,{ v.w with heap:=v.w.heap.push (.cells (bytesV m++List.replicate (cap - m.length) (Value.int .u8 0)).toArray e (cap,cap+1)),drawn:=v.w.drawn+1 },k,?_,rfl,rfl,rfl,rfl,Nat.le_succ _⟩
      have y:(Conv.stringToBytes e ⟨m.toArray⟩).run P v.w=.ok (.slice (some ⟨v.w.heap.size,0,none⟩) m.length cap) { v.w with heap:=v.w.heap.push (.cells (bytesV m++List.replicate (cap - m.length) (Value.int .u8 0)).toArray e (cap,cap+1)),drawn:=v.w.drawn+1 }:=by
        generalize bytesV m++List.replicate (cap - m.length) (Value.int .u8 0)=cs at h A ⊢
        simp only[Conv.stringToBytes,G];show Sem.run P (choose _ >>= _) v.w=_
        rw[Sem.run_bind]
        have q:(choose (.appendCap m.length 0 e)).run P v.w=.ok cap { v.w with drawn:=v.w.drawn+1 }:=by
          simp[choose,Sem.run,Question.forced,B]
        rw[q,Result.andThen_ok,A];simp only[newRow,Sem.run_bind,newObj,markStringish,shape,freeze];simp only[Sem.run,Result.andThen_ok,World.shape?,Array.getElem?_push_size,List.size_toArray,h,World.freeze,Nat.one_ne_zero,if_false,Sem.run_pure];rw[qC_];simp
      simp only[execOp,Sem.run_bind,convert,F,E,I,Result.andThen_ok,M.ev J,str,y,Sem.run_pure])
    (fun cap b C=>hk cap b C)
theorem eW_ {t:TypeId} {x:Operand} {lo hi:Option Operand} {m:List UInt8} {i j:Nat} {kl kh:IntKind} (C:∀ w,(underlying t).run P w=.ok .string w) (E:Fr.ev fr x=some (str m))
    (e:match lo with|some y=>Fr.ev fr y=some (.int kl (i:Int))|none=>i=0) (h:match hi with|some y=>Fr.ev fr y=some (.int kh (j:Int))|none=>j=m.length) (q:i≤j) (F:j≤m.length) :
    Yld P N fr H Γ (.slice t x lo hi none) ty (str ((m.drop i).take (j - i))) :=
  fun a v k G I _ _ _=>by
    have A:(⟨m.toArray⟩:ByteArray).size=m.length:=by simp[ByteArray.size]
    have B:=ByteArray.extract_mk m i j;cases lo<;>cases hi<;>simp only at e h
    · subst e h;simp[execOp,Instr.sliceAt,Instr.slice,C,k.ev E,str,Instr.sliceBounds,A,B]
    · subst e;simp[execOp,Instr.sliceAt,Instr.slice,C,k.ev E,k.ev h,str,Instr.sliceBounds,Instr.sliceBound,asIntOf,A,B,F]
    · subst h;simp[execOp,Instr.sliceAt,Instr.slice,C,k.ev E,k.ev e,str,Instr.sliceBounds,Instr.sliceBound,asIntOf,A,B,q]
    · simp[execOp,Instr.sliceAt,Instr.slice,C,k.ev E,k.ev e,k.ev h,str,Instr.sliceBounds,Instr.sliceBound,asIntOf,A,B,q,F]
def sad (ad:Option Addr) (cap i n:Nat):Option Addr:=if cap=i then ad else ad.map (·.add (i*n))
theorem dI_ {t e:TypeId} {x:Operand} {lo hi:Option Operand} {ad:Option Addr} {len cap i j n:Nat} {kl kh:IntKind} (B:∀ w,(underlying t).run P w=.ok (.slice e) w) (A:∀ w,(sizeOf e).run P w=.ok n w) (C:Fr.ev fr x=some (.slice ad len cap))
    (h:match lo with|some y=>Fr.ev fr y=some (.int kl (i:Int))|none=>i=0) (k:match hi with|some y=>Fr.ev fr y=some (.int kh (j:Int))|none=>j=len) (q:i≤j) (E:j≤cap) :
    Yld P N fr H Γ (.slice t x lo hi none) ty (.slice (sad ad cap i n) (j - i) (cap - i)) :=
  fun a v m F G _ _ _=>by
    cases lo<;>cases hi<;>simp only at h k
    · subst h k;simp[execOp,Instr.sliceAt,Instr.slice,B,A,m.ev C,Instr.sliceBounds,sad]
    · subst h;simp[execOp,Instr.sliceAt,Instr.slice,B,A,m.ev C,m.ev k,Instr.sliceBounds,Instr.sliceBound,asIntOf,E,sad]
    · subst k;simp[execOp,Instr.sliceAt,Instr.slice,B,A,m.ev C,m.ev h,Instr.sliceBounds,Instr.sliceBound,asIntOf,q,sad]
    · simp[execOp,Instr.sliceAt,Instr.slice,B,A,m.ev C,m.ev h,m.ev k,Instr.sliceBounds,Instr.sliceBound,asIntOf,q,E,sad]
theorem bx_.sad {v:Vw} {ad:Option Addr} {cs:List Value} {cap i n:Nat} (h:bx_ v ad cs) (e:List Value) (m:∀ j x,e[j]? = some x→cs[i*n+j]? = some x) (q:cs.length≤cap*n):bx_ v (sad ad cap i n) e:=by
 unfold Sx.sad
 split
 ·rename_i k
  subst k;left
  cases e with
  | nil=>rfl
  | cons d e =>
    have:=m 0 d rfl;rw[List.getElem?_eq_none zs_]at this;cases this
 exact h.drop (i*n) e m
theorem bK_ {fn:Fn} {h ys:List Operand} {us vs:List Value} (k:Fr.evs fr h=some us) (m:Fr.evs fr ys=some vs):Yld P N fr H Γ (.makeFunc fn h.toArray ys.toArray) ty (.func fn us.toArray vs.toArray) :=
  fun a v e y A _ _ _=>by
    have q:=e.evs k;have x:=e.evs m;simp[execOp,Instr.makeFunc,q,x]
theorem ap_ {f:FuncId} {g:Operand} {first cap:List Value} {y:List Operand} {h:Array TypeId} {vs:List Value} {ι:Type} {Hc F:Hp} {k:List Fct} {e:ι→Value} {H':ι→Hp} {Γ':ι→List Fct}
    (q:Tri P f (first++vs++cap).toArray Hc k e H' Γ') (E:Fr.ev fr g=some (.func (.func f) first.toArray cap.toArray)) (C:Fr.evs fr y=some vs) (J:H.Perm (Hc++F)) (I:∀ v,v.sat H→Z_ Γ v→Z_ k v) (G:Nat.blt d N.n=true)
    (hk:∀ x,Ops P R N v0 H0 ops l K ((d,e x)::fr) (H' x++F) (Γ' x++Γ)) :
    Ops P R N v0 H0 ops (⟨some d,.call ⟨.value g,y.toArray,h⟩,ty,ps,af,none⟩::l) K fr H Γ :=
  oF_ q (fun a w m=>by
    have B:=m.evs C;have A:=q.callable (first++vs++cap).toArray w;simp only[execOp,resolve,Deferred.ofValue,m.ev E,invoke,List.map_toArray,B,Sem.run_bind,Sem.run_pure,Result.andThen_ok,List.append_toArray,A]) J I G hk
end ops
end Go.Sx
namespace Go.Sx
open Go
class NoPan (R:Exit→Act→World→Prop):Prop where
  st:∀ c a d x w,R (.panic c) (a.put d x) w→R (.panic c) a w
instance {P:Program} {fn:Func} {ι:Type} {v0:Vw} {H0:Hp} {ret:ι→Value} {H':ι→Hp} {Γ':ι→List Fct}:NoPan (bodyPost P fn (kD_ v0 H0 ret H' Γ')) :=
  ⟨fun c a d x w h=>by obtain⟨_,y,v',e,_⟩:=h;cases e⟩
instance {N:Nf} {v0:Vw} {H0:Hp} {ι:Type} {frs:ι→Fr} {Hs:ι→Hp} {Γs:ι→List Fct}:NoPan (Mid N v0 H0 frs Hs Γs) :=
  ⟨fun c a d x w h=>by cases h.1⟩
theorem kd_ {P:Program} {R:Exit→Act→World→Prop} [hR:NoPan R] {c:List PanicEntry} {a:Act} {d:Option Tmp} {x:Value} {w:World}:∀ (K:List Kt),post P R K (.panic c) (a.put d x) w→post P R K (.panic c) a w
  | [],h=>hR.st c a d x w h
  | .seq _::K,h=>kd_ K h
  | .inv _::K,h=>kd_ K h
  | .blk _::K,h=>kd_ K h
def SW (Hs:Hp) (Γs:List Fct) (w:World):Prop:=∃ v:Vw,v.w=w∧v.sat Hs∧Z_ Γs v
section any
variable {P:Program} {N:Nf} {v0:Vw} {H0:Hp} {R:Exit→Act→World→Prop} {K:List Kt} {fr:Fr} {H Hs:Hp} {Γ Γs:List Fct}
variable {ops:Array Oper} {d:Nat} {ty:TypeId} {ps:String} {af:Array Edge} {fuel:Nat} {listed:Array Bool}
abbrev Any (P:Program) (R:Exit→Act→World→Prop) (N:Nf) (v0:Vw) (H0:Hp) (ops:Array Oper) (Hs:Hp) (Γs:List Fct) (fuel:Nat) (listed:Array Bool) (K:List Kt) (fr:Fr) (H:Hp) (Γ:List Fct):Prop :=
  Ok N v0 H0 (wpAnyH P .any ops (post P R K) (SW Hs Γs) fuel listed) fr H Γ
theorem qu_ {q:Nat} (Hs:Hp) (Γs:List Fct) (hm:P.follows .mixedOrders=true) (h:Any P R N v0 H0 ops Hs Γs ops.size (Array.replicate ops.size false) K fr H Γ):Run P R N v0 H0 (.region q ops true) K fr H Γ :=
  fun a v x m e y=>wp_region_held hm (by
    have k:v.le ⟨v.im,{ v.w with drawn:=v.w.drawn+1 },v.sl⟩:=⟨fun _ h=>h,fun _ _=>rfl,rfl⟩;exact h a ⟨v.im,{ v.w with drawn:=v.w.drawn+1 },v.sl⟩ x ⟨m.own,m.nodup,m.lt⟩ ⟨e.os,e.tape,e.output,e.size,e.block,e.imUp,e.imNew,e.hNew,e.sl,e.dr.imp (fun h=>h) fun h=>Nat.le_succ_of_le h⟩ (ao_ k y))
theorem ou_ {e:Nat} (hm:P.follows .mixedOrders=true) (h:Any P R N v0 H0 ops H Γ ops.size (Array.replicate ops.size false) K fr H Γ):Run P R N v0 H0 (.region e ops true) K fr H Γ:=qu_ H Γ hm h
theorem Vw.sat.tail {v:Vw} {p:Nat×Obj} (h:v.sat (p::H)):v.sat H :=
  ⟨fun x e=>h.own x (List.mem_cons_of_mem _ e),by have:=h.nodup;rw[List.map_cons,List.nodup_cons]at this;exact this.2,h.lt⟩
theorem pW_ [NoPan R] (i:Nat) {e:Oper} {x:Value} (hi:ops[i]? = some e) (G:Region.noSelect ops=true) (E:Region.free .any ops listed i=true) (C:(Region.ready .any ops listed).contains i=true)
    (y:e.dst=some d) (I:Nat.blt d N.n=true) (J:∀ a,Fr.sat N fr a→YieldsIf P ops (SW Hs Γs) e x a) (B:∀ v,v.sat H→Z_ Γ v→v.sat Hs∧Z_ Γs v)
    (h:Any P R N v0 H0 ops Hs Γs fuel (listed.setIfInBounds i true) K ((d,x)::fr) H Γ):Any P R N v0 H0 ops Hs Γs (fuel+1) listed K fr H Γ :=
  fun a v m k F q=>wpAnyH_take hi G E C (fun c a w A=>kd_ K A) (J a m) ⟨v,rfl,B v k q⟩ (by
    rw[y];exact h _ v (m.put I) k F q)
theorem wZ_ [NoPan R] (i:Nat) {k:Op} {x:Value} (hi:ops[i]? = some ⟨some d,k,ty,ps,af,none⟩) (q:Region.noSelect ops=true) (m:Region.free .any ops listed i=true) (E:(Region.ready .any ops listed).contains i=true)
    (B:Yld P N fr Hs Γs k ty x) (y:Nat.blt d N.n=true) (A:∀ v,v.sat H→Z_ Γ v→v.sat Hs∧Z_ Γs v)
    (h:Any P R N v0 H0 ops Hs Γs fuel (listed.setIfInBounds i true) K ((d,x)::fr) H Γ):Any P R N v0 H0 ops Hs Γs (fuel+1) listed K fr H Γ :=
  pW_ i hi q m E rfl y (fun a C=>.inl ⟨rfl,fun w ⟨v,e,k1,k2⟩=>by subst e;exact B a v C k1 k2 (some d) ps af⟩) A h
theorem uO_ [NoPan R] (i:Nat) {m:Op} {x:Value} {j t:Nat} {k:Bool} (hi:ops[i]? = some ⟨some d,m,ty,ps,af,some (j,k)⟩) (G:Region.noSelect ops=true) (E:Region.free .any ops listed i=true) (C:(Region.ready .any ops listed).contains i=true)
    (A:iC_ ops j=some t) (F:Fr.get fr t=some (.bool k)) (B:Yld P N fr Hs Γs m ty x) (I:Nat.blt d N.n=true) (y:∀ v,v.sat H→Z_ Γ v→v.sat Hs∧Z_ Γs v)
    (h:Any P R N v0 H0 ops Hs Γs fuel (listed.setIfInBounds i true) K ((d,x)::fr) H Γ):Any P R N v0 H0 ops Hs Γs (fuel+1) listed K fr H Γ :=
  pW_ i hi G E C rfl I (fun a q=>.inl ⟨by simp[Region.wanted,hm_ q A F],fun w ⟨v,e,k1,k2⟩=>by subst e;exact B a v q k1 k2 (some d) ps af⟩) y h
theorem any_no [NoPan R] (i:Nat) {k:Op} {x:Value} {j t:Nat} {e:Bool} (hi:ops[i]? = some ⟨some d,k,ty,ps,af,some (j,e)⟩) (E:Region.noSelect ops=true) (B:Region.free .any ops listed i=true) (y:(Region.ready .any ops listed).contains i=true)
    (q:iC_ ops j=some t) (C:Fr.get fr t=some x) (A:(match x with|.bool b=>Bool.xor b e|_=>true)=true) (F:Nat.blt d N.n=true) (m:∀ v,v.sat H→Z_ Γ v→v.sat Hs∧Z_ Γs v)
    (h:Any P R N v0 H0 ops Hs Γs fuel (listed.setIfInBounds i true) K ((d,undef)::fr) H Γ):Any P R N v0 H0 ops Hs Γs (fuel+1) listed K fr H Γ :=
  pW_ i hi E B y rfl F (fun a G=>.inr ⟨by
    simp only[Region.wanted,hm_ G q C];cases x<;>first|rfl|(rename_i b;cases b<;>cases e<;>simp_all),rfl⟩) m h
def iO_ (ops:Array Oper):Array Bool→List Nat→Bool
  | _,[]=>true
  | listed,i::is=>Region.free .any ops listed i&&((Region.ready .any ops listed).contains i&&iO_ ops (listed.setIfInBounds i true) is)
def Sq (P:Program) (R:Exit→Act→World→Prop) (N:Nf) (v0:Vw) (H0:Hp) (ops:Array Oper) (Hs:Hp) (Γs:List Fct) (is:List Nat) (fuel:Nat) (listed:Array Bool) (K:List Kt) (fr:Fr) (H:Hp) (Γ:List Fct):Prop :=
  (Region.noSelect ops&&iO_ ops listed is)=true→(∀ v,v.sat H→Z_ Γ v→v.sat Hs∧Z_ Γs v)→Any P R N v0 H0 ops Hs Γs (fuel+is.length) listed K fr H Γ
theorem K_ (fuel:Nat) (e:List Nat) (k:(Region.noSelect ops&&iO_ ops listed e)=true) (m:∀ v,v.sat H→Z_ Γ v→v.sat Hs∧Z_ Γs v) (h:Sq P R N v0 H0 ops Hs Γs e fuel listed K fr H Γ):Any P R N v0 H0 ops Hs Γs (fuel+e.length) listed K fr H Γ:=h k m
theorem bv_ (h:Any P R N v0 H0 ops Hs Γs fuel listed K fr H Γ):Sq P R N v0 H0 ops Hs Γs [] fuel listed K fr H Γ:=fun _ _=>h
theorem mS_ {i:Nat} {e:List Nat} (h:(Region.noSelect ops&&iO_ ops listed (i::e))=true):Region.noSelect ops=true∧Region.free .any ops listed i=true∧(Region.ready .any ops listed).contains i=true∧(Region.noSelect ops&&iO_ ops (listed.setIfInBounds i true) e)=true:=by
  simp only[iO_,Bool.and_eq_true]at h ⊢;exact⟨h.1,h.2.1,h.2.2.1,h.1,h.2.2.2⟩
theorem N_ [NoPan R] {i:Nat} {m:List Nat} {e:Op} {x:Value} (hi:ops[i]? = some ⟨some d,e,ty,ps,af,none⟩) (E:Yld P N fr Hs Γs e ty x) (y:Nat.blt d N.n=true)
    (h:Sq P R N v0 H0 ops Hs Γs m fuel (listed.setIfInBounds i true) K ((d,x)::fr) H Γ):Sq P R N v0 H0 ops Hs Γs (i::m) fuel listed K fr H Γ:=fun v k=>by
  obtain⟨q,B,C,A⟩:=mS_ v;exact wZ_ i hi q B C E y k (h A k)
theorem fr_ [NoPan R] {i:Nat} {k:List Nat} {e:Op} {X:Bool} (hi:ops[i]? = some ⟨some d,e,ty,ps,af,none⟩) (q:Yld P N fr Hs Γs e ty (.bool X)) (m:Nat.blt d N.n=true)
    (h:∀ r:Bool,X=r→Sq P R N v0 H0 ops Hs Γs k fuel (listed.setIfInBounds i true) K ((d,.bool r)::fr) H Γ):Sq P R N v0 H0 ops Hs Γs (i::k) fuel listed K fr H Γ:=N_ hi q m (h X rfl)
theorem bu_ [NoPan R] {i:Nat} {q:List Nat} {k:Op} {x:Value} {j t:Nat} {e:Bool} (hi:ops[i]? = some ⟨some d,k,ty,ps,af,some (j,e)⟩) (A:iC_ ops j=some t) (E:Fr.get fr t=some (.bool e)) (B:Yld P N fr Hs Γs k ty x) (F:Nat.blt d N.n=true)
    (h:Sq P R N v0 H0 ops Hs Γs q fuel (listed.setIfInBounds i true) K ((d,x)::fr) H Γ):Sq P R N v0 H0 ops Hs Γs (i::q) fuel listed K fr H Γ:=fun y m=>by
  obtain⟨v,I,C,G⟩:=mS_ y;exact uO_ i hi v I C A E B F m (h G m)
theorem em_ [NoPan R] {i:Nat} {m:List Nat} {k:Op} {X:Bool} {j t:Nat} {e:Bool} (hi:ops[i]? = some ⟨some d,k,ty,ps,af,some (j,e)⟩) (x:iC_ ops j=some t) (q:Fr.get fr t=some (.bool e)) (y:Yld P N fr Hs Γs k ty (.bool X)) (v:Nat.blt d N.n=true)
    (h:∀ r:Bool,X=r→Sq P R N v0 H0 ops Hs Γs m fuel (listed.setIfInBounds i true) K ((d,.bool r)::fr) H Γ):Sq P R N v0 H0 ops Hs Γs (i::m) fuel listed K fr H Γ:=bu_ hi x q y v (h X rfl)
theorem sq_no [NoPan R] {i:Nat} {q:List Nat} {y:Op} {x:Value} {j t:Nat} {e:Bool} (hi:ops[i]? = some ⟨some d,y,ty,ps,af,some (j,e)⟩) (B:iC_ ops j=some t) (E:Fr.get fr t=some x) (k:(match x with|.bool b=>Bool.xor b e|_=>true)=true) (F:Nat.blt d N.n=true)
    (h:Sq P R N v0 H0 ops Hs Γs q fuel (listed.setIfInBounds i true) K ((d,undef)::fr) H Γ):Sq P R N v0 H0 ops Hs Γs (i::q) fuel listed K fr H Γ:=fun A m=>by
  obtain⟨v,I,C,G⟩:=mS_ A;exact any_no i hi v I C B E k F m (h G m)
def Nx (P:Program) (R:Exit→Act→World→Prop) (ops:Array Oper) (Hs:Hp) (Γs:List Fct) (fuel:Nat) (listed:Array Bool) (K:List Kt) (a:Act) (w:World):Prop :=
  SW Hs Γs w∧wpAnyH P .any ops (post P R K) (SW Hs Γs) fuel listed a w
theorem s_ (i:Nat) {o:Oper} (hi:ops[i]? = some o) (C:Region.ready .any ops listed=[i]) (h:Ops P R N v0 H0 ops [o] (.inv (Nx P R ops Hs Γs fuel (listed.setIfInBounds i true) K)::K) fr H Γ):Any P R N v0 H0 ops Hs Γs (fuel+1) listed K fr H Γ:=by
 intro a v B y m A;refine wpAnyH_all C zB_ fun j k=>?_;simp only[List.mem_singleton]at k;subst k;have:=h a v B y m A;unfold wpOp;simp only[hi];unfold wpList at this
 split
 ·rename_i e
  rw[if_pos e]at this;rcases this with q|q
  ·left
   unfold Oper.wp at q ⊢;generalize (execOp a.eval o).run P v.w=r at q ⊢
   cases r with
   | ok n w' =>
     cases n<;>simp only[Oper.upon]at q ⊢<;>exact q
   | halt x w' =>
     cases x<;>simp only[Oper.upon]at q ⊢
     case panic u=>exact q
  exact .inr q
 rename_i e
 rw[if_neg e]at this;exact this
theorem O_ (q:∀ v,v.sat H→Z_ Γ v→v.sat Hs∧Z_ Γs v) (h:Any P R N v0 H0 ops Hs Γs fuel listed K fr H Γ):Ok N v0 H0 (Nx P R ops Hs Γs fuel listed K) fr H Γ :=
  fun a v x e m k=>⟨⟨v,rfl,q v e k⟩,h a v x e m k⟩
theorem rF_ (q:Region.ready .any ops listed=[]) (h:Fin P R N v0 H0 K fr H Γ):Any P R N v0 H0 ops Hs Γs fuel listed K fr H Γ :=
  fun a v m k e x=>wpAnyH_done q (h a v m k e x) fuel
theorem fl_ {α:Type} [BEq α] [LawfulBEq α] {a b:α} (h:(a != b)=true):a≠b:=by simpa using h
theorem fn_ {α:Type} [BEq α] [LawfulBEq α] {a b:α} (h:(a != b)=false):a=b:=by simpa using h
theorem xN_ {N:Nat} {fn:Func} {t s u:Nat} {ι:Type} {F:Hp} {ret:ι→Value} {H':ι→Hp} {Γ':ι→List Fct} {q A y:Value} (G:fn.results=#[.tmp t,.tmp s,.tmp u]) (x:ι) (k:Fr.get fr t=some q) (h:Fr.get fr s=some A) (m:Fr.get fr u=some y) (J:.tuple #[q,A,y]=ret x) (M:H.Perm (H' x++F))
    (L:∀ v,v.sat H→Z_ Γ v→Z_ (Γ' x) v):Ok N v0 H0 (bodyPost P fn (kD_ v0 H0 ret H' Γ') .ret) fr H Γ :=
  dK_ M L fun a v e E I O=>⟨e.defers,ret x,by rw[← J];have B:=e.val t _ k;have C:=e.val s _ h;have Q:=e.val u _ m;simp[results,G,B,C,Q],x,v,rfl,rfl,E,O,I⟩
theorem hE_ {f:FuncId} {args:Array Value} {r:Value} (m:hh_ P f) (h:∀ w,Calls P f args w fun e w'=>e=.returned r∧w'.heap=w.heap∧w'.os=w.os∧w'.tape=w.tape∧w'.output=w.output∧w.drawn≤w'.drawn):Fn0 P f args r :=
  ⟨m,fun v C _=>(h v.w).mono fun e w' ⟨y,k,x,E,A,q⟩=>⟨(),⟨v.im,w',v.sl⟩,y,rfl,⟨by simp,by simp,fun b B=>by show b<w'.heap.size;rw[k];exact C.lt b B⟩,trivial,
    ⟨x,E,A,by simp[k],fun b _ _=>by show w'.heap[b]? = _;rw[k],fun _ h=>h,fun _ h=>.inl h,fun _ h=>by simp at h,rfl,.inr q⟩⟩⟩
theorem bI_ {f:FuncId} {g:Operand} {first cap:List Value} {l:List Oper} {k:List Operand} {e:Array TypeId} {vs:List Value} {Hc F:Hp} {h:List Fct} {X:Bool}
    (B:Tri P f (first++vs++cap).toArray Hc h (fun _:Unit=>.bool X) (fun _=>Hc) (fun _=>[])) (q:Fr.ev fr g=some (.func (.func f) first.toArray cap.toArray)) (m:Fr.evs fr k=some vs) (A:H.Perm (Hc++F)) (y:∀ v,v.sat H→Z_ Γ v→Z_ h v) (x:Nat.blt d N.n=true)
    (hk:∀ r:Bool,X=r→Ops P R N v0 H0 ops l K ((d,.bool r)::fr) (Hc++F) Γ) :
    Ops P R N v0 H0 ops (⟨some d,.call ⟨.value g,k.toArray,e⟩,ty,ps,af,none⟩::l) K fr H Γ :=
  ap_ B q m A y x fun _=>hk X rfl
theorem y_ {k:Act→World→Prop} {H':Hp} (e:H.Perm H') (h:Ok N v0 H0 k fr H' Γ):Ok N v0 H0 k fr H Γ :=
  fun a v x y m A=>h a v x (y.perm e) (m.subR fun b q=>(e.map Prod.fst).mem_iff.2 q) A
theorem gx_:∀ {H:Hp} {i:Nat} {p:Nat×Obj},H[i]? = some p→H.Perm (p::H.eraseIdx i)
  | [],i,p,h=>by simp at h
  | x::H,0,p,h=>by simp at h;subst h;exact .refl _
  | x::H,i+1,p,h=>by
    have:=gx_ (H:=H) (i:=i) (p:=p) zV_;exact (List.Perm.cons x this).trans (List.Perm.swap p x _)
theorem qG_:∀ {H:Hp} {i:Nat} {p q:Nat×Obj},H[i]? = some p→(q::H.eraseIdx i).Perm (H.set i q)
  | [],i,p,q,h=>by simp at h
  | x::H,0,p,q,h=>by exact .refl _
  | x::H,i+1,p,q,h=>by
    have:=qG_ (H:=H) (i:=i) (p:=p) (q:=q) zV_;exact (List.Perm.swap x q _).trans (List.Perm.cons x this)
theorem uq_ {f:FuncId} {l:List Oper} {k:List Operand} {e:Array TypeId} {vs:List Value} (i:Nat) {b:Nat} {o o':Obj} {h:List Fct} {r:Value}
    (y:Tri P f vs.toArray [(b,o)] h (fun _:Unit=>r) (fun _=>[(b,o')]) (fun _=>[])) (m:Fr.evs fr k=some vs) (hi:H[i]? = some (b,o)) (x:∀ v,v.sat H→Z_ Γ v→Z_ h v) (q:Nat.blt d N.n=true)
    (hk:Ops P R N v0 H0 ops l K ((d,r)::fr) (H.set i (b,o')) Γ) :
    Ops P R N v0 H0 ops (⟨some d,.call ⟨.value (.func f),k.toArray,e⟩,ty,ps,af,none⟩::l) K fr H Γ :=
  g_ y m (gx_ hi) x q fun _=>y_ (qG_ hi) hk
theorem nk_ {f:FuncId} {l:List Oper} {k:List Operand} {e:Array TypeId} {vs:List Value} (i:Nat) {b:Nat} {o o':Obj} {h:List Fct} {X:Bool}
    (y:Tri P f vs.toArray [(b,o)] h (fun _:Unit=>.bool X) (fun _=>[(b,o')]) (fun _=>[])) (m:Fr.evs fr k=some vs) (hi:H[i]? = some (b,o)) (x:∀ v,v.sat H→Z_ Γ v→Z_ h v) (q:Nat.blt d N.n=true)
    (hk:∀ r:Bool,X=r→Ops P R N v0 H0 ops l K ((d,.bool r)::fr) (H.set i (b,o')) Γ) :
    Ops P R N v0 H0 ops (⟨some d,.call ⟨.value (.func f),k.toArray,e⟩,ty,ps,af,none⟩::l) K fr H Γ :=
  uq_ i y m hi x q (hk X rfl)
end any
end Go.Sx
namespace Go.Sx
open Go
structure Opn (F:Fence):Prop where
  fn:∀ f,F.fn f
  depth:F.depth=none
theorem da_:Opn Fence.wide:=⟨fun _=>trivial,rfl⟩
theorem L_ (l:Nat):Opn (Fence.wide.inRound l):=⟨fun _=>trivial,rfl⟩
theorem pS_ {F:Fence} {n:Nat} {P:Program} {f:FuncId} {args:Array Value} {w:World} {R:Ending→World→Prop} (h:Calls P f args w R) (l:Nat):CallsIn (Fence.wide.inRound l) n P f args w R :=
  (callsIn_wide (n:=n)).2 h
structure SatD (N:Nat) (D:List Deferred) (fr:Fr) (a:Act):Prop where
  sat:Fr.sat N fr ⟨a.tmps,[]⟩
  defers:a.defers=D
theorem SatD.put {N:Nat} {D:List Deferred} {fr:Fr} {a:Act} {d:Nat} {x:Value} (h:SatD N D fr a) (e:Nat.blt d N=true):SatD N D ((d,x)::fr) (a.put (some d) x) :=
  ⟨h.sat.put e,h.defers⟩
def OkD (N:Nat) (D:List Deferred) (v0:Vw) (H0:Hp) (k:Act→World→Prop) (fr:Fr) (H:Hp) (Γ:List Fct):Prop :=
  ∀ a v,SatD N D fr a→v.sat H→v0.to H0 v H→Z_ Γ v→k a v.w
def ek_ (F:Fence) (n:Nat) (P:Program) (R:Exit→Act→World→Prop):List Kt→Exit→Act→World→Prop
  | [],e,a,w=>R e a w
  | .seq c::K,.normal,a,w=>c.wpIn F n P (ek_ F n P R K) a w
  | .seq _::K,e,a,w=>ek_ F n P R K e a w
  | .inv J::_,.normal,a,w=>J a w
  | .inv _::K,e,a,w=>ek_ F n P R K e a w
  | .blk id::K,.exit id',a,w=>if id'=id then ek_ F n P R K .normal a w else ek_ F n P R K (.exit id') a w
  | .blk _::K,e,a,w=>ek_ F n P R K e a w
section code
variable {F:Fence} {n:Nat} {P:Program} {N:Nat} {D:List Deferred} {v0:Vw} {H0:Hp} {R:Exit→Act→World→Prop} {K:List Kt} {fr:Fr} {H:Hp} {Γ:List Fct}
theorem oB_ (K:List Kt) (a:Act) (w:World) (h:R .ret a w):ek_ F n P R K .ret a w:=by
  induction K with
  | nil=>exact h
  | cons x K ih=>cases x<;>exact ih
theorem nd_ {c:Code} {e:List Kt} {a:Act} {w:World}:∀ {K:List Kt},nxt K=some (c,e)→c.wpIn F n P (ek_ F n P R e) a w→ek_ F n P R K .normal a w
  | [],h,_=>by simp[nxt]at h
  | .seq _::K,h,hp=>by simp only[nxt,Option.some.injEq,Prod.mk.injEq]at h;obtain⟨rfl,rfl⟩:=h;exact hp
  | .blk _::K,h,hp=>nd_ (K:=K) (by simpa [nxt] using h) hp
  | .inv _::K,h,_=>by simp[nxt]at h
theorem oC_ {a:Act} {w:World}:∀ {K:List Kt},ge_ K=true→R .normal a w→ek_ F n P R K .normal a w
  | [],_,hp=>hp
  | .inv _::K,h,_=>by simp[ge_]at h
  | .blk _::K,h,hp=>oC_ (K:=K) (by simpa [ge_] using h) hp
  | .seq _::K,h,_=>by simp[ge_]at h
abbrev iL_ (F:Fence) (n:Nat) (P:Program) (R:Exit→Act→World→Prop) (N:Nat) (D:List Deferred) (v0:Vw) (H0:Hp) (c:Code) (K:List Kt) (fr:Fr) (H:Hp) (Γ:List Fct):Prop :=
  OkD N D v0 H0 (c.wpIn F n P (ek_ F n P R K)) fr H Γ
abbrev sT_ (F:Fence) (n:Nat) (P:Program) (R:Exit→Act→World→Prop) (N:Nat) (D:List Deferred) (v0:Vw) (H0:Hp) (K:List Kt) (fr:Fr) (H:Hp) (Γ:List Fct):Prop :=
  OkD N D v0 H0 (ek_ F n P R K .normal) fr H Γ
abbrev fI_ (F:Fence) (n:Nat) (P:Program) (R:Exit→Act→World→Prop) (N:Nat) (D:List Deferred) (v0:Vw) (H0:Hp) (ops:Array Oper) (l:List Oper) (K:List Kt) (fr:Fr) (H:Hp) (Γ:List Fct):Prop :=
  OkD N D v0 H0 (wpListIn F n P ops (ek_ F n P R K) l) fr H Γ
theorem cY_ {x y:Code} (h:iL_ F n P R N D v0 H0 x (.seq y::K) fr H Γ):iL_ F n P R N D v0 H0 (.seq x y) K fr H Γ :=
  fun a v A q k B=>wpIn_seq (wpIn_mono (h a v A q k B) fun e a w m=>by cases e<;>exact m)
theorem eu_ {k:Nat} {c:Code} (h:iL_ F n P R N D v0 H0 c (.blk k::K) fr H Γ):iL_ F n P R N D v0 H0 (.block k c) K fr H Γ :=
  fun a v y x m A=>wpIn_block (wpIn_mono (h a v y x m A) fun e a w q=>by cases e<;>exact q)
theorem ov_ (h:sT_ F n P R N D v0 H0 K fr H Γ):iL_ F n P R N D v0 H0 .skip K fr H Γ :=
  fun a v k m e q=>wpIn_skip (h a v k m e q)
theorem mX_ (h:OkD N D v0 H0 (R .ret) fr H Γ):iL_ F n P R N D v0 H0 .ret K fr H Γ :=
  fun a v k m e q=>wpIn_ret (oB_ K a v.w (h a v k m e q))
theorem cd_ {c:Code} {e:List Kt} (m:nxt K=some (c,e)) (h:iL_ F n P R N D v0 H0 c e fr H Γ):sT_ F n P R N D v0 H0 K fr H Γ :=
  fun a v x q k y=>nd_ m (h a v x q k y)
theorem dt_ (k:ge_ K=true) (h:OkD N D v0 H0 (R .normal) fr H Γ):sT_ F n P R N D v0 H0 K fr H Γ :=
  fun a v q m e x=>oC_ k (h a v q m e x)
theorem aI_ {m:Nat} {l:List Oper} (h:fI_ F n P R N D v0 H0 l.toArray l K fr H Γ):iL_ F n P R N D v0 H0 (.region m l.toArray false) K fr H Γ :=
  fun a v q k e x=>wpIn_region_lit (h a v q k e x)
theorem bp_ {ops:Array Oper} (h:sT_ F n P R N D v0 H0 K fr H Γ):fI_ F n P R N D v0 H0 ops [] K fr H Γ :=
  fun a v m k e q=>wpListIn_nil (h a v m k e q)
theorem fw_ {c:Operand} {x y:Code} (h:Fr.ev fr c=some (.bool true)) (m:iL_ F n P R N D v0 H0 x K fr H Γ):iL_ F n P R N D v0 H0 (.cond c x y) K fr H Γ :=
  fun a v e q k A=>wpIn_cond_true (e.sat.ev h) (m a v e q k A)
theorem lI_ {c:Operand} {x y:Code} (h:Fr.ev fr c=some (.bool false)) (m:iL_ F n P R N D v0 H0 y K fr H Γ):iL_ F n P R N D v0 H0 (.cond c x y) K fr H Γ :=
  fun a v e q k A=>wpIn_cond_false (e.sat.ev h) (m a v e q k A)
def nq_:Op→Bool
  | .defer _=>false
  | _=>true
theorem semAt_eq {o:Oper} (h:nq_ o.op=true) (ro:Option Nat) (ρ:Operand→Value):o.semAt ro ρ=execOp ρ o :=
  Oper.semAt_eq ro ρ o (fun c e=>by rw[e]at h;cases h)
variable {ops:Array Oper} {l:List Oper} {d:Nat} {ty:TypeId} {ps:String} {af:Array Edge}
theorem rM_ {o:Oper} {a:Act} {w:World} {B A:Act→World→Prop} {Q:Exit→Act→World→Prop} (y:∀ a w,B a w→A a w) (h:o.wpIn F n P a w B Q):o.wpIn F n P a w A Q:=by
  refine⟨h.1,?_⟩;have k:=h.2;generalize (o.semAt F.round a.eval).run P w=r at k ⊢
  cases r with
  | ok nx w' =>
    cases nx<;>simp only[Oper.uponIn]at k ⊢<;>first|exact y _ _ k|exact k|skip
    case enter f args=>exact⟨k.1,k.2.mono fun e q m=>by cases e<;>first|exact y _ _ m|exact m⟩
    case row row args=>exact⟨k.1,k.2.mono fun v q m=>y _ _ m⟩
    case round l f tmps assign body=>exact⟨k.1,k.2.mono fun e q m=>by cases e<;>first|exact y _ _ m|exact m⟩
  | halt x w'=>cases x<;>simp only[Oper.uponIn]at k ⊢<;>exact k
theorem ed_ {o:Oper} (k:o.guard=none) (h:∀ a v,SatD N D fr a→v.sat H→v0.to H0 v H→Z_ Γ v→o.wpIn F n P a v.w (wpListIn F n P ops (ek_ F n P R K) l) (ek_ F n P R K)) :
    fI_ F n P R N D v0 H0 ops (o::l) K fr H Γ :=
  fun a v q x e y=>wpListIn_plain k fun A m=>rM_ m (h a v q x e y)
theorem Q_ {e:Op} {x:Value} (B:Opn F) (C:Yld P N fr H Γ e ty x) (h:nq_ e=true) (A:Nat.blt d N=true)
    (hk:fI_ F n P R N D v0 H0 ops l K ((d,x)::fr) H Γ):fI_ F n P R N D v0 H0 ops (⟨some d,e,ty,ps,af,none⟩::l) K fr H Γ :=
  ed_ rfl fun a v k m y q=>by
    refine⟨fun f _=>B.fn f,?_⟩;rw[semAt_eq h];have:=C ⟨a.tmps,[]⟩ v k.sat m q (some d) ps af;rw[show a.eval=Act.eval ⟨a.tmps,[]⟩ from rfl,this];exact hk _ v (k.put A) m y q
theorem ur_ {e:Op} {X:Bool} (k:Opn F) (m:Yld P N fr H Γ e ty (.bool X)) (h:nq_ e=true) (q:Nat.blt d N=true)
    (hk:∀ r:Bool,X=r→fI_ F n P R N D v0 H0 ops l K ((d,.bool r)::fr) H Γ):fI_ F n P R N D v0 H0 ops (⟨some d,e,ty,ps,af,none⟩::l) K fr H Γ :=
  Q_ k m h q (hk X rfl)
theorem nl_ {t:TypeId} {z:Value} (y:Opn F) (k:∀ w,(zeroValue t).run P w=.ok z w) (x:Nat.blt d N=true)
    (hk:∀ b,fI_ F n P R N D v0 H0 ops l K ((d,.pointer (some ⟨b,0,none⟩))::fr) ((b,.cells z.cells t (0,0))::H) Γ):fI_ F n P R N D v0 H0 ops (⟨some d,.alloc t,ty,ps,af,none⟩::l) K fr H Γ :=
  ed_ rfl fun a v A h q B=>by
    refine⟨fun f _=>y.fn f,?_⟩;rw[semAt_eq rfl]
    have m:(execOp a.eval ⟨some d,.alloc t,ty,ps,af,none⟩).run P v.w=.ok (.value (.pointer (some ⟨v.w.heap.size,0,none⟩))) (v.w.alloc (.cells z.cells t (0,0))):=by
      simp[execOp,k,Instr.alloc,newVar,newRow,newObj];rfl
    rw[m];obtain⟨C,e⟩:=fK_ (w':=v.w.alloc (.cells z.cells t (0,0))) (o:=.cells z.cells t (0,0)) h rfl rfl rfl rfl (Nat.le_refl _);exact hk v.w.heap.size _ ⟨v.im,_,v.sl⟩ (A.put x) C (q.trans e) (ao_ (e.le h) B)
theorem gc_ {t:TypeId} {x y:Operand} {b off m:Nat} (S:Opn F) (i:Nat) {cur:Array Value} {T:TypeId} {u:Value} (V:∀ w,(sizeOf t).run P w=.ok m w)
    (W:Fr.ev fr x=some (.pointer (some ⟨b,off,none⟩))) (Q:Fr.ev fr y=some u) (hi:H[i]? = some (b,.cells cur T (0,0))) (B:u.cells.size=m) (M:Nat.ble (off+m) cur.size=true) (q:u.cells.toList.all Value.oneCell'=true)
    (hk:fI_ F n P R N D v0 H0 ops l K fr (H.set i (b,.cells (cur.toList.take off++u.cells.toList++cur.toList.drop (off+m)).toArray T (0,0))) Γ) :
    fI_ F n P R N D v0 H0 ops (⟨none,.store t x y,ty,ps,af,none⟩::l) K fr H Γ :=
  ed_ rfl fun a v h A O X=>by
    refine⟨fun f _=>S.fn f,?_⟩;rw[semAt_eq rfl];have E:=(A.own _ (List.mem_of_getElem? hi)).1;have e:=run_storeCells_at P b off T u.cells.toList 0 cur v.w E (by simp[B];exact Nat.le_of_ble_eq_true M) (fun c G=>List.all_eq_true.1 q c G)
    have L:(execOp a.eval ⟨none,.store t x y,ty,ps,af,none⟩).run P v.w=.ok .skip (v.w.setRow b (cur.toList.take off++u.cells.toList++cur.toList.drop (off+m)).toArray):=by
      simp only[Nat.add_zero,Array.length_toList,B]at e;have I:a.eval x=.pointer (some ⟨b,off,none⟩):=h.sat.ev W;have J:a.eval y=u:=h.sat.ev Q;simp[execOp,I,J,Instr.storeAt,Instr.sureAddr,storeVar,V,B,e]
    rw[L];obtain⟨U,C⟩:=eL_ (w':=v.w.setRow b (cur.toList.take off++u.cells.toList++cur.toList.drop (off+m)).toArray) A hi rfl rfl rfl (Nat.le_refl _) zB_ (setRow_heap _ _ _ _ _ _ E) (fun k hk=>setRow_other _ _ _ _ hk);exact hk a _ h U (O.trans C) (ao_ (C.le A) X)
theorem ut_ {r:Nat} {f:FuncId} {y:List Operand} {m:Array TypeId} {vs:List Value} {ι:Type} {Hc G:Hp} {A:List Fct} {q:ι→Value} {H':ι→Hp} {Γ':ι→List Fct}
    (C:Tri P f vs.toArray Hc A q H' Γ') (W:Fr.evs fr y=some vs) (I:H.Perm (Hc++G)) (Q:∀ v,v.sat H→Z_ Γ v→Z_ A v) (X:Nat.blt d N=true)
    (hk:∀ x,fI_ (Fence.wide.inRound r) n P R N D v0 H0 ops l K ((d,q x)::fr) (H' x++G) (Γ' x++Γ)) :
    fI_ (Fence.wide.inRound r) n P R N D v0 H0 ops (⟨some d,.call ⟨.value (.func f),y.toArray,m⟩,ty,ps,af,none⟩::l) K fr H Γ :=
  ed_ rfl fun a v B E O J=>by
    refine⟨fun f _=>trivial,?_⟩;rw[semAt_eq rfl]
    have M:(execOp a.eval ⟨some d,.call ⟨.value (.func f),y.toArray,m⟩,ty,ps,af,none⟩).run P v.w=.ok (.enter f vs.toArray) v.w:=by
      have L:y.map a.eval=vs:=B.sat.evs W;simp[execOp,resolve,Deferred.ofValue,Act.eval,invoke,L,C.callable _ v.w]
    rw[M];have k:=E.perm I;refine⟨fun h=>(by cases h),(pS_ (F:=Fence.wide) (C.run v k.sub (Q v E J)) r).mono ?_⟩;rintro e w' ⟨x,S,rfl,rfl,T,U,V⟩;obtain⟨k1,k2⟩:=V.frame k T;exact hk x _ S (B.put X) k1 (O.trans (k2.permL I.symm)) (eR_.2 ⟨U,ao_ (k2.le k) J⟩)
def jg_ (P:Program) (l:Nat) (x:Value) (H:Hp) (Γ:List Fct) {ι:Type} (ret:ι→Value) (H':ι→Hp) (Γ':ι→List Fct):Prop :=
  ∀ v,v.sat H→Z_ Γ v→∃ fn tmps assign body,(Instr.yield l #[x]).run P v.w=.ok (.round l fn tmps assign body) v.w ∧
    ∀ n,RoundIn Fence.wide n P l fn tmps assign body v.w fun e w'=>∃ x v',e=.returned (ret x)∧v'.w=w'∧v'.sat (H' x)∧Z_ (Γ' x) v'∧v.to H v' (H' x)
theorem hy_ {r:Nat} {g y:Operand} {A:Array TypeId} {u:Value} {ι:Type} {Hc G:Hp} {J:List Fct} {C:ι→Value} {H':ι→Hp} {Γ':ι→List Fct}
    (Z:jg_ P r u Hc J C H' Γ') (V:Fr.ev fr g=some (.func (.yield r) #[] #[])) (W:Fr.ev fr y=some u) (M:H.Perm (Hc++G)) (X:∀ v,v.sat H→Z_ Γ v→Z_ J v) (hN:Nat.blt d N=true)
    (hk:∀ x,fI_ Fence.wide n P R N D v0 H0 ops l K ((d,C x)::fr) (H' x++G) (Γ' x++Γ)) :
    fI_ Fence.wide n P R N D v0 H0 ops (⟨some d,.call ⟨.value g,#[y],A⟩,ty,ps,af,none⟩::l) K fr H Γ :=
  ed_ rfl fun a v E L U O=>by
    refine⟨fun f _=>trivial,?_⟩;rw[semAt_eq rfl];have m:=L.perm M;obtain⟨fn,B,k,q,I,hR⟩:=Z v m.sub (X v L O)
    have T:(execOp a.eval ⟨some d,.call ⟨.value g,#[y],A⟩,ty,ps,af,none⟩).run P v.w=.ok (.round r fn B k q) v.w:=by
      have Q:a.eval g=.func (.yield r) #[] #[]:=E.sat.ev V;have S:a.eval y=u:=E.sat.ev W;simp[execOp,resolve,Deferred.ofValue,Q,S,invoke,I]
    rw[T];refine⟨fun h=>(by cases h),(hR _).mono ?_⟩;rintro e w' ⟨x,Y,rfl,rfl,g1,g2,g3⟩;obtain⟨k1,k2⟩:=g3.frame m g1;exact hk x _ Y (E.put hN) k1 (U.trans (k2.permL M.symm)) (eR_.2 ⟨g2,ao_ (k2.le m) O⟩)
theorem gK_ {k:Act→World→Prop}:OkD N [] v0 H0 k fr H Γ↔Ok N v0 H0 k fr H Γ :=
  ⟨fun h a v e q m x=>h a v ⟨⟨e.size,rfl,e.val⟩,e.defers⟩ q m x,fun h a v e q m x=>h a v ⟨e.sat.size,e.defers,e.sat.val⟩ q m x⟩
end code
end Go.Sx
