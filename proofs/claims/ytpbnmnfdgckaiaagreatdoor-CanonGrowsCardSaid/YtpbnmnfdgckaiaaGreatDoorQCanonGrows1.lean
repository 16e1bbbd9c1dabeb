/-
  Part of the proof of the law CanonGrows over this seat: the small logic, the data, the contracts of functions (no condition).
-/
import Derived.Test.YtpbnmnfdgckaiaaGreatDoorQCanonGrows0
import Derived.WalkKit
import Derived.OrdersHeld
import Derived.Deep.LoopGhost
import Derived.RangeFuncIn
import Derived.RangeFuncLeaves
import Derived.TacticsIn
set_option linter.unusedVariables false
set_option linter.unusedSimpArgs false
set_option linter.unusedSectionVars false
set_option maxHeartbeats 1000000
namespace Go.Sx
open Go
structure Vw where
  im:Nat→Prop
  w:World
  sl:Prop
abbrev Fr:=List (Nat×Value)
abbrev Hp:=List (Nat×Obj)
def Fr.get:Fr→Nat→Option Value
  | [],_=>none
  | (t,v)::r,n=>bif Nat.beq t n then some v else Fr.get r n
structure Nf where
  n:Nat
  D:List Deferred
instance:Coe Nat Nf:=⟨fun n=>⟨n,[]⟩⟩
structure Fr.sat (N:Nf) (fr:Fr) (a:Act):Prop where
  size:a.tmps.size=N.n
  defers:a.defers=N.D
  val:∀ t v,Fr.get fr t=some v→a.tmps[t]? = some v
structure Vw.sat (v:Vw) (H:Hp):Prop where
  own:∀ p,p∈H→v.w.heap[p.1]? = some p.2∧¬ v.im p.1
  nodup:(H.map Prod.fst).Nodup
  lt:∀ b,v.im b→b<v.w.heap.size
structure Vw.to (v:Vw) (H:Hp) (v':Vw) (H':Hp):Prop where
  os:v'.w.os=v.w.os
  tape:v'.w.tape=v.w.tape
  output:v'.w.output=v.w.output
  size:v.w.heap.size≤v'.w.heap.size
  block:∀ b,b<v.w.heap.size→b ∉ H.map Prod.fst→v'.w.heap[b]? = v.w.heap[b]?
  imUp:∀ b,v.im b→v'.im b
  imNew:∀ b,v'.im b→v.im b∨b∈H.map Prod.fst∨v.w.heap.size≤b
  hNew:∀ b,b∈H'.map Prod.fst→b∈H.map Prod.fst∨v.w.heap.size≤b
  sl:v'.sl=v.sl
  dr:v.sl∨v.w.drawn≤v'.w.drawn
structure Vw.le (v v':Vw):Prop where
  imUp:∀ b,v.im b→v'.im b
  block:∀ b,v.im b→v'.w.heap[b]? = v.w.heap[b]?
  sl:v'.sl=v.sl
structure Fct where
  p:Vw→Prop
  mono:∀ v v',v.le v'→p v→p v'
def ag_:List Fct→Vw→Prop
  | [],_=>True
  | f::l,v=>f.p v∧ag_ l v
theorem fm_ {a b:List Fct} {v:Vw}:ag_ (a++b) v↔ag_ a v∧ag_ b v:=by
  induction a with
  | nil=>simp[ag_]
  | cons f l ih=>simp[ag_,ih,and_assoc]
theorem az_ {l:List Fct} {v d:Vw} (h:v.le d):ag_ l v→ag_ l d:=by
  induction l with
  | nil=>exact fun _=>trivial
  | cons f l ih=>exact fun⟨a,b⟩=>⟨f.mono _ _ h a,ih b⟩
theorem Vw.to.le {v e:Vw} {H H':Hp} (d:v.sat H) (h:v.to H e H'):v.le e :=
  ⟨h.imUp,fun b k=>h.block b (d.lt b k) (fun hm=>by
    obtain⟨p,m,rfl⟩:=List.mem_map.1 hm;exact (d.own p m).2 k),h.sl⟩
theorem Vw.to.refl (v:Vw) (H:Hp):v.to H v H :=
  ⟨rfl,rfl,rfl,Nat.le_refl _,fun _ _ _=>rfl,fun _ h=>h,fun _ h=>.inl h,fun _ h=>.inl h,rfl,.inr (Nat.le_refl _)⟩
theorem Vw.to.trans {a b c:Vw} {v q Hc:Hp} (h:a.to v b q) (k:b.to q c Hc):a.to v c Hc where
 os:=k.os.trans h.os
 tape:=k.tape.trans h.tape
 output:=k.output.trans h.output
 size:=Nat.le_trans h.size k.size
 block:=fun x e y=>by
   rw[k.block x (Nat.lt_of_lt_of_le e h.size) (fun hm=>(h.hNew x hm).elim y (fun hl=>by omega))];exact h.block x e y
 imUp:=fun x e=>k.imUp x (h.imUp x e)
 imNew:=fun x e=>by
   rcases k.imNew x e with d|d|d
   · exact h.imNew x d
   · exact .inr (h.hNew x d)
   · exact .inr (.inr (Nat.le_trans h.size d))
 hNew:=fun x e=>by
   rcases k.hNew x e with d|d
   · exact h.hNew x d
   · exact .inr (Nat.le_trans h.size d)
 sl:=k.sl.trans h.sl
 dr:=by
   rcases h.dr with d|d
   · exact .inl d
   · rcases k.dr with m|m
     · exact .inl (by rw[← h.sl];exact m)
     · exact .inr (Nat.le_trans d m)
theorem Vw.to.frame {v G:Vw} {H H' F:Hp} (L:v.sat (H++F)) (q:G.sat H') (h:v.to H G H') :
    G.sat (H'++F)∧v.to (H++F) G (H'++F):=by
  have A:=L.nodup;rw[List.map_append,List.nodup_append]at A;have J:∀ p,p∈F→p.1 ∉ H.map Prod.fst:=fun p k hm=>A.2.2 _ hm _ (List.mem_map_of_mem k) rfl
  have m:∀ p,p∈F→p.1<v.w.heap.size:=fun p k=>by
    have:=(L.own p (List.mem_append_right _ k)).1;exact (Array.getElem?_eq_some_iff.1 this).1
  have E:∀ p,p∈F→p.1 ∉ H'.map Prod.fst:=fun p k hm=>by
    rcases h.hNew _ hm with d|d
    · exact J p k d
    · have:=m p k;omega
  refine⟨⟨fun p k=>?_,?_,q.lt⟩,?_⟩
  · rcases List.mem_append.1 k with d|d
    · exact q.own p d
    · have B:=L.own p (List.mem_append_right _ d)
      refine⟨by rw[h.block _ (m p d) (J p d)];exact B.1,fun hi=>?_⟩;rcases h.imNew _ hi with I|I|I
      · exact B.2 I
      · exact J p d I
      · have:=m p d;omega
  · rw[List.map_append,List.nodup_append]
    refine⟨q.nodup,A.2.1,fun x M y Q e=>?_⟩;subst e;obtain⟨p,k,rfl⟩:=List.mem_map.1 Q;exact E p k M
  · refine⟨h.os,h.tape,h.output,h.size,fun b C O=>h.block b C (fun hm=>O ?_),h.imUp,fun b C=>?_,fun b C=>?_,h.sl,h.dr⟩
    · rw[List.map_append];exact List.mem_append_left _ hm
    · rcases h.imNew b C with d|d|d
      · exact .inl d
      · exact .inr (.inl (by rw[List.map_append];exact List.mem_append_left _ d))
      · exact .inr (.inr d)
    · rw[List.map_append]at C ⊢
      rcases List.mem_append.1 C with d|d
      · rcases h.hNew b d with B|B
        · exact .inl (List.mem_append_left _ B)
        · exact .inr B
      · exact .inl (List.mem_append_right _ d)
theorem Vw.sat.perm {v:Vw} {H H':Hp} (h:v.sat H) (p:H.Perm H'):v.sat H' :=
  ⟨fun x d=>h.own x (p.mem_iff.2 d),(p.map _).nodup_iff.1 h.nodup,h.lt⟩
theorem Vw.sat.sub {v:Vw} {H F:Hp} (h:v.sat (H++F)):v.sat H :=
  ⟨fun x d=>h.own x (List.mem_append_left _ d),by have:=h.nodup;rw[List.map_append,List.nodup_append]at this;exact this.1,h.lt⟩
theorem Vw.to.permL {v k:Vw} {H K H':Hp} (h:v.to H k H') (p:H.Perm K):v.to K k H':=by
  have e:∀ b,b∈H.map Prod.fst↔b∈K.map Prod.fst:=fun b=>(p.map _).mem_iff
  exact⟨h.os,h.tape,h.output,h.size,fun b d m=>h.block b d (fun hm=>m ((e b).1 hm)),h.imUp,
    fun b d=>(h.imNew b d).imp id (Or.imp (e b).1 id),fun b d=>(h.hNew b d).imp (e b).1 id,h.sl,h.dr⟩
theorem Vw.to.subR {v d:Vw} {H H' K:Hp} (h:v.to H d H') (p:∀ b,b∈K.map Prod.fst→b∈H'.map Prod.fst):v.to H d K :=
  ⟨h.os,h.tape,h.output,h.size,h.block,h.imUp,h.imNew,fun b e=>h.hNew b (p b e),h.sl,h.dr⟩
def Ok (N:Nf) (v0:Vw) (H0:Hp) (k:Act→World→Prop) (fr:Fr) (H:Hp) (Γ:List Fct):Prop :=
  ∀ a v,Fr.sat N fr a→v.sat H→v0.to H0 v H→ag_ Γ v→k a v.w
inductive Kt where
  | seq (c:Code)
  | blk (id:Nat)
  | inv (J:Act→World→Prop)
def post (P:Program) (R:Exit→Act→World→Prop):List Kt→Exit→Act→World→Prop
  | [],e,a,w=>R e a w
  | .seq c::K,.normal,a,w=>c.wp P (post P R K) a w
  | .seq _::K,e,a,w=>post P R K e a w
  | .inv J::_,.normal,a,w=>J a w
  | .inv _::K,e,a,w=>post P R K e a w
  | .blk id::K,.exit id',a,w=>if id'=id then post P R K .normal a w else post P R K (.exit id') a w
  | .blk _::K,e,a,w=>post P R K e a w
theorem vP_ (P:Program) (R:Exit→Act→World→Prop) (K:List Kt) (a:Act) (w:World) (h:R .ret a w):post P R K .ret a w:=by
  induction K with
  | nil=>exact h
  | cons x K ih=>cases x<;>exact ih
def unw (id:Nat):List Kt→Option (List Kt)
  | []=>none
  | .blk i::K=>bif Nat.beq id i then some K else unw id K
  | .seq _::K=>unw id K
  | .inv _::K=>unw id K
theorem jh_ {P:Program} {R:Exit→Act→World→Prop} {d:Nat} {k:List Kt} {a:Act} {w:World} :
    ∀ {K:List Kt},unw d K=some k→post P R k .normal a w→post P R K (.exit d) a w
  | [],h,_=>by simp[unw]at h
  | .seq _::K,h,hp=>jh_ (K:=K) (by simpa [unw] using h) hp
  | .inv _::K,h,hp=>jh_ (K:=K) (by simpa [unw] using h) hp
  | .blk i::K,h,hp=>by
    simp only[unw]at h
    by_cases e:d=i
    · subst e
      simp only[Nat.beq_refl,cond_true,Option.some.injEq]at h;subst h;simp only[post,if_true];exact hp
    · have:Nat.beq d i=false:=by
        cases hb:Nat.beq d i
        · rfl
        · exact absurd (Nat.eq_of_beq_eq_true hb) e
      rw[this,cond_false]at h;simp only[post,e,if_false];exact jh_ h hp
def nxt:List Kt→Option (Code×List Kt)
  | .seq c::K=>some (c,K)
  | .blk _::K=>nxt K
  | _=>none
theorem oT_ {P:Program} {R:Exit→Act→World→Prop} {c:Code} {d:List Kt} {a:Act} {w:World} :
    ∀ {K:List Kt},nxt K=some (c,d)→c.wp P (post P R d) a w→post P R K .normal a w
  | [],h,_=>by simp[nxt]at h
  | .seq _::K,h,hp=>by simp only[nxt,Option.some.injEq,Prod.mk.injEq]at h;obtain⟨rfl,rfl⟩:=h;exact hp
  | .blk _::K,h,hp=>oT_ (K:=K) (by simpa [nxt] using h) hp
  | .inv _::K,h,_=>by simp[nxt]at h
def jP_:List Kt→Option (Act→World→Prop)
  | .inv J::_=>some J
  | .blk _::K=>jP_ K
  | _=>none
theorem qQ_ {P:Program} {R:Exit→Act→World→Prop} {J:Act→World→Prop} {a:Act} {w:World} :
    ∀ {K:List Kt},jP_ K=some J→J a w→post P R K .normal a w
  | [],h,_=>by simp[jP_]at h
  | .inv _::K,h,hp=>by simp only[jP_,Option.some.injEq]at h;subst h;exact hp
  | .blk _::K,h,hp=>qQ_ (K:=K) (by simpa [jP_] using h) hp
  | .seq _::K,h,_=>by simp[jP_]at h
def gA_:List Kt→Bool
  | []=>true
  | .blk _::K=>gA_ K
  | _=>false
theorem qR_ {P:Program} {R:Exit→Act→World→Prop} {a:Act} {w:World} :
    ∀ {K:List Kt},gA_ K=true→R .normal a w→post P R K .normal a w
  | [],_,hp=>hp
  | .inv _::K,h,_=>by simp[gA_]at h
  | .blk _::K,h,hp=>qR_ (K:=K) (by simpa [gA_] using h) hp
  | .seq _::K,h,_=>by simp[gA_]at h
section code
variable {P:Program} {N:Nf} {v0:Vw} {H0:Hp} {R:Exit→Act→World→Prop} {K:List Kt} {fr:Fr} {H:Hp} {Γ:List Fct}
abbrev Run (P:Program) (R:Exit→Act→World→Prop) (N:Nf) (v0:Vw) (H0:Hp) (c:Code) (K:List Kt) (fr:Fr) (H:Hp) (Γ:List Fct):Prop :=
  Ok N v0 H0 (c.wp P (post P R K)) fr H Γ
abbrev Fin (P:Program) (R:Exit→Act→World→Prop) (N:Nf) (v0:Vw) (H0:Hp) (K:List Kt) (fr:Fr) (H:Hp) (Γ:List Fct):Prop :=
  Ok N v0 H0 (post P R K .normal) fr H Γ
abbrev Ops (P:Program) (R:Exit→Act→World→Prop) (N:Nf) (v0:Vw) (H0:Hp) (ops:Array Oper) (l:List Oper) (K:List Kt) (fr:Fr) (H:Hp) (Γ:List Fct):Prop :=
  Ok N v0 H0 (wpList P ops (post P R K) l) fr H Γ
theorem as_ {x y:Code} (h:Run P R N v0 H0 x (.seq y::K) fr H Γ):Run P R N v0 H0 (.seq x y) K fr H Γ :=
  fun a v d k m A=>wp_seq (wp_mono (h a v d k m A) fun e a w q=>by cases e<;>exact q)
theorem dP_ {d:Nat} {c:Code} (h:Run P R N v0 H0 c (.blk d::K) fr H Γ):Run P R N v0 H0 (.block d c) K fr H Γ :=
  fun a v k m q y=>wp_block (wp_mono (h a v k m q y) fun e a w x=>by cases e<;>exact x)
theorem cR_ (h:Fin P R N v0 H0 K fr H Γ):Run P R N v0 H0 .skip K fr H Γ :=
  fun a v d k e m=>wp_skip (h a v d k e m)
theorem hh_ {d:Nat} {e:List Kt} (q:unw d K=some e) (h:Fin P R N v0 H0 e fr H Γ):Run P R N v0 H0 (.exit d) K fr H Γ :=
  fun a v k m x y=>wp_exit (jh_ q (h a v k m x y))
theorem hG_ (h:Ok N v0 H0 (R .ret) fr H Γ):Run P R N v0 H0 .ret K fr H Γ :=
  fun a v d k e m=>wp_ret (vP_ P R K a v.w (h a v d k e m))
theorem al_ {c:Code} {d:List Kt} (x:nxt K=some (c,d)) (h:Run P R N v0 H0 c d fr H Γ):Fin P R N v0 H0 K fr H Γ :=
  fun a v e k q m=>oT_ x (h a v e k q m)
theorem aq_ {J:Act→World→Prop} (q:jP_ K=some J) (h:Ok N v0 H0 J fr H Γ):Fin P R N v0 H0 K fr H Γ :=
  fun a v d e m k=>qQ_ q (h a v d e m k)
theorem fL_ (q:gA_ K=true) (h:Ok N v0 H0 (R .normal) fr H Γ):Fin P R N v0 H0 K fr H Γ :=
  fun a v d e m k=>qR_ q (h a v d e m k)
theorem ad_ {d:Nat} {l:List Oper} (h:Ops P R N v0 H0 l.toArray l K fr H Γ):Run P R N v0 H0 (.region d l.toArray false) K fr H Γ :=
  fun a v e k m q=>wp_region_lit (h a v e k m q)
theorem M_ {d:Array Oper} (h:Fin P R N v0 H0 K fr H Γ):Ops P R N v0 H0 d [] K fr H Γ :=
  fun a v e k m q=>wpList_nil (h a v e k m q)
def Fr.ev (fr:Fr):Operand→Option Value
  | .tmp t=>Fr.get fr t
  | .const v=>some v
  | .global g=>some (.pointer (some ⟨g,0,none⟩))
  | .func f=>some (.func (.func f) #[] #[])
theorem Fr.sat.ev {a:Act} {x:Operand} {v:Value} (h:Fr.sat N fr a) (d:Fr.ev fr x=some v):a.eval x=v:=by
  cases x with
  | tmp t=>have:=h.val t v d;simp[Act.eval,this]
  | const c=>simpa [Fr.ev,Act.eval] using d
  | global g=>simpa [Fr.ev,Act.eval] using d
  | func f=>simpa [Fr.ev,Act.eval] using d
theorem Fr.sat.put {a:Act} {d:Nat} {x:Value} (h:Fr.sat N fr a) (y:Nat.blt d N.n=true):Fr.sat N ((d,x)::fr) (a.put (some d) x):=by
 have q:d<N.n:=by simpa [Nat.blt_eq] using y
 refine⟨by simp[Act.put,h.size],h.defers,fun t v k=>?_⟩;simp only[Fr.get]at k
 by_cases e:d=t
 ·subst e
  simp only[Nat.beq_refl,cond_true,Option.some.injEq]at k;subst k;simp[Act.put,Array.getElem?_setIfInBounds,h.size,q]
 have m:Nat.beq d t=false:=by
   cases m:Nat.beq d t
   · rfl
   · exact absurd (Nat.eq_of_beq_eq_true m) e
 rw[m,cond_false]at k;simp only[Act.put];rw[Array.getElem?_setIfInBounds_ne e];exact h.val t v k
theorem ye_ {k:Act→World→Prop} (d:Fr) (q:∀ t v,Fr.get d t=some v→Fr.get fr t=some v) (h:Ok N v0 H0 k d H Γ):Ok N v0 H0 k fr H Γ :=
  fun a v e m y B=>h a v ⟨e.size,e.defers,fun t x A=>e.val t x (q t x A)⟩ m y B
def Fr.le:Fr→Fr→Prop
  | [],_=>True
  | (t,v)::r,fr=>Fr.get fr t=some v∧Fr.le r fr
theorem Fr.le_get {d fr:Fr} (h:Fr.le d fr):∀ t v,Fr.get d t=some v→Fr.get fr t=some v:=by
 induction d with
 | nil=>intro t v k;simp[Fr.get]at k
 | cons p r ih =>
   obtain⟨s,u⟩:=p;intro t v k;simp only[Fr.get]at k
   by_cases e:s=t
   · subst e
     simp only[Nat.beq_refl,cond_true,Option.some.injEq]at k;subst k;exact h.1
   · have m:Nat.beq s t=false:=by
       cases m:Nat.beq s t
       · rfl
       · exact absurd (Nat.eq_of_beq_eq_true m) e
     rw[m,cond_false]at k;exact ih h.2 t v k
theorem bC_ {k:Act→World→Prop} (d:Fr) (e:Fr.le d fr) (h:Ok N v0 H0 k d H Γ):Ok N v0 H0 k fr H Γ :=
  ye_ d (Fr.le_get e) h
theorem dW_ {k:Act→World→Prop} {H' F:Hp} {Γ':List Fct} (d:H.Perm (H'++F)) (m:∀ v,v.sat H→ag_ Γ v→ag_ Γ' v) (h:Ok N v0 H0 k fr H' Γ'):Ok N v0 H0 k fr H Γ :=
  fun a v q e y A=>h a v q (e.perm d).sub (y.subR fun b x=>by
    have:b∈(H'++F).map Prod.fst:=by rw[List.map_append];exact List.mem_append_left _ x
    exact (d.map Prod.fst).mem_iff.2 this) (m v e A)
theorem dG_ {k:Act→World→Prop} {Γ':List Fct} (e:∀ v,v.sat H→ag_ Γ v→ag_ Γ' v) (h:Ok N v0 H0 k fr H Γ'):Ok N v0 H0 k fr H Γ :=
  fun a v m d q x=>h a v m d q (e v d x)
theorem vW_ {k:Act→World→Prop} {p:Prop} (m:∀ v,v.sat H→ag_ Γ v→p) (h:p→Ok N v0 H0 k fr H Γ):Ok N v0 H0 k fr H Γ :=
  fun a v q d x e=>h (m v d e) a v q d x e
theorem qH_ {c:Operand} {x y:Code} {t:Bool} (A:Fr.ev fr c=some (.bool t)) (B:t=true→Run P R N v0 H0 x K fr H Γ) (q:t=false→Run P R N v0 H0 y K fr H Γ) :
    Run P R N v0 H0 (.cond c x y) K fr H Γ :=
  fun a v d h k m=>wp_cond_split (d.ev A) (fun e=>B e a v d h k m) (fun e=>q e a v d h k m)
theorem bE_ {c:Operand} {x y:Code} (d:Fr.ev fr c=some (.bool true)) (h:Run P R N v0 H0 x K fr H Γ):Run P R N v0 H0 (.cond c x y) K fr H Γ :=
  qH_ d (fun _=>h) (fun e=>by cases e)
theorem bX_ {c:Operand} {x y:Code} (h:Fr.ev fr c=some (.bool false)) (d:Run P R N v0 H0 y K fr H Γ):Run P R N v0 H0 (.cond c x y) K fr H Γ :=
  qH_ h (fun e=>by cases e) (fun _=>d)
def xl_ {ι:Type} (N:Nf) (v0:Vw) (H0:Hp) (frs:ι→Fr) (Hs:ι→Hp) (Γs:ι→List Fct) (μ:ι→Nat) (n:Nat) (a:Act) (w:World):Prop :=
  ∃ j v,v.w=w∧Fr.sat N (frs j) a∧v.sat (Hs j)∧v0.to H0 v (Hs j)∧ag_ (Γs j) v∧μ j<n
theorem cc_ {ι:Type} {c:Code} (d:ι→Fr) (Hs:ι→Hp) (q:ι→List Fct) (μ:ι→Nat) (m:ι)
    (h:∀ i,Run P R N v0 H0 c (.inv (xl_ N v0 H0 d Hs q μ (μ i))::K) (d i) (Hs i) (q i)) :
    Run P R N v0 H0 (.loop c) K (d m) (Hs m) (q m):=by
  intro a v J L E O;refine wp_loop_ghost (fun n a w=>∃ i v,v.w=w∧Fr.sat N (d i) a∧v.sat (Hs i)∧v0.to H0 v (Hs i)∧ag_ (q i) v∧μ i=n) (μ m) ⟨m,v,rfl,J,L,E,O,rfl⟩ ?_;rintro n a w ⟨i,v,rfl,A,G,I,M,rfl⟩;refine wp_mono (h i a v A G I M) fun e Q w' k=>?_;cases e with
  | normal =>
    obtain⟨j,y,F,k1,k2,C,B,x⟩:=k;exact⟨μ j,x,j,y,F,k1,k2,C,B,rfl⟩
  | exit id=>exact k
  | goto l=>exact k
  | ret=>exact k
  | panic ch=>exact k
  | outgrown=>exact k
theorem P_ {ι:Type} {c:Code} (d:ι→Fr) (Hs:ι→Hp) (h:ι→List Fct) (μ:ι→Nat) (k:ι) {F:Hp} (m:Fr.le (d k) fr) (q:H.Perm (Hs k++F)) (x:∀ v,v.sat H→ag_ Γ v→ag_ (h k) v)
    (e:∀ i,Run P R N v0 H0 c (.inv (xl_ N v0 H0 d Hs h μ (μ i))::K) (d i) (Hs i) (h i)):Run P R N v0 H0 (.loop c) K fr H Γ :=
  bC_ _ m (dW_ q x (cc_ d Hs h μ k e))
theorem y_ {ι:Type} {d:ι→Fr} {Hs:ι→Hp} {h:ι→List Fct} {μ:ι→Nat} {n:Nat} (j:ι) {F:Hp} (A:μ j<n) (e:Fr.le (d j) fr) (k:H.Perm (Hs j++F))
    (m:∀ v,v.sat H→ag_ Γ v→ag_ (h j) v):Ok N v0 H0 (xl_ N v0 H0 d Hs h μ n) fr H Γ :=
  bC_ (d j) e (dW_ k m fun _ v q x B y=>⟨j,v,rfl,q,x,B,y,A⟩)
end code
end Go.Sx
namespace Go.Sx
open Go
section ops
variable {P:Program} {N:Nf} {v0:Vw} {H0:Hp} {R:Exit→Act→World→Prop} {K:List Kt} {fr:Fr} {H:Hp} {Γ:List Fct}
variable {ops:Array Oper} {l:List Oper} {d:Nat} {ty:TypeId} {ps:String} {af:Array Edge}
theorem cD_ {o:Oper} (k:o.guard=none) (h:∀ a v,Fr.sat N fr a→v.sat H→v0.to H0 v H→ag_ Γ v→o.wp P a v.w (wpList P ops (post P R K) l) (post P R K)) :
    Ops P R N v0 H0 ops (o::l) K fr H Γ :=
  fun a v m q x y=>wpList_plain k fun A e=>Oper.wp_mono e (h a v m q x y)
def Yld (P:Program) (N:Nf) (fr:Fr) (H:Hp) (Γ:List Fct) (op:Op) (ty:TypeId) (x:Value):Prop :=
  ∀ a v,Fr.sat N fr a→v.sat H→ag_ Γ v→∀ d ps af,(execOp a.eval ⟨d,op,ty,ps,af,none⟩).run P v.w=.ok (.value x) v.w
theorem e_ {k:Op} {x:Value} (y:Yld P N fr H Γ k ty x) (q:Nat.blt d N.n=true)
    (hk:Ops P R N v0 H0 ops l K ((d,x)::fr) H Γ):Ops P R N v0 H0 ops (⟨some d,k,ty,ps,af,none⟩::l) K fr H Γ :=
  cD_ rfl fun a v e h A m=>by
    unfold Oper.wp;rw[y a v e h m (some d) ps af];exact hk _ v (e.put q) h A m
theorem C_ {e:Op} {X:Bool} (h:Yld P N fr H Γ e ty (.bool X)) (k:Nat.blt d N.n=true)
    (hk:∀ r:Bool,X=r→Ops P R N v0 H0 ops l K ((d,.bool r)::fr) H Γ):Ops P R N v0 H0 ops (⟨some d,e,ty,ps,af,none⟩::l) K fr H Γ :=
  e_ h k (hk X rfl)
def iR_ (ops:Array Oper) (j:Nat):Option Nat:=(ops[j]?).bind (·.dst)
theorem hA_ {a:Act} {j t:Nat} {x:Value} (h:Fr.sat N fr a) (k:iR_ ops j=some t) (m:Fr.get fr t=some x) :
    yielded ops a.tmps j=match x with|.bool b=>some b|_=>none:=by
  have e:((ops[j]?).bind (·.dst)).bind (a.tmps[·]?)=some x:=by
    show (iR_ ops j).bind _=_
    rw[k];exact h.val t x m
  unfold yielded;rw[e];cases x<;>rfl
theorem aQ_ {m:Op} {k:Option Nat} {j t:Nat} {e:Bool} (y:iR_ ops j=some t) (E:Fr.get fr t=some (.bool e))
    (h:Ops P R N v0 H0 ops (⟨k,m,ty,ps,af,none⟩::l) K fr H Γ):Ops P R N v0 H0 ops (⟨k,m,ty,ps,af,some (j,e)⟩::l) K fr H Γ :=
  fun a v x A B F=>by
    have C:Region.wanted (⟨k,m,ty,ps,af,some (j,e)⟩:Oper) (yielded ops a.tmps)=true:=by
      simp[Region.wanted,hA_ x y E]
    have q:Region.wanted (⟨k,m,ty,ps,af,none⟩:Oper) (yielded ops a.tmps)=true:=rfl;have:=h a v x A B F;unfold wpList at this ⊢;rw[if_pos q]at this;rw[if_pos C];exact this
theorem jN_ {m:Op} {j t:Nat} {e:Bool} {x:Value} (y:iR_ ops j=some t) (F:Fr.get fr t=some x) (B:(match x with|.bool b=>Bool.xor b e|_=>true)=true) (q:Nat.blt d N.n=true)
    (h:Ops P R N v0 H0 ops l K ((d,undef)::fr) H Γ):Ops P R N v0 H0 ops (⟨some d,m,ty,ps,af,some (j,e)⟩::l) K fr H Γ :=
  fun a v k A C G=>by
    have E:Region.wanted (⟨some d,m,ty,ps,af,some (j,e)⟩:Oper) (yielded ops a.tmps)=false:=by
      simp only[Region.wanted,hA_ k y F];cases x<;>first|rfl|(rename_i b;cases b<;>cases e<;>simp_all)
    exact wpList_skip E (h _ v (k.put q) A C G)
theorem O_ {x:Operand} {u:Value} (h:Fr.ev fr x=some u) :
    Yld P N fr H Γ (.move x) ty (u) :=
  fun a v e _ _ _ _ _=>by rw[← e.ev h];rfl
theorem an_ {x:Operand} {u:Value} (h:Fr.ev fr x=some u) :
    Yld P N fr H Γ (.assign x) ty (u) :=
  fun a v e _ _ _ _ _=>by rw[← e.ev h];rfl
theorem cm_ {c x y:Operand} {u:Value} (h:Fr.ev fr c=some (.bool true)) (k:Fr.ev fr x=some u) :
    Yld P N fr H Γ (.pick c x y) ty (u) :=
  fun a v e _ _ _ _ _=>by simp[execOp,e.ev h,e.ev k,asBool]
theorem hy_ {c x y:Operand} {u:Value} (h:Fr.ev fr c=some (.bool false)) (k:Fr.ev fr y=some u) :
    Yld P N fr H Γ (.pick c x y) ty (u) :=
  fun a v e _ _ _ _ _=>by simp[execOp,e.ev h,e.ev k,asBool]
theorem bU_ {t q:TypeId} {x y:Operand} {k:IntKind} {m n:Int} (A:Fr.ev fr x=some (.int k m)) (h:Fr.ev fr y=some (.int k n)) :
    Yld P N fr H Γ (.binOp .eql t x y q) ty (.bool ((m==n))) :=
  fun a v e _ _ _ _ _=>by simp[execOp,e.ev A,e.ev h,eqGuard,binOp,Op.intCmp]
theorem cf_ {t q:TypeId} {x y:Operand} {k:IntKind} {m n:Int} (A:Fr.ev fr x=some (.int k m)) (h:Fr.ev fr y=some (.int k n)) :
    Yld P N fr H Γ (.binOp .neq t x y q) ty (.bool ((m != n))) :=
  fun a v e _ _ _ _ _=>by simp[execOp,e.ev A,e.ev h,eqGuard,binOp,Op.intCmp]
theorem cv_ {t q:TypeId} {x y:Operand} {k:IntKind} {m n:Int} (A:Fr.ev fr x=some (.int k m)) (h:Fr.ev fr y=some (.int k n)) :
    Yld P N fr H Γ (.binOp .lss t x y q) ty (.bool (decide (m<n))) :=
  fun a v e _ _ _ _ _=>by simp[execOp,e.ev A,e.ev h,eqGuard,binOp,Op.intCmp]
theorem dw_ {t q:TypeId} {x y:Operand} {k:IntKind} {m n:Int} (A:Fr.ev fr x=some (.int k m)) (h:Fr.ev fr y=some (.int k n)) :
    Yld P N fr H Γ (.binOp .leq t x y q) ty (.bool (decide (m≤n))) :=
  fun a v e _ _ _ _ _=>by simp[execOp,e.ev A,e.ev h,eqGuard,binOp,Op.intCmp]
theorem dx_ {t q:TypeId} {x y:Operand} {k:IntKind} {m n:Int} (A:Fr.ev fr x=some (.int k m)) (h:Fr.ev fr y=some (.int k n)) :
    Yld P N fr H Γ (.binOp .gtr t x y q) ty (.bool (decide (n<m))) :=
  fun a v e _ _ _ _ _=>by simp[execOp,e.ev A,e.ev h,eqGuard,binOp,Op.intCmp]
theorem fa_ {t q:TypeId} {x y:Operand} {k:IntKind} {m n:Int} (A:Fr.ev fr x=some (.int k m)) (h:Fr.ev fr y=some (.int k n)) :
    Yld P N fr H Γ (.binOp .geq t x y q) ty (.bool (decide (n≤m))) :=
  fun a v e _ _ _ _ _=>by simp[execOp,e.ev A,e.ev h,eqGuard,binOp,Op.intCmp]
def wz_:BinOp→Int→Int→Option Int
  | .add,a,b=>some (a+b)
  | .sub,a,b=>some (a - b)
  | .mul,a,b=>some (a*b)
  | _,_,_=>none
theorem bj_ {e:BinOp} {t B:TypeId} {x y:Operand} {k:IntKind} {m n r:Int} (E:Fr.ev fr x=some (.int k m)) (A:Fr.ev fr y=some (.int k n)) (q:wz_ e m n=some r) (C:k.wrap r=r) :
    Yld P N fr H Γ (.binOp e t x y B) ty (.int k r) :=
  fun a v h _ _ _ _ _=>by
    cases e<;>simp only[wz_,Option.some.injEq,reduceCtorEq]at q<;>subst q <;>
      simp[execOp,h.ev E,h.ev A,eqGuard,binOp,Op.intArith,C]
theorem ce_ {r:Int} (h:-9223372036854775808≤r) (e:r≤9223372036854775807):IntKind.wrap .i64 r=r:=by
  exact IntWalk.i64_in r ⟨h,e⟩
theorem aJ_ {x:Operand} {t:TypeId} {b:Bool} (h:Fr.ev fr x=some (.bool b)) :
    Yld P N fr H Γ (.unOp .not t x) ty (.bool !b) :=
  fun a v e _ _ _ _ _=>by simp[execOp,e.ev h,Op.unary]
def lg:List Value→Nat→Option Value
  | [],_=>none
  | x::_,0=>some x
  | _::r,n+1=>lg r n
theorem lg_eq:∀ (c:List Value) (i:Nat),lg c i=c[i]?
  | [],i=>by simp[lg]
  | x::r,0=>rfl
  | x::r,n+1=>by simpa [lg] using lg_eq r n
def pK_:List Value→Nat→Nat→Option (List Value)
  | _,_,0=>some []
  | c,off,n+1=>match lg c off with
    | some x=>match pK_ c (off+1) n with
      | some r=>some (x::r)
      | none=>none
    | none=>none
theorem pf_:∀ (n off:Nat) (c r:List Value),pK_ c off n=some r→r.length=n∧∀ j v,r[j]? = some v→c[off+j]? = some v
 | 0,off,c,r,h=>by simp only[pK_,Option.some.injEq]at h;subst h;exact⟨rfl,by simp⟩
 | n+1,off,c,r,h=>by
   simp only[pK_]at h
   split at h
   · rename_i x A
     split at h
     · rename_i q y
       simp only[Option.some.injEq]at h;subst h;obtain⟨k,m⟩:=pf_ n (off+1) c q y;refine⟨by simp[k],fun j v e=>?_⟩;cases j with
       | zero=>simp only[List.getElem?_cons_zero,Option.some.injEq]at e;subst e;rw[← lg_eq];exact A
       | succ j=>rw[show off+(j+1)=off+1+j by omega];exact m j v zak_
     · cases h
   · cases h
theorem cC_ (b off n:Nat):(⟨b,off,none⟩:Addr).add n=⟨b,off+n,none⟩:=by unfold Addr.add;split<;>simp_all
theorem cY_ {t:TypeId} {w:World} {ad:Addr} {x:Value} (h:∀ w,(isAgg t).run P w=.ok false w) (e:w.cell? ad=some x):(loadVar t ad).run P w=.ok x w:=by
  simp[loadVar,h,e]
theorem dY_ {t:TypeId} {w:World} {b off n:Nat} {cs:List Value} (m:∀ w,(isAgg t).run P w=.ok true w) (h:∀ w,(sizeOf t).run P w=.ok n w) (q:cs.length=n)
    (k:∀ j v,cs[j]? = some v→w.cell? ⟨b,off+j,none⟩=some v):(loadVar t ⟨b,off,none⟩).run P w=.ok (.agg cs.toArray) w:=by
  have:=run_loadCells_list (P:=P) w ⟨b,off,none⟩ cs (fun j v e=>by rw[cC_];exact k j v e);rw[q]at this;simp[loadVar,m,h,this]
theorem gx_ {v:Vw} {i b:Nat} {cur:Array Value} {T:TypeId} {fz:Nat×Nat} (h:v.sat H) (hi:H[i]? = some (b,.cells cur T fz)) (j:Nat):v.w.cell? ⟨b,j,none⟩=cur.toList[j]? := by
  have:=(h.own _ (List.mem_of_getElem? hi)).1;simp[World.cell?,this]
theorem aC_ {t:TypeId} {x:Operand} {b off:Nat} (i:Nat) {cur:Array Value} {T:TypeId} {fz:Nat×Nat} {u:Value} (m:∀ w,(isAgg t).run P w=.ok false w)
    (q:Fr.ev fr x=some (.pointer (some ⟨b,off,none⟩))) (hi:H[i]? = some (b,.cells cur T fz)) (k:lg cur.toList off=some u) :
    Yld P N fr H Γ (.load t x) ty (u) :=
  fun a v e h _ _ _ _=>by
    have:=cY_ (P:=P) (w:=v.w) m (show v.w.cell? ⟨b,off,none⟩=some u by rw[gx_ h hi,← lg_eq];exact k);simp[execOp,e.ev q,Instr.loadAt,Instr.sureAddr,this]
theorem bs_ {t:TypeId} {x:Operand} {b off n:Nat} (i:Nat) {cur:Array Value} {T:TypeId} {fz:Nat×Nat} {us:List Value} (C:∀ w,(isAgg t).run P w=.ok true w) (k:∀ w,(sizeOf t).run P w=.ok n w)
    (A:Fr.ev fr x=some (.pointer (some ⟨b,off,none⟩))) (hi:H[i]? = some (b,.cells cur T fz)) (m:pK_ cur.toList off n=some us) :
    Yld P N fr H Γ (.load t x) ty (.agg us.toArray) :=
  fun a v e h _ _ _ _=>by
    obtain⟨E,q⟩:=pf_ n off _ _ m;have:=dY_ (P:=P) (w:=v.w) (b:=b) (off:=off) C k E (fun j y B=>by rw[gx_ h hi];exact q j y B);simp[execOp,e.ev A,Instr.loadAt,Instr.sureAddr,this]
theorem hc_ {t:TypeId} {x:Operand} {ad:Addr} {u:Value} (m:Fr.ev fr x=some (.pointer (some ad))) (k:∀ v,v.sat H→ag_ Γ v→(loadVar t ad).run P v.w=.ok u v.w) :
    Yld P N fr H Γ (.load t x) ty (u) :=
  fun a v e h q _ _ _=>by simp[execOp,e.ev m,Instr.loadAt,Instr.sureAddr,k v h q]
theorem gf_ {v:Vw} {w':World} {o:Obj} (h:v.sat H) (y:w'.heap=v.w.heap.push o) (G:w'.os=v.w.os) (E:w'.tape=v.w.tape) (F:w'.output=v.w.output) (C:v.w.drawn≤w'.drawn) :
    (⟨v.im,w',v.sl⟩:Vw).sat ((v.w.heap.size,o)::H)∧v.to H ⟨v.im,w',v.sl⟩ ((v.w.heap.size,o)::H):=by
  have B:∀ k,k<v.w.heap.size→w'.heap[k]? = v.w.heap[k]? := fun k hk=>by rw[y,Array.getElem?_push,if_neg zr_]
  have x:∀ p,p∈H→p.1<v.w.heap.size:=fun p q=>(Array.getElem?_eq_some_iff.1 (h.own p q).1).1
  refine⟨⟨fun p q=>?_,?_,fun b m=>?_⟩,G,E,F,by simp[y],fun b A _=>B b A,fun _ h=>h,fun _ h=>.inl h,fun b m=>?_,rfl,.inr C⟩
  · rcases List.mem_cons.1 q with rfl|q
    · refine⟨by show w'.heap[v.w.heap.size]? = some o;rw[y];simp,fun hi=>?_⟩
      have:=h.lt _ hi;simp at this
    · exact⟨by show w'.heap[p.1]? = _;rw[B _ (x p q)];exact (h.own p q).1,(h.own p q).2⟩
  · rw[List.map_cons,List.nodup_cons]
    refine⟨fun hm=>?_,h.nodup⟩;obtain⟨p,q,e⟩:=List.mem_map.1 hm;have:=x p q;simp at e;omega
  · have:=h.lt b m
    show b<w'.heap.size
    simp[y];omega
  · rw[List.map_cons]at m
    rcases List.mem_cons.1 m with rfl|A
    · exact .inr (Nat.le_refl _)
    · exact .inl A
theorem nE_ {m:Op} {β:Type} {x:β→Nat→Value} {o:β→Obj} (q:β→Prop) (J:Nat.blt d N.n=true)
    (C:∀ a v,Fr.sat N fr a→v.sat H→ag_ Γ v→∃ y w',q y∧(execOp a.eval ⟨some d,m,ty,ps,af,none⟩).run P v.w=.ok (.value (x y v.w.heap.size)) w'∧w'.heap=v.w.heap.push (o y)∧w'.os=v.w.os∧w'.tape=v.w.tape∧w'.output=v.w.output∧v.w.drawn≤w'.drawn)
    (hk:∀ y b,q y→Ops P R N v0 H0 ops l K ((d,x y b)::fr) ((b,o y)::H) Γ):Ops P R N v0 H0 ops (⟨some d,m,ty,ps,af,none⟩::l) K fr H Γ :=
  cD_ rfl fun a v k e M A=>by
    obtain⟨y,w',F,G,I,Q,E,O,B⟩:=C a v k e A;unfold Oper.wp;rw[G];obtain⟨L,h⟩:=gf_ e I Q E O B;exact hk y v.w.heap.size F _ ⟨v.im,w',v.sl⟩ (k.put J) L (M.trans h) (az_ (h.le e) A)
theorem gP_ {e:Op} {x:Nat→Value} {o:Obj} (h:Nat.blt d N.n=true)
    (q:∀ a v,Fr.sat N fr a→v.sat H→ag_ Γ v→(execOp a.eval ⟨some d,e,ty,ps,af,none⟩).run P v.w=.ok (.value (x v.w.heap.size)) (v.w.alloc o))
    (hk:∀ b,Ops P R N v0 H0 ops l K ((d,x b)::fr) ((b,o)::H) Γ):Ops P R N v0 H0 ops (⟨some d,e,ty,ps,af,none⟩::l) K fr H Γ :=
  nE_ (β:=Unit) (x:=fun _ b=>x b) (o:=fun _=>o) (fun _=>True) h (fun a v k m y=>⟨(),v.w.alloc o,trivial,q a v k m y,rfl,rfl,rfl,rfl,Nat.le_refl _⟩) (fun _ b _=>hk b)
theorem aa_ {t:TypeId} {x:Operand} {u:Value} (k:Fr.ev fr x=some u) (e:Nat.blt d N.n=true)
    (hk:∀ b,Ops P R N v0 H0 ops l K ((d,.pointer (some ⟨b,0,none⟩))::fr) ((b,.cells u.cells t (0,0))::H) Γ):Ops P R N v0 H0 ops (⟨some d,.box t x,ty,ps,af,none⟩::l) K fr H Γ :=
  gP_ (x:=fun b=>.pointer (some ⟨b,0,none⟩)) e (fun a v h _ _=>by simp[execOp,h.ev k,Instr.box,newVar,newRow,newObj];rfl) hk
theorem D_ {t:TypeId} {z:Value} (h:∀ w,(zeroValue t).run P w=.ok z w) (e:Nat.blt d N.n=true)
    (hk:∀ b,Ops P R N v0 H0 ops l K ((d,.pointer (some ⟨b,0,none⟩))::fr) ((b,.cells z.cells t (0,0))::H) Γ):Ops P R N v0 H0 ops (⟨some d,.alloc t,ty,ps,af,none⟩::l) K fr H Γ :=
  gP_ (x:=fun b=>.pointer (some ⟨b,0,none⟩)) e (fun a v k _ _=>by simp[execOp,h,Instr.alloc,newVar,newRow,newObj];rfl) hk
theorem ff_ {v:Vw} {i b:Nat} {o o':Obj} {w':World} (h:v.sat H) (hi:H[i]? = some (b,o)) (M:w'.os=v.w.os) (Q:w'.tape=v.w.tape) (L:w'.output=v.w.output) (I:v.w.drawn≤w'.drawn) (F:w'.heap.size=v.w.heap.size)
    (T:w'.heap[b]? = some o') (G:∀ k,k≠b→w'.heap[k]? = v.w.heap[k]?):(⟨v.im,w',v.sl⟩:Vw).sat (H.set i (b,o'))∧v.to H ⟨v.im,w',v.sl⟩ (H.set i (b,o')):=by
  have hm:=List.mem_of_getElem? hi
  have q:(H.set i (b,o')).map Prod.fst=H.map Prod.fst:=by
    rw[List.map_set]
    apply List.ext_getElem?
    intro j;rw[List.getElem?_set]
    split
    · rename_i m;subst m;rw[List.getElem?_map,hi];simp[(List.getElem?_eq_some_iff.1 hi).1]
    · rfl
  refine⟨⟨fun p V=>?_,by rw[q];exact h.nodup,fun x B=>?_⟩,M,Q,L,by simp[F],fun x _ U=>G x (fun e=>U ?_),fun _ h=>h,fun _ h=>.inl h,fun x B=>.inl (by rw[q]at B;exact B),rfl,.inr I⟩
  · obtain⟨j,m⟩:=List.getElem?_of_mem V
    rw[List.getElem?_set]at m
    split at m
    · rename_i y
      subst y
      split at m
      · simp only[Option.some.injEq]at m;subst m
        exact⟨T,(h.own _ hm).2⟩
      · cases m
    · rename_i y
      have A:=List.mem_of_getElem? m
      have C:p.1≠b:=fun e=>by
        have E:=h.nodup;have J:(H.map Prod.fst)[i]? = some b:=by simp[hi]
        have O:(H.map Prod.fst)[j]? = some b:=by simp[m,e]
        obtain⟨X,S⟩:=List.getElem?_eq_some_iff.1 J;obtain⟨Y,W⟩:=List.getElem?_eq_some_iff.1 O;exact y ((List.getElem_inj E).1 (S.trans W.symm))
      exact⟨by show w'.heap[p.1]? = _;rw[G _ C];exact (h.own p A).1,(h.own p A).2⟩
  · show x<w'.heap.size
    rw[F];exact h.lt x B
  · subst e;exact List.mem_map.2 ⟨_,hm,rfl⟩
theorem x_ {t:TypeId} {x y:Operand} {b off n:Nat} (i:Nat) {cur:Array Value} {T:TypeId} {u:Value} (E:∀ w,(sizeOf t).run P w=.ok n w)
    (I:Fr.ev fr x=some (.pointer (some ⟨b,off,none⟩))) (J:Fr.ev fr y=some u) (hi:H[i]? = some (b,.cells cur T (0,0))) (A:u.cells.size=n) (M:Nat.ble (off+n) cur.size=true) (h:u.cells.toList.all Value.oneCell'=true)
    (hk:Ops P R N v0 H0 ops l K fr (H.set i (b,.cells (cur.toList.take off++u.cells.toList++cur.toList.drop (off+n)).toArray T (0,0))) Γ) :
    Ops P R N v0 H0 ops (⟨none,.store t x y,ty,ps,af,none⟩::l) K fr H Γ :=
  cD_ rfl fun a v m q O Q=>by
    have C:=(q.own _ (List.mem_of_getElem? hi)).1;have e:=run_storeCells_at P b off T u.cells.toList 0 cur v.w C (by simp[A];exact Nat.le_of_ble_eq_true M) (fun c G=>List.all_eq_true.1 h c G)
    have F:(execOp a.eval ⟨none,.store t x y,ty,ps,af,none⟩).run P v.w=.ok .skip (v.w.setRow b (cur.toList.take off++u.cells.toList++cur.toList.drop (off+n)).toArray):=by
      simp only[Nat.add_zero,Array.length_toList,A]at e;simp[execOp,m.ev I,m.ev J,Instr.storeAt,Instr.sureAddr,storeVar,E,A,e]
    unfold Oper.wp;rw[F];obtain⟨L,B⟩:=ff_ (w':=v.w.setRow b (cur.toList.take off++u.cells.toList++cur.toList.drop (off+n)).toArray) q hi rfl rfl rfl (Nat.le_refl _) zC_ (setRow_heap _ _ _ _ _ _ C) (fun k hk=>setRow_other _ _ _ _ hk);exact hk a _ m L (O.trans B) (az_ (B.le q) Q)
theorem bh_ {s:TypeId} {x:Operand} {f b off o:Nat} {fs:Array Field} {e:Field} {n:Nat} (k:∀ w,(underlying s).run P w=.ok (.struct fs) w) (y:Fr.ev fr x=some (.pointer (some ⟨b,off,none⟩))) (A:fs[f]? = some e) (m:e.offset=o)
    (q:∀ w,(sizeOf e.type).run P w=.ok (n+1) w) :
    Yld P N fr H Γ (.fieldAddr s x f) ty (.pointer (some ⟨b,off+o,none⟩)) :=
  fun a v h B _ _ _ _=>by simp[execOp,h.ev y,Instr.fieldAt,k,A,Instr.sureAddr,fieldPlace,q,cC_,m]
theorem fv_ {t e:TypeId} {x y:Operand} {b off len cap n:Nat} {k:IntKind} {i:Int} (m:∀ w,(underlying t).run P w=.ok (.slice e) w) (q:∀ w,(sizeOf e).run P w=.ok n w)
    (A:Fr.ev fr x=some (.slice (some ⟨b,off,none⟩) len cap)) (C:Fr.ev fr y=some (.int k i)) (B:0≤i) (hl:i<len) :
    Yld P N fr H Γ (.indexAddr t x y) ty (.pointer (some ⟨b,off+i.toNat*n,none⟩)) :=
  fun a v h E _ _ _ _=>by simp[execOp,h.ev A,h.ev C,Instr.indexAt,m,asIntOf,q,cC_,B,hl]
theorem em_ {t e:TypeId} {x y:Operand} {b off len n:Nat} {k:IntKind} {i:Int} (m:∀ w,(underlying t).run P w=.ok (.array len e) w) (q:∀ w,(sizeOf e).run P w=.ok n w)
    (A:Fr.ev fr x=some (.pointer (some ⟨b,off,none⟩))) (C:Fr.ev fr y=some (.int k i)) (B:0≤i) (hl:i<len) :
    Yld P N fr H Γ (.indexAddr t x y) ty (.pointer (some ⟨b,off+i.toNat*n,none⟩)) :=
  fun a v h E _ _ _ _=>by simp[execOp,h.ev A,h.ev C,Instr.indexAt,m,asIntOf,q,Instr.sureAddr,cC_,B,hl]
theorem kX_ {x:Operand} {ad:Addr} (h:Fr.ev fr x=some (.pointer (some ad))) :
    Yld P N fr H Γ (.nilCheck x) ty (.pointer (some ad)) :=
  fun a v e k _ _ _ _=>by simp[execOp,e.ev h]
theorem cA_ {x:Operand} {t e:TypeId} {ad:Option Addr} {len cap:Nat} (k:∀ w,(underlying t).run P w=.ok (.slice e) w) (m:Fr.ev fr x=some (.slice ad len cap)) :
    Yld P N fr H Γ (.call ⟨.builtin .len,#[x],#[t]⟩) ty (.int .i64 (len:Int)) :=
  fun a v h q _ _ _ _=>by simp[execOp,resolve,invoke,builtin,Builtin.len_,h.ev m,k,goInt]
theorem aG_ {x:Operand} {i:Nat} {vs:Array Value} {u:Value} (k:Fr.ev fr x=some (.tuple vs)) (e:lg vs.toList i=some u) :
    Yld P N fr H Γ (.extract x i) ty (u) :=
  fun a v h m _ _ _ _=>by
    rw[lg_eq,Array.getElem?_toList]at e;simp[execOp,h.ev k,Instr.extract,e]
def str (l:List UInt8):Value:=.string ⟨l.toArray⟩
theorem str_of (s:ByteArray):Value.string s=str s.data.toList:=rfl
theorem dn_ {t k:TypeId} {x y:Operand} {m n:List UInt8} (q:Fr.ev fr x=some (str m)) (h:Fr.ev fr y=some (str n)) :
    Yld P N fr H Γ (.binOp .eql t x y k) ty (.bool ((m==n))) :=
  fun a v e _ _ _ _ _=>by simp[execOp,e.ev q,e.ev h,str,eqGuard,binOp,Op.stringOp]
theorem cZ_ {t k:TypeId} {x y:Operand} {m n:List UInt8} (q:Fr.ev fr x=some (str m)) (h:Fr.ev fr y=some (str n)) :
    Yld P N fr H Γ (.binOp .neq t x y k) ty (.bool ((m != n))) :=
  fun a v e _ _ _ _ _=>by simp[execOp,e.ev q,e.ev h,str,eqGuard,binOp,Op.stringOp,bne]
theorem eK_ {t q:TypeId} {x y:Operand} {m n:List UInt8} (A:Fr.ev fr x=some (str m)) (k:Fr.ev fr y=some (str n)) (hl:m.length+n.length≤9223372036854775807) :
    Yld P N fr H Γ (.binOp .add t x y q) ty (str (m++n)) :=
  fun a v e _ _ _ _ _=>by
    have h:=run_string_add_sum (P:=P) v.w ⟨m.toArray⟩ ⟨n.toArray⟩ zaQ_;rw[ByteArray.mk_append_mk]at h;simp[execOp,e.ev A,e.ev k,str,eqGuard,binOp_string_add,h]
theorem da_ {x:Operand} {t:TypeId} {m:List UInt8} (h:∀ w,(underlying t).run P w=.ok .string w) (k:Fr.ev fr x=some (str m)) :
    Yld P N fr H Γ (.call ⟨.builtin .len,#[x],#[t]⟩) ty (.int .i64 (m.length:Int)) :=
  fun a v e q _ _ _ _=>by simp[execOp,resolve,invoke,builtin,Builtin.len_,e.ev k,h,goInt,str];rfl
theorem el_ {x y:Operand} {t:TypeId} {m:List UInt8} {k:IntKind} {i:Int} {c:UInt8} (q:∀ w,(underlying t).run P w=.ok .string w) (A:Fr.ev fr x=some (str m)) (C:Fr.ev fr y=some (.int k i)) (B:0≤i) (e:m[i.toNat]? = some c) :
    Yld P N fr H Γ (.index t x y) ty (.int .u8 (c.toNat:Int)) :=
  fun a v h F _ _ _ _=>by
    have hl:i.toNat<m.length:=(List.getElem?_eq_some_iff.1 e).1
    have E:(⟨m.toArray⟩:ByteArray)[i.toNat]? = some c:=by
      rw[ByteArray.getElem?_lt' _ _ zaQ_];have:(⟨m.toArray⟩:ByteArray)[i.toNat]'zaQ_=m[i.toNat]:=rfl;rw[this];rw[List.getElem?_eq_getElem hl]at e;exact e
    simp[execOp,Instr.index,h.ev A,h.ev C,asIntOf,q,str,B,E]
def hu_ (P:Program) (f:FuncId):Prop:=∀ args w,(callFunc f args).run P w=.ok (.enter f args) w
theorem callable {f : FuncId} {fn : Func} {c : Code} (k : P.funcs[f]? = some fn) (h : fn.body = some c) (m : (fn.name == "runtime.NumGoroutine") = false) : hu_ P f := by
  intro args w;have e : ¬ fn.name = "runtime.NumGoroutine" := by simpa using m
  simp[callFunc,run_program,k,h,e]
structure Tri (P:Program) (f:FuncId) (args:Array Value) (H:Hp) (Γ:List Fct) {ι:Type} (ret:ι→Value) (H':ι→Hp) (Γ':ι→List Fct):Prop where
  callable:hu_ P f
  run:∀ v,v.sat H→ag_ Γ v→Calls P f args v.w fun e w'=>∃ x v',e=.returned (ret x)∧v'.w=w'∧v'.sat (H' x)∧ag_ (Γ' x) v'∧v.to H v' (H' x)
def Fr.evs (fr:Fr):List Operand→Option (List Value)
  | []=>some []
  | x::r=>match Fr.ev fr x with
    | some v=>match Fr.evs fr r with
      | some vs=>some (v::vs)
      | none=>none
    | none=>none
theorem Fr.sat.evs {a:Act} (h:Fr.sat N fr a):∀ {xs:List Operand} {vs:List Value},Fr.evs fr xs=some vs→xs.map a.eval=vs
 | [],vs,e=>by simp only[Fr.evs,Option.some.injEq]at e;subst e;rfl
 | x::r,vs,e=>by
   simp only[Fr.evs]at e
   split at e
   · rename_i u m
     split at e
     · rename_i us k
       simp only[Option.some.injEq]at e;subst e;rw[List.map_cons,h.ev m,h.evs k]
     · cases e
   · cases e
theorem oX_ {A:Op} {f:FuncId} {vs:List Value} {ι:Type} {Hc F:Hp} {B:List Fct} {k:ι→Value} {H':ι→Hp} {Γ':ι→List Fct}
    (I:Tri P f vs.toArray Hc B k H' Γ') (L:∀ a v,Fr.sat N fr a→(execOp a.eval ⟨some d,A,ty,ps,af,none⟩).run P v=.ok (.enter f vs.toArray) v)
    (m:H.Perm (Hc++F)) (E:∀ v,v.sat H→ag_ Γ v→ag_ B v) (O:Nat.blt d N.n=true)
    (hk:∀ x,Ops P R N v0 H0 ops l K ((d,k x)::fr) (H' x++F) (Γ' x++Γ)):Ops P R N v0 H0 ops (⟨some d,A,ty,ps,af,none⟩::l) K fr H Γ :=
  cD_ rfl fun a v q y S C=>by
    unfold Oper.wp;rw[L a v.w q];have h:=y.perm m;refine (I.run v h.sub (E v y C)).mono ?_;rintro e w' ⟨x,M,rfl,rfl,Q,G,J⟩;obtain⟨k1,k2⟩:=J.frame h Q;exact hk x _ M (q.put O) k1 (S.trans (k2.permL m.symm)) (fm_.2 ⟨G,az_ (k2.le h) C⟩)
theorem i_ {f:FuncId} {q:List Operand} {h:Array TypeId} {vs:List Value} {ι:Type} {Hc F:Hp} {m:List Fct} {e:ι→Value} {H':ι→Hp} {Γ':ι→List Fct}
    (k:Tri P f vs.toArray Hc m e H' Γ') (C:Fr.evs fr q=some vs) (y:H.Perm (Hc++F)) (A:∀ v,v.sat H→ag_ Γ v→ag_ m v) (E:Nat.blt d N.n=true)
    (hk:∀ x,Ops P R N v0 H0 ops l K ((d,e x)::fr) (H' x++F) (Γ' x++Γ)) :
    Ops P R N v0 H0 ops (⟨some d,.call ⟨.value (.func f),q.toArray,h⟩,ty,ps,af,none⟩::l) K fr H Γ :=
  oX_ k (fun a w B=>by
    have:=B.evs C;simp[execOp,resolve,Deferred.ofValue,Act.eval,invoke,this,k.callable _ w]) y A E hk
theorem T_ {f:FuncId} {k:List Operand} {e:Array TypeId} {vs:List Value} {Hc F:Hp} {h:List Fct} {X:Bool}
    (x:Tri P f vs.toArray Hc h (fun _:Unit=>.bool X) (fun _=>Hc) (fun _=>[])) (A:Fr.evs fr k=some vs) (m:H.Perm (Hc++F)) (q:∀ v,v.sat H→ag_ Γ v→ag_ h v) (y:Nat.blt d N.n=true)
    (hk:∀ r:Bool,X=r→Ops P R N v0 H0 ops l K ((d,.bool r)::fr) (Hc++F) Γ) :
    Ops P R N v0 H0 ops (⟨some d,.call ⟨.value (.func f),k.toArray,e⟩,ty,ps,af,none⟩::l) K fr H Γ :=
  i_ x A m q y fun _=>hk X rfl
end ops
section body
variable {P:Program} {N:Nf} {fr:Fr} {H:Hp} {Γ:List Fct}
def kV_ {ι:Type} (v0:Vw) (H0:Hp) (ret:ι→Value) (H':ι→Hp) (Γ':ι→List Fct) (e:Ending) (w':World):Prop :=
  ∃ x v',e=.returned (ret x)∧v'.w=w'∧v'.sat (H' x)∧ag_ (Γ' x) v'∧v0.to H0 v' (H' x)
def lm_ (i:Nat):List Value→Fr
  | []=>[]
  | x::r=>(i,x)::lm_ (i+1) r
theorem jT_:∀ (l:List Value) (i t:Nat) (v:Value),Fr.get (lm_ i l) t=some v→i≤t∧l[t - i]? = some v
 | [],i,t,v,h=>by simp[lm_,Fr.get]at h
 | x::r,i,t,v,h=>by
   simp only[lm_,Fr.get]at h
   by_cases e:i=t
   · subst e
     simp only[Nat.beq_refl,cond_true,Option.some.injEq]at h;subst h;simp
   · have k:Nat.beq i t=false:=by
       cases k:Nat.beq i t
       · rfl
       · exact absurd (Nat.eq_of_beq_eq_true k) e
     rw[k,cond_false]at h;obtain⟨q,m⟩:=jT_ r (i+1) t v h;refine⟨by omega,?_⟩;rw[show t - i=(t - (i+1))+1 by omega];simpa using m
theorem j_ {N:Nat} {f:FuncId} {fn:Func} {c:Code} {args:List Value} {ι:Type} {e:ι→Value} {H':ι→Hp} {Γ':ι→List Fct}
    (y : P.funcs[f]? = some fn) (q : fn.body = some c) (C : (fn.name == "runtime.NumGoroutine") = false) (E : fn.ntmps = N) (hl : Nat.ble args.length N = true)
    (h:∀ v0,Run P (bodyPost P fn (kV_ v0 H e H' Γ')) N v0 H c [] (lm_ 0 args) H Γ):Tri P f args.toArray H Γ e H' Γ':=by
  refine⟨callable y q C,fun v A B=>calls_of_wp y q ?_⟩;have G:args.length≤N:=Nat.le_of_ble_eq_true hl;have:=h v ⟨args.toArray++Array.replicate (fn.ntmps - args.toArray.size) undef,[]⟩ v ⟨by simp[E];omega,rfl,fun t x F=>?_⟩ A (Vw.to.refl _ _) B
  · exact this
  · obtain⟨_,m⟩:=jT_ args 0 t x F
    simp only[Nat.sub_zero]at m;have k:=(List.getElem?_eq_some_iff.1 m).1;rw[Array.getElem?_append_left zaC_];simpa using m
theorem af_ {N:Nat} {fn:Func} {t:Nat} {ι:Type} {v0:Vw} {H0 F:Hp} {ret:ι→Value} {H':ι→Hp} {Γ':ι→List Fct} (q:fn.results=#[.tmp t]) (x:ι) (y:Fr.get fr t=some (ret x)) (h:H.Perm (H' x++F))
    (k:∀ v,v.sat H→ag_ Γ v→ag_ (Γ' x) v):Ok N v0 H0 (bodyPost P fn (kV_ v0 H0 ret H' Γ') .ret) fr H Γ :=
  dW_ h k fun a v e m A B=>⟨e.defers,ret x,by rw[results_tmp q];have:=e.val t _ y;simp[this],x,v,rfl,rfl,m,B,A⟩
theorem lg_ {N:Nat} {fn:Func} {t s:Nat} {ι:Type} {v0:Vw} {H0 F:Hp} {ret:ι→Value} {H':ι→Hp} {Γ':ι→List Fct} {q m:Value} (E:fn.results=#[.tmp t,.tmp s]) (x:ι) (k:Fr.get fr t=some q) (h:Fr.get fr s=some m) (G:.tuple #[q,m]=ret x) (y:H.Perm (H' x++F))
    (A:∀ v,v.sat H→ag_ Γ v→ag_ (Γ' x) v):Ok N v0 H0 (bodyPost P fn (kV_ v0 H0 ret H' Γ') .ret) fr H Γ :=
  dW_ y A fun a v e B I L=>⟨e.defers,ret x,by rw[results_tmp2 E,← G];have J:=e.val t _ k;have C:=e.val s _ h;simp[J,C],x,v,rfl,rfl,B,L,I⟩
theorem o_ {t:Nat} {x y:Bool} (h:Fr.get fr t=some (.bool x)) (e:x=y):Fr.get fr t=some (.bool y):=e▸h
theorem cl_ {t:Nat} {k:IntKind} {x y:Int} (h:Fr.get fr t=some (.int k x)) (e:x=y):Fr.get fr t=some (.int k y):=e▸h
theorem gi_ {t:Nat} {x y:List UInt8} (h:Fr.get fr t=some (str x)) (e:x=y):Fr.get fr t=some (str y):=e▸h
theorem gh_ {t:Nat} {x y:Value} (h:Fr.get fr t=some x) (e:x=y):Fr.get fr t=some y:=e▸h
abbrev Fn0 (P:Program) (f:FuncId) (args:Array Value) (ret:Value):Prop:=Tri P f args [] [] (fun _:Unit=>ret) (fun _=>[]) (fun _=>[])
end body
section cut
variable {P:Program} {N:Nf} {v0:Vw} {H0:Hp} {R:Exit→Act→World→Prop} {K:List Kt} {fr:Fr} {H:Hp} {Γ:List Fct}
def Mid (N:Nf) (v0:Vw) (H0:Hp) {ι:Type} (frs:ι→Fr) (Hs:ι→Hp) (Γs:ι→List Fct) (e:Exit) (a:Act) (w:World):Prop :=
  e=.normal∧∃ i v,v.w=w∧Fr.sat N (frs i) a∧v.sat (Hs i)∧v0.to H0 v (Hs i)∧ag_ (Γs i) v
theorem fh_ {ι:Type} {c:Code} (h:ι→Fr) (Hs:ι→Hp) (k:ι→List Fct) (q:Run P (Mid N v0 H0 h Hs k) N v0 H0 c [] fr H Γ) (y:∀ i,Fin P R N v0 H0 K (h i) (Hs i) (k i)):Run P R N v0 H0 c K fr H Γ:=by
  intro a v E m x C;refine wp_mono (q a v E m x C) ?_;rintro e A w' ⟨rfl,i,B,rfl,k1,k2,G,F⟩;exact y i A B k1 k2 G F
theorem bZ_ {ι:Type} {e:ι→Fr} {Hs:ι→Hp} {k:ι→List Fct} (i:ι) {F:Hp} (h:Fr.le (e i) fr) (m:H.Perm (Hs i++F)) (q:∀ v,v.sat H→ag_ Γ v→ag_ (k i) v) :
    Ok N v0 H0 (Mid N v0 H0 e Hs k .normal) fr H Γ :=
  bC_ (e i) h (dW_ m q fun _ v x y A B=>⟨rfl,i,v,rfl,x,y,A,B⟩)
end cut
end Go.Sx
namespace Go.Sx
open Go
def bz_ (v:Vw) (ad:Option Addr) (cs:List Value):Prop :=
  cs=[]∨∃ b off arr T fz,ad=some ⟨b,off,none⟩∧v.im b∧v.w.heap[b]? = some (.cells arr T fz)∧∀ j x,cs[j]? = some x→arr[off+j]? = some x
def V_ (ad:Option Addr) (cs:List Value):Fct where
 p:=fun v=>bz_ v ad cs
 mono:=fun v v' h hp=>by
   rcases hp with hp|⟨b,off,arr,T,fz,h1,h2,h3,h4⟩
   · exact .inl hp
   · exact .inr ⟨b,off,arr,T,fz,h1,h.imUp b h2,by rw[h.block b h2];exact h3,h4⟩
def bas (ad:Option Addr):Addr:=ad.getD ⟨0,0,none⟩
def rad (ad:Option Addr) (k:Nat):Addr:=⟨(bas ad).block,(bas ad).off+k,none⟩
theorem bz_.addr {v:Vw} {ad:Option Addr} {cs:List Value} (h:bz_ v ad cs) (m:cs≠[]):∃ b off,ad=some ⟨b,off,none⟩:=by
 rcases h with h|⟨b,off,e,T,fz,k,_⟩
 ·exact absurd h m
 exact⟨b,off,k⟩
theorem bz_.cell {v:Vw} {ad:Option Addr} {cs:List Value} {k:Nat} {x:Value} (h:bz_ v ad cs) (e:cs[k]? = some x):v.w.cell? (rad ad k)=some x:=by
 rcases h with h|⟨b,off,m,T,fz,rfl,_,q,y⟩
 ·subst h;simp at e
 simp[rad,bas,World.cell?,q,y k x e]
theorem bz_.drop {v:Vw} {ad:Option Addr} {cs:List Value} (h:bz_ v ad cs) (n:Nat) (e:List Value) (m:∀ j x,e[j]? = some x→cs[n+j]? = some x):bz_ v (ad.map (·.add n)) e:=by
 rcases h with h|⟨b,off,k,T,fz,rfl,q,A,B⟩
 ·subst h
  left
  cases e with
  | nil=>rfl
  | cons d e=>have:=m 0 d rfl;simp at this
 exact .inr ⟨b,off+n,k,T,fz,by simp[cC_],q,A,fun j x y=>by rw[Nat.add_assoc];exact B _ _ (m j x y)⟩
theorem lo_ {α:Type} (f:α→List Value) (n:Nat) (e:∀ x,(f x).length=n):∀ (l:List α) (i j:Nat) (x:α),l[i]? = some x→j<n→(l.flatMap f)[i*n+j]? = (f x)[j]?
  | [],i,j,x,h,_=>by simp at h
  | y::l,0,j,x,h,hj=>by
    simp only[List.getElem?_cons_zero,Option.some.injEq]at h;subst h;simp only[List.flatMap_cons,Nat.zero_mul,Nat.zero_add];rw[List.getElem?_append_left (by rw[e];exact hj)]
  | y::l,i+1,j,x,h,hj=>by
    simp only[List.flatMap_cons];rw[List.getElem?_append_right (by rw[e,Nat.add_mul];omega),e,show (i+1)*n+j - n=i*n+j by rw[Nat.add_mul];omega];exact lo_ f n e l i j x zag_ hj
theorem br_ {α:Type} (f:α→List Value) (n:Nat) (e:∀ x,(f x).length=n):∀ (l:List α),(l.flatMap f).length=l.length*n
  | []=>by simp
  | y::l=>by simp only[List.flatMap_cons,List.length_append,e,List.length_cons,br_ f n e l,Nat.add_mul];omega
section ops
variable {P:Program} {N:Nf} {v0:Vw} {H0:Hp} {R:Exit→Act→World→Prop} {K:List Kt} {fr:Fr} {H:Hp} {Γ:List Fct}
variable {ops:Array Oper} {l:List Oper} {d:Nat} {ty:TypeId} {ps:String} {af:Array Edge}
theorem U_ {t e:TypeId} {x y:Operand} {ad:Option Addr} {len cap n:Nat} {k:IntKind} {i:Int} (q:∀ w,(underlying t).run P w=.ok (.slice e) w) (A:∀ w,(sizeOf e).run P w=.ok n w)
    (B:Fr.ev fr x=some (.slice ad len cap)) (E:Fr.ev fr y=some (.int k i)) (F:∀ v,v.sat H→ag_ Γ v→∃ b off,ad=some ⟨b,off,none⟩) (C:0≤i) (hl:i<len) :
    Yld P N fr H Γ (.indexAddr t x y) ty (.pointer (some (rad ad (i.toNat*n)))) :=
  fun a v h m G _ _ _=>by
    obtain⟨b,off,rfl⟩:=F v m G;simp[execOp,h.ev B,h.ev E,Instr.indexAt,q,asIntOf,A,cC_,C,hl,rad,bas]
theorem bt_ {t:TypeId} {x:Operand} {ad:Option Addr} {k:Nat} {cs:List Value} {u:Value} (q:∀ w,(isAgg t).run P w=.ok false w) (y:Fr.ev fr x=some (.pointer (some (rad ad k))))
    (m:∀ v,v.sat H→ag_ Γ v→bz_ v ad cs) (h:cs[k]? = some u):Yld P N fr H Γ (.load t x) ty u :=
  hc_ y (fun v e A=>cY_ q ((m v e A).cell h))
theorem au_ {t:TypeId} {x:Operand} {ad:Option Addr} {k n:Nat} {cs us:List Value} (E:∀ w,(isAgg t).run P w=.ok true w) (h:∀ w,(sizeOf t).run P w=.ok n w) (A:Fr.ev fr x=some (.pointer (some (rad ad k))))
    (q:∀ v,v.sat H→ag_ Γ v→bz_ v ad cs) (B:us.length=n) (m:∀ j y,us[j]? = some y→cs[k+j]? = some y):Yld P N fr H Γ (.load t x) ty (.agg us.toArray) :=
  hc_ A (fun v e F=>dY_ E h B (fun j y C=>by
    have:=(q v e F).cell (m j y C);simpa [rad,Nat.add_assoc] using this))
theorem fj_ {k:Act→World→Prop} {b:Nat} {o:Obj} {F:Hp} (f:Fct) (B:H.Perm ((b,o)::F)) (M:∀ v:Vw,v.im b→v.w.heap[b]? = some o→ag_ Γ v→f.p v) (h:Ok N v0 H0 k fr F (f::Γ)):Ok N v0 H0 k fr H Γ:=by
 intro a v L G m J;have g:=G.perm B;have I:=g.own (b,o) (List.mem_cons_self);have C:b<v.w.heap.size:=(Array.getElem?_eq_some_iff.1 I.1).1;have q:=g.nodup;rw[List.map_cons,List.nodup_cons]at q;have A:v.le ⟨fun x=>v.im x∨x=b,v.w,v.sl⟩:=⟨fun x e=>.inl e,fun _ _=>rfl,rfl⟩;have y:b∈H.map Prod.fst:=(B.map Prod.fst).mem_iff.2 zC_;refine h a ⟨fun x=>v.im x∨x=b,v.w,v.sl⟩ L ⟨fun p E=>⟨(g.own p (List.mem_cons_of_mem _ E)).1,fun hi=>?_⟩,q.2,fun x e=>?_⟩ ?_ ⟨M _ (.inr rfl) I.1 (az_ A J),az_ A J⟩
 ·rcases hi with hi|hi
  ·exact (g.own p (List.mem_cons_of_mem _ E)).2 hi
  exact q.1 (by have:=List.mem_map_of_mem (f:=Prod.fst) E;rw[hi]at this;exact this)
 ·rcases e with e|e
  ·exact G.lt x e
  exact e▸C
 refine⟨m.os,m.tape,m.output,m.size,m.block,fun x e=>.inl (m.imUp x e),fun x e=>?_,fun x e=>m.hNew x ((B.map Prod.fst).mem_iff.2 (by rw[List.map_cons];exact List.mem_cons_of_mem _ e)),m.sl,m.dr⟩;rcases e with e|e
 ·exact m.imNew x e
 exact .inr (e▸m.hNew b y)
def aB_ (e:TypeId) (sz:Nat) (sv:Value) (n:Nat) (xs:List Value) (Hr:Hp):Prop :=
  xs.length=n*sz∧((sv=.slice none 0 0∧n=0∧Hr=[]) ∨
    ∃ g cap cur,sv=.slice (some ⟨g,0,none⟩) n cap∧Hr=[(g,.cells cur e (0,0))]∧n≤cap∧cap≤maxLen∧cur.size=cap*sz∧cur.toList.take (n*sz)=xs)
theorem aB_.nil (e:TypeId) (sz:Nat):aB_ e sz (.slice none 0 0) 0 [] []:=⟨by simp,.inl ⟨rfl,rfl,rfl⟩⟩
theorem aB_.owns {e:TypeId} {sz n:Nat} {sv:Value} {m:List Value} {Hr F:Hp} {v:Vw} (h:aB_ e sz sv n m Hr) (x:v.sat (Hr++F)):v.w.ownsRow 0 e sz sv n m:=by
 refine⟨h.1,?_⟩;rcases h.2 with⟨k,q,_⟩|⟨g,cap,cur,k,rfl,B,C,A,y⟩
 ·exact .inl ⟨k,q⟩
 exact .inr ⟨g,cap,cur,k,Nat.zero_le _,(x.own (g,.cells cur e (0,0)) zC_).1,B,C,A,y⟩
theorem jn_ {e:TypeId} {sz n n':Nat} {sv sv':Value} {U ys:List Value} {Hr F:Hp} {v:Vw} {w':World} (h:aB_ e sz sv n U Hr) (I:v.sat (Hr++F)) (Q:w'.ownsRow 0 e sz sv' n' ys) (E:v.w.grownBy w' sv.ownBlock) (Y:v.w.drawn≤w'.drawn)
    (J:∀ g,sv'.ownBlock=some g→sv.ownBlock=some g∨v.w.heap.size≤g) :
    ∃ x,aB_ e sz sv' n' ys x∧(⟨v.im,w',v.sl⟩:Vw).sat (x++F)∧v.to (Hr++F) ⟨v.im,w',v.sl⟩ (x++F):=by
  have L:∀ p,p∈Hr++F→p.1<v.w.heap.size:=fun p m=>(Array.getElem?_eq_some_iff.1 (I.own p m).1).1
  have A:∀ b,sv.ownBlock=some b→b∈Hr.map Prod.fst:=fun b y=>by
    rcases h.2 with⟨rfl,_,_⟩|⟨g,cap,cur,rfl,rfl,_⟩
    · simp[Value.ownBlock]at y
    · simp[Value.ownBlock]at y;simp[y]
  have B:=I.nodup;rw[List.map_append,List.nodup_append]at B;have W:∀ p,p∈F→some p.1≠sv.ownBlock:=fun p m e=>B.2.2 _ (A p.1 e.symm) _ (List.mem_map_of_mem m) rfl
  have C:∀ p,p∈F→w'.heap[p.1]? = some p.2∧¬ v.im p.1:=fun p m=>by
    have:=I.own p (List.mem_append_right _ m);exact⟨by rw[E.block _ (L p (List.mem_append_right _ m)) (W p m)];exact this.1,this.2⟩
  have M:∀ x:Hp,(∀ b,b∈x.map Prod.fst→b∈Hr.map Prod.fst∨v.w.heap.size≤b)→v.to (Hr++F) ⟨v.im,w',v.sl⟩ (x++F):=fun x Z=>by
    refine⟨E.os,E.tape,E.output,E.size,fun b y hn=>E.block b y (fun e=>hn ?_),fun _ h=>h,fun _ h=>.inl h,fun b y=>?_,rfl,.inr Y⟩
    · rw[List.map_append];exact List.mem_append_left _ (A b e.symm)
    · rw[List.map_append]at y ⊢
      rcases List.mem_append.1 y with G|G
      · exact (Z b G).imp (List.mem_append_left _) id
      · exact .inl (List.mem_append_right _ G)
  rcases Q.2 with⟨G,X⟩|⟨g,cap,cur,G,_,V,h4,T,h6,S⟩
  · refine⟨[],⟨Q.1,.inl ⟨G,X,rfl⟩⟩,⟨fun p m=>C p (by simpa using m),by simpa using B.2.1,fun b y=>Nat.lt_of_lt_of_le (I.lt b y) E.size⟩,M [] zC_⟩
  · have k:g∈Hr.map Prod.fst∨v.w.heap.size≤g:=(J g (by rw[G];rfl)).imp (A g) id
    refine⟨[(g,.cells cur e (0,0))],⟨Q.1,.inr ⟨g,cap,cur,G,rfl,h4,T,h6,S⟩⟩,⟨fun p m=>?_,?_,fun b y=>Nat.lt_of_lt_of_le (I.lt b y) E.size⟩,M _ zaC_⟩
    · rcases List.mem_append.1 m with m|m
      · simp only[List.mem_singleton]at m
        subst m;refine⟨V,fun hi=>?_⟩;rcases k with k|k
        · obtain⟨q,O,rfl⟩:=List.mem_map.1 k
          exact (I.own q (List.mem_append_left _ O)).2 hi
        · have:=I.lt _ hi;omega
      · exact C p m
    · simp only[List.map_append,List.map_cons,List.map_nil,List.singleton_append,List.nodup_cons]
      refine⟨fun hm=>?_,B.2.1⟩;obtain⟨q,O,e⟩:=List.mem_map.1 hm;rcases k with k|k
      · exact B.2.2 _ k _ (List.mem_map_of_mem O) e.symm
      · have:=L q (List.mem_append_right _ O);omega
theorem kT_ (w:World) {t ty' e:TypeId} {i:TypeInfo} {z:Value} {n m c sz:Nat} {sv L:Value} {w':World} {E news:List Value} {ad:Addr} (A:P.underlying t=some (.slice e)) (hi:P.info? e=some i) (O:i.zero=some z)
    (G:i.size=sz) (q:w.ownsRow 0 e sz sv n E) (hl:news.length=m*sz) (h:∀ j u,news[j]? = some u→w.cell? (ad.add j)=some u) (Q:∀ u∈news,u.oneCell'=true) (C:n+m≤maxLen) (M:(n+m)*i.bytes≤140737488355328)
    (v:(Builtin.append_ #[t,t] ty' #[sv,.slice (some ad) m c]).run P w=.ok L w'):w.drawn≤w'.drawn∧∀ g,L.ownBlock=some g→sv.ownBlock=some g∨w.heap.size≤g:=by
  subst G;have B:n+m≤9223372036854775807:=by simp only[maxLen]at C;omega
  rcases q.2 with⟨rfl,rfl⟩|⟨b,cap,cur,rfl,_,I,T,_,J,F⟩
  · by_cases hm:m=0
    · subst hm
      have S:news=[]:=List.eq_nil_of_length_eq_zero (by simpa using hl);subst S
      have:(Builtin.append_ #[t,t] ty' #[.slice none 0 0,.slice (some ad) 0 c]).run P w=.ok (.slice none 0 0) w:=by
        simp[Builtin.append_,run_underlying A,sizeOf,typeInfo,hi,Builtin.lenOf,Builtin.firstCells,loadCells,loadCellsFrom]
      rw[this]at v;cases v;exact⟨Nat.le_refl _,fun g x=>by simp[Value.ownBlock]at x⟩
    · have:=run_append_nil (P:=P) w t ty' e i z A hi O ad m c news hl h zr_ zr_ (by simp only[Nat.zero_add]at M;omega)
      rw[this]at v;cases v;refine⟨by simp,fun g x=>?_⟩;simp only[Value.ownBlock,Option.some.injEq]at x;exact .inr zr_
  · by_cases k:n+m≤cap
    · have y:n*i.size+news.length≤cur.size:=by rw[hl,J,← Nat.add_mul];exact Nat.mul_le_mul_right _ k
      have:=run_append_room (P:=P) w t ty' e i A hi b n cap cur I ad m c news hl h Q k y;rw[this]at v;cases v;exact⟨by simp,fun g x=>.inl x⟩
    · have ag_:∀ j u,E[j]? = some u→w.cell? ((⟨b,0,none⟩:Addr).add j)=some u:=q.cells (g:=b) rfl
      have:=run_append_grow (P:=P) w t ty' e i z A hi O ⟨b,0,none⟩ n cap E q.1 ag_ ad m c news hl h zr_ zr_ (growslice_fits zr_ M);rw[this]at v;cases v;refine⟨by simp,fun g x=>?_⟩;simp only[Value.ownBlock,Option.some.injEq]at x;exact .inr zr_
structure Elt (P:Program) (t e:TypeId) (sz by':Nat):Prop where
  und:P.underlying t=some (.slice e)
  info:∃ i z,P.info? e=some i∧i.zero=some z∧i.size=sz∧i.bytes=by'∧z.cells.size=sz
  pos:0<sz
theorem ay_ {x y:Operand} {t e:TypeId} {sz by' n m c:Nat} {sv:Value} {E news:List Value} {Hr F:Hp} {ad:Addr} (C:Elt P t e sz by') (k:aB_ e sz sv n E Hr)
    (X:Fr.ev fr x=some sv) (Z:Fr.ev fr y=some (.slice (some ad) m c)) (G:H.Perm (Hr++F)) (hl:news.length=m*sz) (q:∀ v,v.sat H→ag_ Γ v→∀ j u,news[j]? = some u→v.w.cell? (ad.add j)=some u) (A:∀ u∈news,u.oneCell'=true)
    (B:n+m≤maxLen) (Q:(n+m)*by'≤140737488355328) (hN:Nat.blt d N.n=true)
    (hk:∀ sv' h,aB_ e sz sv' (n+m) (E++news) h→Ops P R N v0 H0 ops l K ((d,sv')::fr) (h++F) Γ) :
    Ops P R N v0 H0 ops (⟨some d,.call ⟨.builtin .append,#[x,y],#[t,t]⟩,ty,ps,af,none⟩::l) K fr H Γ :=
  cD_ rfl fun a v I J h3 V=>by
    obtain⟨i,z,hi,S,es,O,ez⟩:=C.info;have g:=J.perm G;have U:=q v J V;have L:=k.owns g;obtain⟨W,w',T,q1,q2,_⟩:=run_append_own (P:=P) v.w 0 t ty e i z sz by' C.und hi S es O ez C.pos sv n E L ad m c news hl U A B Q (Nat.zero_le _)
    obtain⟨Y,a2⟩:=kT_ v.w C.und hi S es L hl U A B (by rw[O];exact Q) T;obtain⟨h,k1,k2,M⟩:=jn_ k g q1 q2 Y a2;unfold Oper.wp execOp;simp only[resolve,invoke,builtin,Sem.run_bind,Sem.run_pure,Result.andThen_ok,List.map_toArray,List.map_cons,List.map_nil,I.ev X,I.ev Z,T];exact hk W h k1 _ ⟨v.im,w',v.sl⟩ (I.put hN) k2 (h3.trans (M.permL G.symm)) (az_ ((M.permL G.symm).le J) V)
theorem oI_ {t:TypeId} {parts:Array (Nat×Operand)} {u:Value} (h:∀ a:Act,Fr.sat N fr a→∀ w,(Instr.build t (parts.map fun (i,x)=>(i,a.eval x))).run P w=.ok u w) :
    Yld P N fr H Γ (.build t parts) ty (u) :=
  fun a v e k m _ _ _=>by
    have:=h a e v.w;simp only[execOp,Sem.run_bind,this,Result.andThen_ok,Sem.run_pure]
def Fr.evp (fr:Fr):List (Nat×Operand)→Option (List (Nat×Value))
  | []=>some []
  | (i,x)::r=>match Fr.ev fr x with
    | some v=>match Fr.evp fr r with
      | some vs=>some ((i,v)::vs)
      | none=>none
    | none=>none
theorem Fr.sat.evp {a:Act} (h:Fr.sat N fr a):∀ {xs:List (Nat×Operand)} {vs:List (Nat×Value)},Fr.evp fr xs=some vs→xs.map (fun (i,x)=>(i,a.eval x))=vs
 | [],vs,e=>by simp only[Fr.evp,Option.some.injEq]at e;subst e;rfl
 | (i,x)::r,vs,e=>by
   simp only[Fr.evp]at e
   split at e
   · rename_i u m
     split at e
     · rename_i us k
       simp only[Option.some.injEq]at e;subst e;show (i,a.eval x)::_=_
       rw[h.ev m];exact congrArg _ (h.evp k)
     · cases e
   · cases e
def ll_:List Value→Nat→List Value→List Value
  | cs,0,[]=>cs
  | _::cs,0,v::vs=>v::ll_ cs 0 vs
  | c::cs,n+1,vs=>c::ll_ cs n vs
  | [],_,_=>[]
theorem ri_:∀ (cs:List Value) (n:Nat),ll_ cs n []=cs
  | [],0=>rfl
  | [],n+1=>rfl
  | c::cs,0=>rfl
  | c::cs,n+1=>by simp only[ll_];rw[ri_ cs n]
theorem pd_:∀ (cs:List Value) (n:Nat) (v:Value) (vs:List Value),ll_ cs n (v::vs)=ll_ (cs.set n v) (n+1) vs
  | [],0,v,vs=>by simp[ll_]
  | [],n+1,v,vs=>by simp[ll_]
  | c::cs,0,v,vs=>by simp[ll_]
  | c::cs,n+1,v,vs=>by simp only[ll_,List.set_cons_succ];rw[pd_ cs n v vs]
theorem pl_ (off:Nat):∀ (vs:List Value) (k:Nat) (cs:List Value),
    (vs.zipIdx k).foldl (fun (cs:Array Value) (p:Value×Nat)=>cs.setIfInBounds (off+p.2) p.1) cs.toArray=(ll_ cs (off+k) vs).toArray
  | [],k,cs=>by simp[ri_]
  | v::vs,k,cs=>by
    simp only[List.zipIdx_cons,List.foldl_cons];rw[pd_,show cs.toArray.setIfInBounds (off+k) v=(cs.set (off+k) v).toArray by simp,pl_ off vs (k+1)];rfl
def mp_ (place:Nat→Option (Nat×Nat)):List Value→List (Nat×Value)→Option (List Value)
  | cells,[]=>some cells
  | cells,(i,v)::rest=>match place i with
    | none=>none
    | some (off,size)=>bif Nat.beq v.cells.toList.length size&&Nat.ble (off+size) cells.length then mp_ place (ll_ cells off v.cells.toList) rest else none
theorem iU_ (e:Nat→Option (Nat×Nat)):∀ (vs:List (Nat×Value)) (cells cs:List Value),mp_ e cells vs=some cs→Instr.fill e cells.toArray vs=some cs.toArray
  | [],cells,cs,h=>by simp only[mp_,Option.some.injEq]at h;subst h;rfl
  | (i,v)::rest,cells,cs,h=>by
    simp only[mp_]at h;cases hp:e i with
    | none=>rw[hp]at h;cases h
    | some q =>
      obtain⟨off,size⟩:=q;rw[hp]at h;simp only at h;cases hb:(Nat.beq v.cells.toList.length size&&Nat.ble (off+size) cells.length) with
      | false=>rw[hb]at h;cases h
      | true =>
        rw[hb,cond_true]at h;simp only[Bool.and_eq_true]at hb;have y:v.cells.size=size:=by simpa using Nat.eq_of_beq_eq_true hb.1
        have A:off+size≤cells.length:=Nat.le_of_ble_eq_true hb.2;have x:=iU_ e rest _ _ h;have m:=pl_ off v.cells.toList 0 cells;simp only[Nat.add_zero]at m
        have k:v.cells.zipIdx.foldl (fun (cs:Array Value) (p:Value×Nat)=>cs.setIfInBounds (off+p.2) p.1) cells.toArray=(ll_ cells off v.cells.toList).toArray:=by
          rw[← m,← Array.foldl_toList];simp[Array.toList_zipIdx]
        simp only[Instr.fill,hp];rw[if_neg (by simp[y];omega)];exact k▸x
def ij_ (P:Program) (t:TypeId) (pl:List (Nat×Nat)) (z:List Value):Prop :=
  ∃ fs:Array Field,(∀ w,(zeroValue t).run P w=.ok (.agg z.toArray) w)∧(∀ w,(underlying t).run P w=.ok (.struct fs) w)∧(∀ w,(fs.mapM (fun (f:Field)=>(do pure (f.offset,← sizeOf f.type):Sem (Nat×Nat)))).run P w=.ok pl.toArray w)
theorem K_ {t:TypeId} {parts:List (Nat×Operand)} {vs:List (Nat×Value)} {pl:List (Nat×Nat)} {z cs:List Value} (k:ij_ P t pl z) (q:Fr.evp fr parts=some vs) (y:mp_ (fun i=>pl[i]?) z vs=some cs) :
    Yld P N fr H Γ (.build t parts.toArray) ty (.agg cs.toArray) :=
  oI_ (fun a h w=>by
    obtain⟨fs,A,m,x⟩:=k;have:=h.evp q;rw[List.map_toArray,this];have e:=iU_ _ _ _ _ y;have v:Instr.fill (fun i=>pl.toArray[i]?) z.toArray vs=some cs.toArray:=by simpa using e
    simp only[Instr.build,Sem.run_bind,A,Result.andThen_ok,m,x,Value.cells,v,Sem.run_pure])
def jv_ (z:List Value):Nat→List Value
  | 0=>[]
  | n+1=>z++jv_ z n
theorem qn_ (z:List Value) (e:0<z.length):∀ (n i:Nat),i<n*z.length→(jv_ z n)[i]? = z[i%z.length]?
 | 0,i,h=>by simp at h
 | n+1,i,h=>by
   simp only[jv_]
   by_cases hi:i<z.length
   · rw[List.getElem?_append_left hi,Nat.mod_eq_of_lt hi]
   · rw[List.getElem?_append_right zr_,qn_ z e n (i - z.length) (by rw[Nat.add_mul]at h;omega)]
     rw[← Nat.mod_eq_sub_mod zr_]
theorem iu_ (z:List Value):∀ n,(jv_ z n).length=n*z.length
  | 0=>by simp[jv_]
  | n+1=>by simp only[jv_,List.length_append,iu_ z n,Nat.add_mul];omega
theorem jK_ (z:List Value) (e:0<z.length) (n:Nat):(Array.range (n*z.length)).map (fun i=>z.toArray[i%z.toArray.size]!)=(jv_ z n).toArray:=by
 apply Array.ext'
 apply List.ext_getElem?
 intro i;simp only[Array.toList_map,Array.toList_range,List.getElem?_map]
 by_cases hi:i<n*z.length
 ·rw[qn_ z e n i hi,List.getElem?_range hi]
  have hm:i%z.length<z.length:=Nat.mod_lt _ e;simp[hm]
 rw[List.getElem?_eq_none (by simpa using hi),List.getElem?_eq_none (by rw[iu_];omega)];rfl
theorem R_ {t e:TypeId} {len sz:Nat} {parts:List (Nat×Operand)} {vs:List (Nat×Value)} {m:Value} {cs:List Value} (G:∀ w,(underlying t).run P w=.ok (.slice e) w) (I:∀ w,(sizeOf e).run P w=.ok sz w) (J:∀ w,(zeroValue e).run P w=.ok m w)
    (B:m.cells.toList.length=sz) (M:Nat.blt 0 (len*sz)=true) (A:Nat.ble (len*sz) 16777216=true) (L:Fr.evp fr parts=some vs) (Q:mp_ (fun i=>some (i*sz,sz)) (jv_ m.cells.toList len) vs=some cs) (O:Nat.blt d N.n=true)
    (hk:∀ b,Ops P R N v0 H0 ops l K ((d,.slice (some ⟨b,0,none⟩) len len)::fr) ((b,.cells cs.toArray e (0,0))::H) Γ):Ops P R N v0 H0 ops (⟨some d,.buildSlice t len parts.toArray,ty,ps,af,none⟩::l) K fr H Γ :=
  gP_ (x:=fun b=>.slice (some ⟨b,0,none⟩) len len) O (fun a v F S T=>by
    have q:=F.evp L;have h:=iU_ _ _ _ _ Q;have k:0<len*sz:=by simpa [Nat.blt_eq] using M
    have C:0<sz:=Nat.pos_of_mul_pos_left k;have E:len*sz≤16777216:=Nat.le_of_ble_eq_true A;have y:=jK_ m.cells.toList zr_ len;rw[B]at y;simp only[Array.toArray_toList]at y;rw[← y]at h;simp only[execOp,Instr.buildSlice,Sem.run_bind,G,Result.andThen_ok,I,List.map_toArray,q];rw[if_neg zr_,if_neg zr_];simp only[Sem.run_bind,Sem.run_pure,J,Result.andThen_ok,h];rfl) hk
end ops
end Go.Sx
namespace Go.Sx
open Go
section ops
variable {P:Program} {N:Nf} {v0:Vw} {H0:Hp} {R:Exit→Act→World→Prop} {K:List Kt} {fr:Fr} {H:Hp} {Γ:List Fct}
variable {ops:Array Oper} {l:List Oper} {d:Nat} {ty:TypeId} {ps:String} {af:Array Edge}
theorem qO_ (h:Array Obj) (o:Obj) (f:Obj→Obj):(h.push o).modify h.size f=h.push (f o):=by
 apply Array.ext_getElem?
 intro i;rw[Array.getElem?_modify]
 by_cases e:h.size=i
 ·subst e;simp
 rw[if_neg e,Array.getElem?_push,Array.getElem?_push,if_neg (fun h=>e h.symm),if_neg (fun h=>e h.symm)]
def bytesV (m:List UInt8):List Value:=m.map fun c=>.int .u8 (c.toNat:Int)
theorem yd_ {x:Operand} {s t e:TypeId} {m:List UInt8} (F:∀ w,(underlying s).run P w=.ok .string w) (M:∀ w,(underlying t).run P w=.ok (.slice e) w) (E:∀ w,(underlying e).run P w=.ok (.int .u8) w)
    (J:Fr.ev fr x=some (str m)) (L:Nat.blt d N.n=true)
    (hk:∀ cap b,m.length≤cap→Ops P R N v0 H0 ops l K ((d,.slice (some ⟨b,0,none⟩) m.length cap)::fr) ((b,.cells (bytesV m++List.replicate (cap - m.length) (Value.int .u8 0)).toArray e (cap,cap+1))::H) Γ) :
    Ops P R N v0 H0 ops (⟨some d,.convert s t x,ty,ps,af,none⟩::l) K fr H Γ :=
  nE_ (β:=Nat) (x:=fun cap b=>.slice (some ⟨b,0,none⟩) m.length cap) (o:=fun cap=>.cells (bytesV m++List.replicate (cap - m.length) (Value.int .u8 0)).toArray e (cap,cap+1)) (fun cap=>m.length≤cap) L
    (fun a v C O Q=>by
      have h:m.length≤(Question.appendCap m.length 0 e).cut (v.w.tape v.w.drawn (.appendCap m.length 0 e)):=by simp[Question.cut]
      generalize I:(Question.appendCap m.length 0 e).cut (v.w.tape v.w.drawn (.appendCap m.length 0 e))=cap at h
      have k:(bytesV m++List.replicate (cap - m.length) (Value.int .u8 0)).length=cap:=by simp[bytesV];omega
      have B:(⟨m.toArray⟩:ByteArray).size=m.length:=by simp[ByteArray.size]
      have A:(Array.map (fun (b:UInt8)=>Value.int .u8 (b.toNat:Int)) m.toArray++Array.replicate (cap - m.length) (Value.int .u8 0))=(bytesV m++List.replicate (cap - m.length) (Value.int .u8 0)).toArray:=by simp[bytesV]
      refine⟨cap,{ v.w with heap:=v.w.heap.push (.cells (bytesV m++List.replicate (cap - m.length) (Value.int .u8 0)).toArray e (cap,cap+1)),drawn:=v.w.drawn+1 },h,?_,rfl,rfl,rfl,rfl,Nat.le_succ _⟩
      have q:(Conv.stringToBytes e ⟨m.toArray⟩).run P v.w=.ok (.slice (some ⟨v.w.heap.size,0,none⟩) m.length cap) { v.w with heap:=v.w.heap.push (.cells (bytesV m++List.replicate (cap - m.length) (Value.int .u8 0)).toArray e (cap,cap+1)),drawn:=v.w.drawn+1 }:=by
        generalize bytesV m++List.replicate (cap - m.length) (Value.int .u8 0)=cs at k A ⊢
        simp only[Conv.stringToBytes,B];show Sem.run P (choose _ >>= _) v.w=_
        rw[Sem.run_bind]
        have y:(choose (.appendCap m.length 0 e)).run P v.w=.ok cap { v.w with drawn:=v.w.drawn+1 }:=by
          simp[choose,Sem.run,Question.forced,I]
        rw[y,Result.andThen_ok,A];simp only[newRow,Sem.run_bind,newObj,markStringish,shape,freeze];simp only[Sem.run,Result.andThen_ok,World.shape?,Array.getElem?_push_size,List.size_toArray,k,World.freeze,Nat.one_ne_zero,if_false,Sem.run_pure];rw[qO_];simp
      simp only[execOp,Sem.run_bind,convert,F,M,E,Result.andThen_ok,C.ev J,str,q,Sem.run_pure])
    (fun cap b G=>hk cap b G)
theorem fr_ {t:TypeId} {x:Operand} {lo hi:Option Operand} {m:List UInt8} {i j:Nat} {kl kh:IntKind} (A:∀ w,(underlying t).run P w=.ok .string w) (C:Fr.ev fr x=some (str m))
    (h:match lo with|some y=>Fr.ev fr y=some (.int kl (i:Int))|none=>i=0) (e:match hi with|some y=>Fr.ev fr y=some (.int kh (j:Int))|none=>j=m.length) (q:i≤j) (F:j≤m.length) :
    Yld P N fr H Γ (.slice t x lo hi none) ty (str ((m.drop i).take (j - i))) :=
  fun a v k G I _ _ _=>by
    have E:(⟨m.toArray⟩:ByteArray).size=m.length:=by simp[ByteArray.size]
    have B:=ByteArray.extract_mk m i j;cases lo<;>cases hi<;>simp only at h e
    · subst h e;simp[execOp,Instr.sliceAt,Instr.slice,A,k.ev C,str,Instr.sliceBounds,E,B]
    · subst h;simp[execOp,Instr.sliceAt,Instr.slice,A,k.ev C,k.ev e,str,Instr.sliceBounds,Instr.sliceBound,asIntOf,E,B,F]
    · subst e;simp[execOp,Instr.sliceAt,Instr.slice,A,k.ev C,k.ev h,str,Instr.sliceBounds,Instr.sliceBound,asIntOf,E,B,q]
    · simp[execOp,Instr.sliceAt,Instr.slice,A,k.ev C,k.ev h,k.ev e,str,Instr.sliceBounds,Instr.sliceBound,asIntOf,E,B,q,F]
def sad (ad:Option Addr) (cap i n:Nat):Option Addr:=if cap=i then ad else ad.map (·.add (i*n))
theorem dm_ {t e:TypeId} {x:Operand} {lo hi:Option Operand} {ad:Option Addr} {len cap i j n:Nat} {kl kh:IntKind} (A:∀ w,(underlying t).run P w=.ok (.slice e) w) (B:∀ w,(sizeOf e).run P w=.ok n w) (C:Fr.ev fr x=some (.slice ad len cap))
    (k:match lo with|some y=>Fr.ev fr y=some (.int kl (i:Int))|none=>i=0) (h:match hi with|some y=>Fr.ev fr y=some (.int kh (j:Int))|none=>j=len) (q:i≤j) (E:j≤cap) :
    Yld P N fr H Γ (.slice t x lo hi none) ty (.slice (sad ad cap i n) (j - i) (cap - i)) :=
  fun a v m F G _ _ _=>by
    cases lo<;>cases hi<;>simp only at k h
    · subst k h;simp[execOp,Instr.sliceAt,Instr.slice,A,B,m.ev C,Instr.sliceBounds,sad]
    · subst k;simp[execOp,Instr.sliceAt,Instr.slice,A,B,m.ev C,m.ev h,Instr.sliceBounds,Instr.sliceBound,asIntOf,E,sad]
    · subst h;simp[execOp,Instr.sliceAt,Instr.slice,A,B,m.ev C,m.ev k,Instr.sliceBounds,Instr.sliceBound,asIntOf,q,sad]
    · simp[execOp,Instr.sliceAt,Instr.slice,A,B,m.ev C,m.ev k,m.ev h,Instr.sliceBounds,Instr.sliceBound,asIntOf,q,E,sad]
theorem bz_.sad {v:Vw} {ad:Option Addr} {cs:List Value} {cap i n:Nat} (h:bz_ v ad cs) (e:List Value) (m:∀ j x,e[j]? = some x→cs[i*n+j]? = some x) (q:cs.length≤cap*n):bz_ v (sad ad cap i n) e:=by
 unfold Sx.sad
 split
 ·rename_i k
  subst k;left
  cases e with
  | nil=>rfl
  | cons d e =>
    have:=m 0 d rfl;rw[List.getElem?_eq_none zr_]at this;cases this
 exact h.drop (i*n) e m
theorem bT_ {fn:Fn} {h ys:List Operand} {us vs:List Value} (q:Fr.evs fr h=some us) (k:Fr.evs fr ys=some vs):Yld P N fr H Γ (.makeFunc fn h.toArray ys.toArray) ty (.func fn us.toArray vs.toArray) :=
  fun a v e y A _ _ _=>by
    have x:=e.evs q;have m:=e.evs k;simp[execOp,Instr.makeFunc,x,m]
theorem aA_ {f:FuncId} {g:Operand} {first cap:List Value} {y:List Operand} {h:Array TypeId} {vs:List Value} {ι:Type} {Hc F:Hp} {q:List Fct} {e:ι→Value} {H':ι→Hp} {Γ':ι→List Fct}
    (k:Tri P f (first++vs++cap).toArray Hc q e H' Γ') (G:Fr.ev fr g=some (.func (.func f) first.toArray cap.toArray)) (E:Fr.evs fr y=some vs) (A:H.Perm (Hc++F)) (B:∀ v,v.sat H→ag_ Γ v→ag_ q v) (I:Nat.blt d N.n=true)
    (hk:∀ x,Ops P R N v0 H0 ops l K ((d,e x)::fr) (H' x++F) (Γ' x++Γ)) :
    Ops P R N v0 H0 ops (⟨some d,.call ⟨.value g,y.toArray,h⟩,ty,ps,af,none⟩::l) K fr H Γ :=
  oX_ k (fun a w m=>by
    have J:=m.evs E;have C:=k.callable (first++vs++cap).toArray w;simp only[execOp,resolve,Deferred.ofValue,m.ev G,invoke,List.map_toArray,J,Sem.run_bind,Sem.run_pure,Result.andThen_ok,List.append_toArray,C]) A B I hk
end ops
end Go.Sx
namespace Go.Sx
open Go
class NoPan (R:Exit→Act→World→Prop):Prop where
  st:∀ c a d x w,R (.panic c) (a.put d x) w→R (.panic c) a w
instance {P:Program} {fn:Func} {ι:Type} {v0:Vw} {H0:Hp} {ret:ι→Value} {H':ι→Hp} {Γ':ι→List Fct}:NoPan (bodyPost P fn (kV_ v0 H0 ret H' Γ')) :=
  ⟨fun c a d x w h=>by obtain⟨_,y,v',e,_⟩:=h;cases e⟩
instance {N:Nf} {v0:Vw} {H0:Hp} {ι:Type} {frs:ι→Fr} {Hs:ι→Hp} {Γs:ι→List Fct}:NoPan (Mid N v0 H0 frs Hs Γs) :=
  ⟨fun c a d x w h=>by cases h.1⟩
theorem kw_ {P:Program} {R:Exit→Act→World→Prop} [hR:NoPan R] {c:List PanicEntry} {a:Act} {d:Option Tmp} {x:Value} {w:World}:∀ (K:List Kt),post P R K (.panic c) (a.put d x) w→post P R K (.panic c) a w
  | [],h=>hR.st c a d x w h
  | .seq _::K,h=>kw_ K h
  | .inv _::K,h=>kw_ K h
  | .blk _::K,h=>kw_ K h
def SW (Hs:Hp) (Γs:List Fct) (w:World):Prop:=∃ v:Vw,v.w=w∧v.sat Hs∧ag_ Γs v
section any
variable {P:Program} {N:Nf} {v0:Vw} {H0:Hp} {R:Exit→Act→World→Prop} {K:List Kt} {fr:Fr} {H Hs:Hp} {Γ Γs:List Fct}
variable {ops:Array Oper} {d:Nat} {ty:TypeId} {ps:String} {af:Array Edge} {fuel:Nat} {listed:Array Bool}
abbrev Any (P:Program) (R:Exit→Act→World→Prop) (N:Nf) (v0:Vw) (H0:Hp) (ops:Array Oper) (Hs:Hp) (Γs:List Fct) (fuel:Nat) (listed:Array Bool) (K:List Kt) (fr:Fr) (H:Hp) (Γ:List Fct):Prop :=
  Ok N v0 H0 (wpAnyH P .any ops (post P R K) (SW Hs Γs) fuel listed) fr H Γ
theorem qG_ {q:Nat} (Hs:Hp) (Γs:List Fct) (hm:P.follows .mixedOrders=true) (h:Any P R N v0 H0 ops Hs Γs ops.size (Array.replicate ops.size false) K fr H Γ):Run P R N v0 H0 (.region q ops true) K fr H Γ :=
  fun a v x m e y=>wp_region_held hm (by
    have k:v.le ⟨v.im,{ v.w with drawn:=v.w.drawn+1 },v.sl⟩:=⟨fun _ h=>h,fun _ _=>rfl,rfl⟩;exact h a ⟨v.im,{ v.w with drawn:=v.w.drawn+1 },v.sl⟩ x ⟨m.own,m.nodup,m.lt⟩ ⟨e.os,e.tape,e.output,e.size,e.block,e.imUp,e.imNew,e.hNew,e.sl,e.dr.imp (fun h=>h) fun h=>Nat.le_succ_of_le h⟩ (az_ k y))
theorem jg_ {e:Nat} (hm:P.follows .mixedOrders=true) (h:Any P R N v0 H0 ops H Γ ops.size (Array.replicate ops.size false) K fr H Γ):Run P R N v0 H0 (.region e ops true) K fr H Γ:=qG_ H Γ hm h
theorem Vw.sat.tail {v:Vw} {p:Nat×Obj} (h:v.sat (p::H)):v.sat H :=
  ⟨fun x e=>h.own x (List.mem_cons_of_mem _ e),by have:=h.nodup;rw[List.map_cons,List.nodup_cons]at this;exact this.2,h.lt⟩
theorem ql_ [NoPan R] (i:Nat) {e:Oper} {x:Value} (hi:ops[i]? = some e) (E:Region.noSelect ops=true) (I:Region.free .any ops listed i=true) (C:(Region.ready .any ops listed).contains i=true)
    (A:e.dst=some d) (G:Nat.blt d N.n=true) (F:∀ a,Fr.sat N fr a→YieldsIf P ops (SW Hs Γs) e x a) (y:∀ v,v.sat H→ag_ Γ v→v.sat Hs∧ag_ Γs v)
    (h:Any P R N v0 H0 ops Hs Γs fuel (listed.setIfInBounds i true) K ((d,x)::fr) H Γ):Any P R N v0 H0 ops Hs Γs (fuel+1) listed K fr H Γ :=
  fun a v k m J q=>wpAnyH_take hi E I C (fun c a w B=>kw_ K B) (F a k) ⟨v,rfl,y v m q⟩ (by
    rw[A];exact h _ v (k.put G) m J q)
theorem xe_ [NoPan R] (i:Nat) {k:Op} {x:Value} (hi:ops[i]? = some ⟨some d,k,ty,ps,af,none⟩) (E:Region.noSelect ops=true) (C:Region.free .any ops listed i=true) (m:(Region.ready .any ops listed).contains i=true)
    (A:Yld P N fr Hs Γs k ty x) (q:Nat.blt d N.n=true) (B:∀ v,v.sat H→ag_ Γ v→v.sat Hs∧ag_ Γs v)
    (h:Any P R N v0 H0 ops Hs Γs fuel (listed.setIfInBounds i true) K ((d,x)::fr) H Γ):Any P R N v0 H0 ops Hs Γs (fuel+1) listed K fr H Γ :=
  ql_ i hi E C m rfl q (fun a y=>.inl ⟨rfl,fun w ⟨v,e,k1,k2⟩=>by subst e;exact A a v y k1 k2 (some d) ps af⟩) B h
theorem uO_ [NoPan R] (i:Nat) {q:Op} {x:Value} {j t:Nat} {k:Bool} (hi:ops[i]? = some ⟨some d,q,ty,ps,af,some (j,k)⟩) (E:Region.noSelect ops=true) (I:Region.free .any ops listed i=true) (B:(Region.ready .any ops listed).contains i=true)
    (G:iR_ ops j=some t) (C:Fr.get fr t=some (.bool k)) (y:Yld P N fr Hs Γs q ty x) (F:Nat.blt d N.n=true) (A:∀ v,v.sat H→ag_ Γ v→v.sat Hs∧ag_ Γs v)
    (h:Any P R N v0 H0 ops Hs Γs fuel (listed.setIfInBounds i true) K ((d,x)::fr) H Γ):Any P R N v0 H0 ops Hs Γs (fuel+1) listed K fr H Γ :=
  ql_ i hi E I B rfl F (fun a m=>.inl ⟨by simp[Region.wanted,hA_ m G C],fun w ⟨v,e,k1,k2⟩=>by subst e;exact y a v m k1 k2 (some d) ps af⟩) A h
theorem any_no [NoPan R] (i:Nat) {q:Op} {x:Value} {j t:Nat} {e:Bool} (hi:ops[i]? = some ⟨some d,q,ty,ps,af,some (j,e)⟩) (B:Region.noSelect ops=true) (G:Region.free .any ops listed i=true) (y:(Region.ready .any ops listed).contains i=true)
    (E:iR_ ops j=some t) (A:Fr.get fr t=some x) (F:(match x with|.bool b=>Bool.xor b e|_=>true)=true) (C:Nat.blt d N.n=true) (m:∀ v,v.sat H→ag_ Γ v→v.sat Hs∧ag_ Γs v)
    (h:Any P R N v0 H0 ops Hs Γs fuel (listed.setIfInBounds i true) K ((d,undef)::fr) H Γ):Any P R N v0 H0 ops Hs Γs (fuel+1) listed K fr H Γ :=
  ql_ i hi B G y rfl C (fun a k=>.inr ⟨by
    simp only[Region.wanted,hA_ k E A];cases x<;>first|rfl|(rename_i b;cases b<;>cases e<;>simp_all),rfl⟩) m h
def jf_ (ops:Array Oper):Array Bool→List Nat→Bool
  | _,[]=>true
  | listed,i::is=>Region.free .any ops listed i&&((Region.ready .any ops listed).contains i&&jf_ ops (listed.setIfInBounds i true) is)
def Sq (P:Program) (R:Exit→Act→World→Prop) (N:Nf) (v0:Vw) (H0:Hp) (ops:Array Oper) (Hs:Hp) (Γs:List Fct) (is:List Nat) (fuel:Nat) (listed:Array Bool) (K:List Kt) (fr:Fr) (H:Hp) (Γ:List Fct):Prop :=
  (Region.noSelect ops&&jf_ ops listed is)=true→(∀ v,v.sat H→ag_ Γ v→v.sat Hs∧ag_ Γs v)→Any P R N v0 H0 ops Hs Γs (fuel+is.length) listed K fr H Γ
theorem G_ (fuel:Nat) (e:List Nat) (k:(Region.noSelect ops&&jf_ ops listed e)=true) (m:∀ v,v.sat H→ag_ Γ v→v.sat Hs∧ag_ Γs v) (h:Sq P R N v0 H0 ops Hs Γs e fuel listed K fr H Γ):Any P R N v0 H0 ops Hs Γs (fuel+e.length) listed K fr H Γ:=h k m
theorem aZ_ (h:Any P R N v0 H0 ops Hs Γs fuel listed K fr H Γ):Sq P R N v0 H0 ops Hs Γs [] fuel listed K fr H Γ:=fun _ _=>h
theorem nl_ {i:Nat} {e:List Nat} (h:(Region.noSelect ops&&jf_ ops listed (i::e))=true):Region.noSelect ops=true∧Region.free .any ops listed i=true∧(Region.ready .any ops listed).contains i=true∧(Region.noSelect ops&&jf_ ops (listed.setIfInBounds i true) e)=true:=by
  simp only[jf_,Bool.and_eq_true]at h ⊢;exact⟨h.1,h.2.1,h.2.2.1,h.1,h.2.2.2⟩
theorem z_ [NoPan R] {i:Nat} {m:List Nat} {k:Op} {x:Value} (hi:ops[i]? = some ⟨some d,k,ty,ps,af,none⟩) (A:Yld P N fr Hs Γs k ty x) (q:Nat.blt d N.n=true)
    (h:Sq P R N v0 H0 ops Hs Γs m fuel (listed.setIfInBounds i true) K ((d,x)::fr) H Γ):Sq P R N v0 H0 ops Hs Γs (i::m) fuel listed K fr H Γ:=fun v e=>by
  obtain⟨C,E,y,B⟩:=nl_ v;exact xe_ i hi C E y A q e (h B e)
theorem fd_ [NoPan R] {i:Nat} {k:List Nat} {e:Op} {X:Bool} (hi:ops[i]? = some ⟨some d,e,ty,ps,af,none⟩) (q:Yld P N fr Hs Γs e ty (.bool X)) (m:Nat.blt d N.n=true)
    (h:∀ r:Bool,X=r→Sq P R N v0 H0 ops Hs Γs k fuel (listed.setIfInBounds i true) K ((d,.bool r)::fr) H Γ):Sq P R N v0 H0 ops Hs Γs (i::k) fuel listed K fr H Γ:=z_ hi q m (h X rfl)
theorem bK_ [NoPan R] {i:Nat} {q:List Nat} {m:Op} {x:Value} {j t:Nat} {e:Bool} (hi:ops[i]? = some ⟨some d,m,ty,ps,af,some (j,e)⟩) (G:iR_ ops j=some t) (E:Fr.get fr t=some (.bool e)) (y:Yld P N fr Hs Γs m ty x) (F:Nat.blt d N.n=true)
    (h:Sq P R N v0 H0 ops Hs Γs q fuel (listed.setIfInBounds i true) K ((d,x)::fr) H Γ):Sq P R N v0 H0 ops Hs Γs (i::q) fuel listed K fr H Γ:=fun C k=>by
  obtain⟨B,I,v,A⟩:=nl_ C;exact uO_ i hi B I v G E y F k (h A k)
theorem en_ [NoPan R] {i:Nat} {m:List Nat} {k:Op} {X:Bool} {j t:Nat} {e:Bool} (hi:ops[i]? = some ⟨some d,k,ty,ps,af,some (j,e)⟩) (v:iR_ ops j=some t) (y:Fr.get fr t=some (.bool e)) (x:Yld P N fr Hs Γs k ty (.bool X)) (q:Nat.blt d N.n=true)
    (h:∀ r:Bool,X=r→Sq P R N v0 H0 ops Hs Γs m fuel (listed.setIfInBounds i true) K ((d,.bool r)::fr) H Γ):Sq P R N v0 H0 ops Hs Γs (i::m) fuel listed K fr H Γ:=bK_ hi v y x q (h X rfl)
theorem sq_no [NoPan R] {i:Nat} {q:List Nat} {C:Op} {x:Value} {j t:Nat} {e:Bool} (hi:ops[i]? = some ⟨some d,C,ty,ps,af,some (j,e)⟩) (G:iR_ ops j=some t) (E:Fr.get fr t=some x) (k:(match x with|.bool b=>Bool.xor b e|_=>true)=true) (F:Nat.blt d N.n=true)
    (h:Sq P R N v0 H0 ops Hs Γs q fuel (listed.setIfInBounds i true) K ((d,undef)::fr) H Γ):Sq P R N v0 H0 ops Hs Γs (i::q) fuel listed K fr H Γ:=fun B m=>by
  obtain⟨A,I,v,y⟩:=nl_ B;exact any_no i hi A I v G E k F m (h y m)
def Nx (P:Program) (R:Exit→Act→World→Prop) (ops:Array Oper) (Hs:Hp) (Γs:List Fct) (fuel:Nat) (listed:Array Bool) (K:List Kt) (a:Act) (w:World):Prop :=
  SW Hs Γs w∧wpAnyH P .any ops (post P R K) (SW Hs Γs) fuel listed a w
theorem n_ (i:Nat) {o:Oper} (hi:ops[i]? = some o) (B:Region.ready .any ops listed=[i]) (h:Ops P R N v0 H0 ops [o] (.inv (Nx P R ops Hs Γs fuel (listed.setIfInBounds i true) K)::K) fr H Γ):Any P R N v0 H0 ops Hs Γs (fuel+1) listed K fr H Γ:=by
 intro a v m y A C;refine wpAnyH_all B zC_ fun j k=>?_;simp only[List.mem_singleton]at k;subst k;have:=h a v m y A C;unfold wpOp;simp only[hi];unfold wpList at this
 split
 ·rename_i e
  rw[if_pos e]at this;rcases this with q|q
  ·left
   unfold Oper.wp at q ⊢;generalize (execOp a.eval o).run P v.w=r at q ⊢
   cases r with
   | ok n w' =>
     cases n<;>simp only[Oper.upon]at q ⊢<;>exact q
   | halt x w' =>
     cases x<;>simp only[Oper.upon]at q ⊢
     case panic u=>exact q
  exact .inr q
 rename_i e
 rw[if_neg e]at this;exact this
theorem w_ (q:∀ v,v.sat H→ag_ Γ v→v.sat Hs∧ag_ Γs v) (h:Any P R N v0 H0 ops Hs Γs fuel listed K fr H Γ):Ok N v0 H0 (Nx P R ops Hs Γs fuel listed K) fr H Γ :=
  fun a v m e x k=>⟨⟨v,rfl,q v e k⟩,h a v m e x k⟩
theorem eI_ (q:Region.ready .any ops listed=[]) (h:Fin P R N v0 H0 K fr H Γ):Any P R N v0 H0 ops Hs Γs fuel listed K fr H Γ :=
  fun a v e k m x=>wpAnyH_done q (h a v e k m x) fuel
theorem ed_ {α:Type} [BEq α] [LawfulBEq α] {a b:α} (h:(a != b)=true):a≠b:=by simpa using h
theorem ee_ {α:Type} [BEq α] [LawfulBEq α] {a b:α} (h:(a != b)=false):a=b:=by simpa using h
theorem xR_ {N:Nat} {fn:Func} {t s u:Nat} {ι:Type} {F:Hp} {ret:ι→Value} {H':ι→Hp} {Γ':ι→List Fct} {A y q:Value} (I:fn.results=#[.tmp t,.tmp s,.tmp u]) (x:ι) (k:Fr.get fr t=some A) (h:Fr.get fr s=some y) (m:Fr.get fr u=some q) (J:.tuple #[A,y,q]=ret x) (B:H.Perm (H' x++F))
    (C:∀ v,v.sat H→ag_ Γ v→ag_ (Γ' x) v):Ok N v0 H0 (bodyPost P fn (kV_ v0 H0 ret H' Γ') .ret) fr H Γ :=
  dW_ B C fun a v e E L Q=>⟨e.defers,ret x,by rw[← J];have O:=e.val t _ k;have G:=e.val s _ h;have M:=e.val u _ m;simp[results,I,O,G,M],x,v,rfl,rfl,E,Q,L⟩
theorem hQ_ {f:FuncId} {args:Array Value} {r:Value} (B:hu_ P f) (h:∀ w,Calls P f args w fun e w'=>e=.returned r∧w'.heap=w.heap∧w'.os=w.os∧w'.tape=w.tape∧w'.output=w.output∧w.drawn≤w'.drawn):Fn0 P f args r :=
  ⟨B,fun v m _=>(h v.w).mono fun e w' ⟨q,k,y,E,C,x⟩=>⟨(),⟨v.im,w',v.sl⟩,q,rfl,⟨by simp,by simp,fun b A=>by show b<w'.heap.size;rw[k];exact m.lt b A⟩,trivial,
    ⟨y,E,C,by simp[k],fun b _ _=>by show w'.heap[b]? = _;rw[k],fun _ h=>h,fun _ h=>.inl h,fun _ h=>by simp at h,rfl,.inr x⟩⟩⟩
theorem bS_ {f:FuncId} {g:Operand} {first cap:List Value} {l:List Oper} {k:List Operand} {e:Array TypeId} {vs:List Value} {Hc F:Hp} {h:List Fct} {X:Bool}
    (x:Tri P f (first++vs++cap).toArray Hc h (fun _:Unit=>.bool X) (fun _=>Hc) (fun _=>[])) (A:Fr.ev fr g=some (.func (.func f) first.toArray cap.toArray)) (y:Fr.evs fr k=some vs) (m:H.Perm (Hc++F)) (q:∀ v,v.sat H→ag_ Γ v→ag_ h v) (B:Nat.blt d N.n=true)
    (hk:∀ r:Bool,X=r→Ops P R N v0 H0 ops l K ((d,.bool r)::fr) (Hc++F) Γ) :
    Ops P R N v0 H0 ops (⟨some d,.call ⟨.value g,k.toArray,e⟩,ty,ps,af,none⟩::l) K fr H Γ :=
  aA_ x A y m q B fun _=>hk X rfl
theorem u_ {k:Act→World→Prop} {H':Hp} (e:H.Perm H') (h:Ok N v0 H0 k fr H' Γ):Ok N v0 H0 k fr H Γ :=
  fun a v m q y A=>h a v m (q.perm e) (y.subR fun b x=>(e.map Prod.fst).mem_iff.2 x) A
theorem gO_:∀ {H:Hp} {i:Nat} {p:Nat×Obj},H[i]? = some p→H.Perm (p::H.eraseIdx i)
  | [],i,p,h=>by simp at h
  | x::H,0,p,h=>by simp at h;subst h;exact .refl _
  | x::H,i+1,p,h=>by
    have:=gO_ (H:=H) (i:=i) (p:=p) zag_;exact (List.Perm.cons x this).trans (List.Perm.swap p x _)
theorem qT_:∀ {H:Hp} {i:Nat} {p q:Nat×Obj},H[i]? = some p→(q::H.eraseIdx i).Perm (H.set i q)
  | [],i,p,q,h=>by simp at h
  | x::H,0,p,q,h=>by exact .refl _
  | x::H,i+1,p,q,h=>by
    have:=qT_ (H:=H) (i:=i) (p:=p) (q:=q) zag_;exact (List.Perm.swap x q _).trans (List.Perm.cons x this)
theorem uq_ {f:FuncId} {l:List Oper} {k:List Operand} {e:Array TypeId} {vs:List Value} (i:Nat) {b:Nat} {o o':Obj} {h:List Fct} {r:Value}
    (q:Tri P f vs.toArray [(b,o)] h (fun _:Unit=>r) (fun _=>[(b,o')]) (fun _=>[])) (x:Fr.evs fr k=some vs) (hi:H[i]? = some (b,o)) (m:∀ v,v.sat H→ag_ Γ v→ag_ h v) (y:Nat.blt d N.n=true)
    (hk:Ops P R N v0 H0 ops l K ((d,r)::fr) (H.set i (b,o')) Γ) :
    Ops P R N v0 H0 ops (⟨some d,.call ⟨.value (.func f),k.toArray,e⟩,ty,ps,af,none⟩::l) K fr H Γ :=
  i_ q x (gO_ hi) m y fun _=>u_ (qT_ hi) hk
theorem nG_ {f:FuncId} {l:List Oper} {k:List Operand} {e:Array TypeId} {vs:List Value} (i:Nat) {b:Nat} {o o':Obj} {h:List Fct} {X:Bool}
    (q:Tri P f vs.toArray [(b,o)] h (fun _:Unit=>.bool X) (fun _=>[(b,o')]) (fun _=>[])) (x:Fr.evs fr k=some vs) (hi:H[i]? = some (b,o)) (m:∀ v,v.sat H→ag_ Γ v→ag_ h v) (y:Nat.blt d N.n=true)
    (hk:∀ r:Bool,X=r→Ops P R N v0 H0 ops l K ((d,.bool r)::fr) (H.set i (b,o')) Γ) :
    Ops P R N v0 H0 ops (⟨some d,.call ⟨.value (.func f),k.toArray,e⟩,ty,ps,af,none⟩::l) K fr H Γ :=
  uq_ i q x hi m y (hk X rfl)
end any
end Go.Sx
namespace Go.Sx
open Go
structure Opn (F:Fence):Prop where
  fn:∀ f,F.fn f
  depth:F.depth=none
theorem dq_:Opn Fence.wide:=⟨fun _=>trivial,rfl⟩
theorem N_ (l:Nat):Opn (Fence.wide.inRound l):=⟨fun _=>trivial,rfl⟩
theorem qh_ {F:Fence} {n:Nat} {P:Program} {f:FuncId} {args:Array Value} {w:World} {R:Ending→World→Prop} (h:Calls P f args w R) (l:Nat):CallsIn (Fence.wide.inRound l) n P f args w R :=
  (callsIn_wide (n:=n)).2 h
structure SatD (N:Nat) (D:List Deferred) (fr:Fr) (a:Act):Prop where
  sat:Fr.sat N fr ⟨a.tmps,[]⟩
  defers:a.defers=D
theorem SatD.put {N:Nat} {D:List Deferred} {fr:Fr} {a:Act} {d:Nat} {x:Value} (h:SatD N D fr a) (e:Nat.blt d N=true):SatD N D ((d,x)::fr) (a.put (some d) x) :=
  ⟨h.sat.put e,h.defers⟩
def OkD (N:Nat) (D:List Deferred) (v0:Vw) (H0:Hp) (k:Act→World→Prop) (fr:Fr) (H:Hp) (Γ:List Fct):Prop :=
  ∀ a v,SatD N D fr a→v.sat H→v0.to H0 v H→ag_ Γ v→k a v.w
def ez_ (F:Fence) (n:Nat) (P:Program) (R:Exit→Act→World→Prop):List Kt→Exit→Act→World→Prop
  | [],e,a,w=>R e a w
  | .seq c::K,.normal,a,w=>c.wpIn F n P (ez_ F n P R K) a w
  | .seq _::K,e,a,w=>ez_ F n P R K e a w
  | .inv J::_,.normal,a,w=>J a w
  | .inv _::K,e,a,w=>ez_ F n P R K e a w
  | .blk id::K,.exit id',a,w=>if id'=id then ez_ F n P R K .normal a w else ez_ F n P R K (.exit id') a w
  | .blk _::K,e,a,w=>ez_ F n P R K e a w
section code
variable {F:Fence} {n:Nat} {P:Program} {N:Nat} {D:List Deferred} {v0:Vw} {H0:Hp} {R:Exit→Act→World→Prop} {K:List Kt} {fr:Fr} {H:Hp} {Γ:List Fct}
theorem oU_ (K:List Kt) (a:Act) (w:World) (h:R .ret a w):ez_ F n P R K .ret a w:=by
  induction K with
  | nil=>exact h
  | cons x K ih=>cases x<;>exact ih
theorem ny_ {c:Code} {e:List Kt} {a:Act} {w:World}:∀ {K:List Kt},nxt K=some (c,e)→c.wpIn F n P (ez_ F n P R e) a w→ez_ F n P R K .normal a w
  | [],h,_=>by simp[nxt]at h
  | .seq _::K,h,hp=>by simp only[nxt,Option.some.injEq,Prod.mk.injEq]at h;obtain⟨rfl,rfl⟩:=h;exact hp
  | .blk _::K,h,hp=>ny_ (K:=K) (by simpa [nxt] using h) hp
  | .inv _::K,h,_=>by simp[nxt]at h
theorem oV_ {a:Act} {w:World}:∀ {K:List Kt},gA_ K=true→R .normal a w→ez_ F n P R K .normal a w
  | [],_,hp=>hp
  | .inv _::K,h,_=>by simp[gA_]at h
  | .blk _::K,h,hp=>oV_ (K:=K) (by simpa [gA_] using h) hp
  | .seq _::K,h,_=>by simp[gA_]at h
abbrev ja_ (F:Fence) (n:Nat) (P:Program) (R:Exit→Act→World→Prop) (N:Nat) (D:List Deferred) (v0:Vw) (H0:Hp) (c:Code) (K:List Kt) (fr:Fr) (H:Hp) (Γ:List Fct):Prop :=
  OkD N D v0 H0 (c.wpIn F n P (ez_ F n P R K)) fr H Γ
abbrev sV_ (F:Fence) (n:Nat) (P:Program) (R:Exit→Act→World→Prop) (N:Nat) (D:List Deferred) (v0:Vw) (H0:Hp) (K:List Kt) (fr:Fr) (H:Hp) (Γ:List Fct):Prop :=
  OkD N D v0 H0 (ez_ F n P R K .normal) fr H Γ
abbrev gb_ (F:Fence) (n:Nat) (P:Program) (R:Exit→Act→World→Prop) (N:Nat) (D:List Deferred) (v0:Vw) (H0:Hp) (ops:Array Oper) (l:List Oper) (K:List Kt) (fr:Fr) (H:Hp) (Γ:List Fct):Prop :=
  OkD N D v0 H0 (wpListIn F n P ops (ez_ F n P R K) l) fr H Γ
theorem do_ {x y:Code} (h:ja_ F n P R N D v0 H0 x (.seq y::K) fr H Γ):ja_ F n P R N D v0 H0 (.seq x y) K fr H Γ :=
  fun a v k m q B=>wpIn_seq (wpIn_mono (h a v k m q B) fun e a w A=>by cases e<;>exact A)
theorem eN_ {k:Nat} {c:Code} (h:ja_ F n P R N D v0 H0 c (.blk k::K) fr H Γ):ja_ F n P R N D v0 H0 (.block k c) K fr H Γ :=
  fun a v m q x A=>wpIn_block (wpIn_mono (h a v m q x A) fun e a w y=>by cases e<;>exact y)
theorem oO_ (h:sV_ F n P R N D v0 H0 K fr H Γ):ja_ F n P R N D v0 H0 .skip K fr H Γ :=
  fun a v e m k q=>wpIn_skip (h a v e m k q)
theorem nr_ (h:OkD N D v0 H0 (R .ret) fr H Γ):ja_ F n P R N D v0 H0 .ret K fr H Γ :=
  fun a v e m k q=>wpIn_ret (oU_ K a v.w (h a v e m k q))
theorem cs_ {c:Code} {e:List Kt} (y:nxt K=some (c,e)) (h:ja_ F n P R N D v0 H0 c e fr H Γ):sV_ F n P R N D v0 H0 K fr H Γ :=
  fun a v k m x q=>ny_ y (h a v k m x q)
theorem dI_ (x:gA_ K=true) (h:OkD N D v0 H0 (R .normal) fr H Γ):sV_ F n P R N D v0 H0 K fr H Γ :=
  fun a v e k q m=>oV_ x (h a v e k q m)
theorem aV_ {e:Nat} {l:List Oper} (h:gb_ F n P R N D v0 H0 l.toArray l K fr H Γ):ja_ F n P R N D v0 H0 (.region e l.toArray false) K fr H Γ :=
  fun a v k m q x=>wpIn_region_lit (h a v k m q x)
theorem bF_ {ops:Array Oper} (h:sV_ F n P R N D v0 H0 K fr H Γ):gb_ F n P R N D v0 H0 ops [] K fr H Γ :=
  fun a v e k m q=>wpListIn_nil (h a v e k m q)
theorem fR_ {c:Operand} {x y:Code} (m:Fr.ev fr c=some (.bool true)) (q:ja_ F n P R N D v0 H0 x K fr H Γ):ja_ F n P R N D v0 H0 (.cond c x y) K fr H Γ :=
  fun a v e h k A=>wpIn_cond_true (e.sat.ev m) (q a v e h k A)
theorem mh_ {c:Operand} {x y:Code} (q:Fr.ev fr c=some (.bool false)) (h:ja_ F n P R N D v0 H0 y K fr H Γ):ja_ F n P R N D v0 H0 (.cond c x y) K fr H Γ :=
  fun a v e k m A=>wpIn_cond_false (e.sat.ev q) (h a v e k m A)
def nL_:Op→Bool
  | .defer _=>false
  | _=>true
theorem semAt_eq {o:Oper} (h:nL_ o.op=true) (ro:Option Nat) (ρ:Operand→Value):o.semAt ro ρ=execOp ρ o :=
  Oper.semAt_eq ro ρ o (fun c e=>by rw[e]at h;cases h)
variable {ops:Array Oper} {l:List Oper} {d:Nat} {ty:TypeId} {ps:String} {af:Array Edge}
theorem rR_ {o:Oper} {a:Act} {w:World} {B A:Act→World→Prop} {Q:Exit→Act→World→Prop} (y:∀ a w,B a w→A a w) (h:o.wpIn F n P a w B Q):o.wpIn F n P a w A Q:=by
  refine⟨h.1,?_⟩;have k:=h.2;generalize (o.semAt F.round a.eval).run P w=r at k ⊢
  cases r with
  | ok nx w' =>
    cases nx<;>simp only[Oper.uponIn]at k ⊢<;>first|exact y _ _ k|exact k|skip
    case enter f args=>exact⟨k.1,k.2.mono fun e q m=>by cases e<;>first|exact y _ _ m|exact m⟩
    case row row args=>exact⟨k.1,k.2.mono fun v q m=>y _ _ m⟩
    case round l f tmps assign body=>exact⟨k.1,k.2.mono fun e q m=>by cases e<;>first|exact y _ _ m|exact m⟩
  | halt x w'=>cases x<;>simp only[Oper.uponIn]at k ⊢<;>exact k
theorem eq_ {o:Oper} (k:o.guard=none) (h:∀ a v,SatD N D fr a→v.sat H→v0.to H0 v H→ag_ Γ v→o.wpIn F n P a v.w (wpListIn F n P ops (ez_ F n P R K) l) (ez_ F n P R K)) :
    gb_ F n P R N D v0 H0 ops (o::l) K fr H Γ :=
  fun a v m q x y=>wpListIn_plain k fun A e=>rR_ e (h a v m q x y)
theorem X_ {h:Op} {x:Value} (y:Opn F) (B:Yld P N fr H Γ h ty x) (e:nL_ h=true) (A:Nat.blt d N=true)
    (hk:gb_ F n P R N D v0 H0 ops l K ((d,x)::fr) H Γ):gb_ F n P R N D v0 H0 ops (⟨some d,h,ty,ps,af,none⟩::l) K fr H Γ :=
  eq_ rfl fun a v k m C q=>by
    refine⟨fun f _=>y.fn f,?_⟩;rw[semAt_eq e];have:=B ⟨a.tmps,[]⟩ v k.sat m q (some d) ps af;rw[show a.eval=Act.eval ⟨a.tmps,[]⟩ from rfl,this];exact hk _ v (k.put A) m C q
theorem ur_ {e:Op} {X:Bool} (k:Opn F) (q:Yld P N fr H Γ e ty (.bool X)) (h:nL_ e=true) (m:Nat.blt d N=true)
    (hk:∀ r:Bool,X=r→gb_ F n P R N D v0 H0 ops l K ((d,.bool r)::fr) H Γ):gb_ F n P R N D v0 H0 ops (⟨some d,e,ty,ps,af,none⟩::l) K fr H Γ :=
  X_ k q h m (hk X rfl)
theorem nH_ {t:TypeId} {z:Value} (k:Opn F) (x:∀ w,(zeroValue t).run P w=.ok z w) (y:Nat.blt d N=true)
    (hk:∀ b,gb_ F n P R N D v0 H0 ops l K ((d,.pointer (some ⟨b,0,none⟩))::fr) ((b,.cells z.cells t (0,0))::H) Γ):gb_ F n P R N D v0 H0 ops (⟨some d,.alloc t,ty,ps,af,none⟩::l) K fr H Γ :=
  eq_ rfl fun a v m h B C=>by
    refine⟨fun f _=>k.fn f,?_⟩;rw[semAt_eq rfl]
    have q:(execOp a.eval ⟨some d,.alloc t,ty,ps,af,none⟩).run P v.w=.ok (.value (.pointer (some ⟨v.w.heap.size,0,none⟩))) (v.w.alloc (.cells z.cells t (0,0))):=by
      simp[execOp,x,Instr.alloc,newVar,newRow,newObj];rfl
    rw[q];obtain⟨A,e⟩:=gf_ (w':=v.w.alloc (.cells z.cells t (0,0))) (o:=.cells z.cells t (0,0)) h rfl rfl rfl rfl (Nat.le_refl _);exact hk v.w.heap.size _ ⟨v.im,_,v.sl⟩ (m.put y) A (B.trans e) (az_ (e.le h) C)
theorem gy_ {t:TypeId} {x y:Operand} {b off m:Nat} (U:Opn F) (i:Nat) {cur:Array Value} {T:TypeId} {u:Value} (G:∀ w,(sizeOf t).run P w=.ok m w)
    (J:Fr.ev fr x=some (.pointer (some ⟨b,off,none⟩))) (L:Fr.ev fr y=some u) (hi:H[i]? = some (b,.cells cur T (0,0))) (B:u.cells.size=m) (O:Nat.ble (off+m) cur.size=true) (h:u.cells.toList.all Value.oneCell'=true)
    (hk:gb_ F n P R N D v0 H0 ops l K fr (H.set i (b,.cells (cur.toList.take off++u.cells.toList++cur.toList.drop (off+m)).toArray T (0,0))) Γ) :
    gb_ F n P R N D v0 H0 ops (⟨none,.store t x y,ty,ps,af,none⟩::l) K fr H Γ :=
  eq_ rfl fun a v q A Q X=>by
    refine⟨fun f _=>U.fn f,?_⟩;rw[semAt_eq rfl];have E:=(A.own _ (List.mem_of_getElem? hi)).1;have e:=run_storeCells_at P b off T u.cells.toList 0 cur v.w E (by simp[B];exact Nat.le_of_ble_eq_true O) (fun c I=>List.all_eq_true.1 h c I)
    have V:(execOp a.eval ⟨none,.store t x y,ty,ps,af,none⟩).run P v.w=.ok .skip (v.w.setRow b (cur.toList.take off++u.cells.toList++cur.toList.drop (off+m)).toArray):=by
      simp only[Nat.add_zero,Array.length_toList,B]at e;have S:a.eval x=.pointer (some ⟨b,off,none⟩):=q.sat.ev J;have W:a.eval y=u:=q.sat.ev L;simp[execOp,S,W,Instr.storeAt,Instr.sureAddr,storeVar,G,B,e]
    rw[V];obtain⟨M,C⟩:=ff_ (w':=v.w.setRow b (cur.toList.take off++u.cells.toList++cur.toList.drop (off+m)).toArray) A hi rfl rfl rfl (Nat.le_refl _) zC_ (setRow_heap _ _ _ _ _ _ E) (fun k hk=>setRow_other _ _ _ _ hk);exact hk a _ q M (Q.trans C) (az_ (C.le A) X)
theorem ut_ {r:Nat} {f:FuncId} {y:List Operand} {q:Array TypeId} {vs:List Value} {ι:Type} {Hc G:Hp} {J:List Fct} {m:ι→Value} {H':ι→Hp} {Γ':ι→List Fct}
    (B:Tri P f vs.toArray Hc J m H' Γ') (O:Fr.evs fr y=some vs) (A:H.Perm (Hc++G)) (L:∀ v,v.sat H→ag_ Γ v→ag_ J v) (Q:Nat.blt d N=true)
    (hk:∀ x,gb_ (Fence.wide.inRound r) n P R N D v0 H0 ops l K ((d,m x)::fr) (H' x++G) (Γ' x++Γ)) :
    gb_ (Fence.wide.inRound r) n P R N D v0 H0 ops (⟨some d,.call ⟨.value (.func f),y.toArray,q⟩,ty,ps,af,none⟩::l) K fr H Γ :=
  eq_ rfl fun a v C E T I=>by
    refine⟨fun f _=>trivial,?_⟩;rw[semAt_eq rfl]
    have X:(execOp a.eval ⟨some d,.call ⟨.value (.func f),y.toArray,q⟩,ty,ps,af,none⟩).run P v.w=.ok (.enter f vs.toArray) v.w:=by
      have U:y.map a.eval=vs:=C.sat.evs O;simp[execOp,resolve,Deferred.ofValue,Act.eval,invoke,U,B.callable _ v.w]
    rw[X];have k:=E.perm A;refine⟨fun h=>(by cases h),(qh_ (F:=Fence.wide) (B.run v k.sub (L v E I)) r).mono ?_⟩;rintro e w' ⟨x,M,rfl,rfl,S,V,W⟩;obtain⟨k1,k2⟩:=W.frame k S;exact hk x _ M (C.put Q) k1 (T.trans (k2.permL A.symm)) (fm_.2 ⟨V,az_ (k2.le k) I⟩)
def jw_ (P:Program) (l:Nat) (x:Value) (H:Hp) (Γ:List Fct) {ι:Type} (ret:ι→Value) (H':ι→Hp) (Γ':ι→List Fct):Prop :=
  ∀ v,v.sat H→ag_ Γ v→∃ fn tmps assign body,(Instr.yield l #[x]).run P v.w=.ok (.round l fn tmps assign body) v.w ∧
    ∀ n,RoundIn Fence.wide n P l fn tmps assign body v.w fun e w'=>∃ x v',e=.returned (ret x)∧v'.w=w'∧v'.sat (H' x)∧ag_ (Γ' x) v'∧v.to H v' (H' x)
theorem hK_ {r:Nat} {g y:Operand} {C:Array TypeId} {u:Value} {ι:Type} {Hc G:Hp} {O:List Fct} {A:ι→Value} {H':ι→Hp} {Γ':ι→List Fct}
    (hT:jw_ P r u Hc O A H' Γ') (V:Fr.ev fr g=some (.func (.yield r) #[] #[])) (U:Fr.ev fr y=some u) (J:H.Perm (Hc++G)) (Q:∀ v,v.sat H→ag_ Γ v→ag_ O v) (W:Nat.blt d N=true)
    (hk:∀ x,gb_ Fence.wide n P R N D v0 H0 ops l K ((d,A x)::fr) (H' x++G) (Γ' x++Γ)) :
    gb_ Fence.wide n P R N D v0 H0 ops (⟨some d,.call ⟨.value g,#[y],C⟩,ty,ps,af,none⟩::l) K fr H Γ :=
  eq_ rfl fun a v E L Y M=>by
    refine⟨fun f _=>trivial,?_⟩;rw[semAt_eq rfl];have m:=L.perm J;obtain⟨fn,q,k,B,I,T⟩:=hT v m.sub (Q v L M)
    have he:(execOp a.eval ⟨some d,.call ⟨.value g,#[y],C⟩,ty,ps,af,none⟩).run P v.w=.ok (.round r fn q k B) v.w:=by
      have Z:a.eval g=.func (.yield r) #[] #[]:=E.sat.ev V;have e2:a.eval y=u:=E.sat.ev U;simp[execOp,resolve,Deferred.ofValue,Z,e2,invoke,I]
    rw[he];refine⟨fun h=>(by cases h),(T _).mono ?_⟩;rintro e w' ⟨x,S,rfl,rfl,X,g2,g3⟩;obtain⟨k1,k2⟩:=g3.frame m X;exact hk x _ S (E.put W) k1 (Y.trans (k2.permL J.symm)) (fm_.2 ⟨g2,az_ (k2.le m) M⟩)
theorem ha_ {k:Act→World→Prop}:OkD N [] v0 H0 k fr H Γ↔Ok N v0 H0 k fr H Γ :=
  ⟨fun h a v e m q x=>h a v ⟨⟨e.size,rfl,e.val⟩,e.defers⟩ m q x,fun h a v e m q x=>h a v ⟨e.sat.size,e.defers,e.sat.val⟩ m q x⟩
end code
end Go.Sx
