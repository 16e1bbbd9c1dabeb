/-
  Part of the proof of the law CanonRoles over this seat: the small logic, the data, the contracts of functions (no condition).
-/
import Derived.Test.YtpbnmnfdgckaiaaGreatDoorQCanonRoles0
import Derived.WalkKit
import Derived.OrdersHeld
import Derived.Deep.LoopGhost
import Derived.RangeFuncIn
import Derived.RangeFuncLeaves
import Derived.TacticsIn
set_option linter.unusedVariables false
set_option linter.unusedSimpArgs false
set_option linter.unusedSectionVars false
set_option maxHeartbeats 1000000
namespace Go.Sx
open Go
structure Vw where
  im:Nat→Prop
  w:World
  sl:Prop
abbrev Fr:=List (Nat×Value)
abbrev Hp:=List (Nat×Obj)
def Fr.get:Fr→Nat→Option Value
  | [],_=>none
  | (t,v)::r,n=>bif Nat.beq t n then some v else Fr.get r n
structure Nf where
  n:Nat
  D:List Deferred
instance:Coe Nat Nf:=⟨fun n=>⟨n,[]⟩⟩
structure Fr.sat (N:Nf) (fr:Fr) (a:Act):Prop where
  size:a.tmps.size=N.n
  defers:a.defers=N.D
  val:∀ t v,Fr.get fr t=some v→a.tmps[t]? = some v
structure Vw.sat (v:Vw) (H:Hp):Prop where
  own:∀ p,p∈H→v.w.heap[p.1]? = some p.2∧¬ v.im p.1
  nodup:(H.map Prod.fst).Nodup
  lt:∀ b,v.im b→b<v.w.heap.size
structure Vw.to (v:Vw) (H:Hp) (v':Vw) (H':Hp):Prop where
  os:v'.w.os=v.w.os
  tape:v'.w.tape=v.w.tape
  output:v'.w.output=v.w.output
  size:v.w.heap.size≤v'.w.heap.size
  block:∀ b,b<v.w.heap.size→b ∉ H.map Prod.fst→v'.w.heap[b]? = v.w.heap[b]?
  imUp:∀ b,v.im b→v'.im b
  imNew:∀ b,v'.im b→v.im b∨b∈H.map Prod.fst∨v.w.heap.size≤b
  hNew:∀ b,b∈H'.map Prod.fst→b∈H.map Prod.fst∨v.w.heap.size≤b
  sl:v'.sl=v.sl
  dr:v.sl∨v.w.drawn≤v'.w.drawn
structure Vw.le (v v':Vw):Prop where
  imUp:∀ b,v.im b→v'.im b
  block:∀ b,v.im b→v'.w.heap[b]? = v.w.heap[b]?
  sl:v'.sl=v.sl
structure Fct where
  p:Vw→Prop
  mono:∀ v v',v.le v'→p v→p v'
def Z_:List Fct→Vw→Prop
  | [],_=>True
  | f::l,v=>f.p v∧Z_ l v
theorem eL_ {a b:List Fct} {v:Vw}:Z_ (a++b) v↔Z_ a v∧Z_ b v:=by
  induction a with
  | nil=>simp[Z_]
  | cons f l ih=>simp[Z_,ih,and_assoc]
theorem ao_ {l:List Fct} {v d:Vw} (h:v.le d):Z_ l v→Z_ l d:=by
  induction l with
  | nil=>exact fun _=>trivial
  | cons f l ih=>exact fun⟨a,b⟩=>⟨f.mono _ _ h a,ih b⟩
theorem Vw.to.le {v d:Vw} {H H':Hp} (e:v.sat H) (h:v.to H d H'):v.le d :=
  ⟨h.imUp,fun b k=>h.block b (e.lt b k) (fun hm=>by
    obtain⟨p,m,rfl⟩:=List.mem_map.1 hm;exact (e.own p m).2 k),h.sl⟩
theorem Vw.to.refl (v:Vw) (H:Hp):v.to H v H :=
  ⟨rfl,rfl,rfl,Nat.le_refl _,fun _ _ _=>rfl,fun _ h=>h,fun _ h=>.inl h,fun _ h=>.inl h,rfl,.inr (Nat.le_refl _)⟩
theorem Vw.to.trans {a b c:Vw} {q v Hc:Hp} (h:a.to q b v) (k:b.to v c Hc):a.to q c Hc where
 os:=k.os.trans h.os
 tape:=k.tape.trans h.tape
 output:=k.output.trans h.output
 size:=Nat.le_trans h.size k.size
 block:=fun x e y=>by
   rw[k.block x (Nat.lt_of_lt_of_le e h.size) (fun hm=>(h.hNew x hm).elim y (fun hl=>by omega))];exact h.block x e y
 imUp:=fun x e=>k.imUp x (h.imUp x e)
 imNew:=fun x e=>by
   rcases k.imNew x e with d|d|d
   · exact h.imNew x d
   · exact .inr (h.hNew x d)
   · exact .inr (.inr (Nat.le_trans h.size d))
 hNew:=fun x e=>by
   rcases k.hNew x e with d|d
   · exact h.hNew x d
   · exact .inr (Nat.le_trans h.size d)
 sl:=k.sl.trans h.sl
 dr:=by
   rcases h.dr with d|d
   · exact .inl d
   · rcases k.dr with m|m
     · exact .inl (by rw[← h.sl];exact m)
     · exact .inr (Nat.le_trans d m)
theorem Vw.to.frame {v I:Vw} {H H' F:Hp} (J:v.sat (H++F)) (m:I.sat H') (h:v.to H I H') :
    I.sat (H'++F)∧v.to (H++F) I (H'++F):=by
  have q:=J.nodup;rw[List.map_append,List.nodup_append]at q;have L:∀ p,p∈F→p.1 ∉ H.map Prod.fst:=fun p k hm=>q.2.2 _ hm _ (List.mem_map_of_mem k) rfl
  have A:∀ p,p∈F→p.1<v.w.heap.size:=fun p k=>by
    have:=(J.own p (List.mem_append_right _ k)).1;exact (Array.getElem?_eq_some_iff.1 this).1
  have E:∀ p,p∈F→p.1 ∉ H'.map Prod.fst:=fun p k hm=>by
    rcases h.hNew _ hm with d|d
    · exact L p k d
    · have:=A p k;omega
  refine⟨⟨fun p k=>?_,?_,m.lt⟩,?_⟩
  · rcases List.mem_append.1 k with d|d
    · exact m.own p d
    · have C:=J.own p (List.mem_append_right _ d)
      refine⟨by rw[h.block _ (A p d) (L p d)];exact C.1,fun hi=>?_⟩;rcases h.imNew _ hi with G|G|G
      · exact C.2 G
      · exact L p d G
      · have:=A p d;omega
  · rw[List.map_append,List.nodup_append]
    refine⟨m.nodup,q.2.1,fun x Q y M e=>?_⟩;subst e;obtain⟨p,k,rfl⟩:=List.mem_map.1 M;exact E p k Q
  · refine⟨h.os,h.tape,h.output,h.size,fun b B O=>h.block b B (fun hm=>O ?_),h.imUp,fun b B=>?_,fun b B=>?_,h.sl,h.dr⟩
    · rw[List.map_append];exact List.mem_append_left _ hm
    · rcases h.imNew b B with d|d|d
      · exact .inl d
      · exact .inr (.inl (by rw[List.map_append];exact List.mem_append_left _ d))
      · exact .inr (.inr d)
    · rw[List.map_append]at B ⊢
      rcases List.mem_append.1 B with d|d
      · rcases h.hNew b d with C|C
        · exact .inl (List.mem_append_left _ C)
        · exact .inr C
      · exact .inl (List.mem_append_right _ d)
theorem Vw.sat.perm {v:Vw} {H H':Hp} (h:v.sat H) (p:H.Perm H'):v.sat H' :=
  ⟨fun x d=>h.own x (p.mem_iff.2 d),(p.map _).nodup_iff.1 h.nodup,h.lt⟩
theorem Vw.sat.sub {v:Vw} {H F:Hp} (h:v.sat (H++F)):v.sat H :=
  ⟨fun x d=>h.own x (List.mem_append_left _ d),by have:=h.nodup;rw[List.map_append,List.nodup_append]at this;exact this.1,h.lt⟩
theorem Vw.to.permL {v k:Vw} {H K H':Hp} (h:v.to H k H') (p:H.Perm K):v.to K k H':=by
  have e:∀ b,b∈H.map Prod.fst↔b∈K.map Prod.fst:=fun b=>(p.map _).mem_iff
  exact⟨h.os,h.tape,h.output,h.size,fun b d m=>h.block b d (fun hm=>m ((e b).1 hm)),h.imUp,
    fun b d=>(h.imNew b d).imp id (Or.imp (e b).1 id),fun b d=>(h.hNew b d).imp (e b).1 id,h.sl,h.dr⟩
theorem Vw.to.subR {v d:Vw} {H H' K:Hp} (h:v.to H d H') (p:∀ b,b∈K.map Prod.fst→b∈H'.map Prod.fst):v.to H d K :=
  ⟨h.os,h.tape,h.output,h.size,h.block,h.imUp,h.imNew,fun b e=>h.hNew b (p b e),h.sl,h.dr⟩
def Ok (N:Nf) (v0:Vw) (H0:Hp) (k:Act→World→Prop) (fr:Fr) (H:Hp) (Γ:List Fct):Prop :=
  ∀ a v,Fr.sat N fr a→v.sat H→v0.to H0 v H→Z_ Γ v→k a v.w
inductive Kt where
  | seq (c:Code)
  | blk (id:Nat)
  | inv (J:Act→World→Prop)
def post (P:Program) (R:Exit→Act→World→Prop):List Kt→Exit→Act→World→Prop
  | [],e,a,w=>R e a w
  | .seq c::K,.normal,a,w=>c.wp P (post P R K) a w
  | .seq _::K,e,a,w=>post P R K e a w
  | .inv J::_,.normal,a,w=>J a w
  | .inv _::K,e,a,w=>post P R K e a w
  | .blk id::K,.exit id',a,w=>if id'=id then post P R K .normal a w else post P R K (.exit id') a w
  | .blk _::K,e,a,w=>post P R K e a w
theorem uW_ (P:Program) (R:Exit→Act→World→Prop) (K:List Kt) (a:Act) (w:World) (h:R .ret a w):post P R K .ret a w:=by
  induction K with
  | nil=>exact h
  | cons x K ih=>cases x<;>exact ih
def unw (id:Nat):List Kt→Option (List Kt)
  | []=>none
  | .blk i::K=>bif Nat.beq id i then some K else unw id K
  | .seq _::K=>unw id K
  | .inv _::K=>unw id K
theorem iD_ {P:Program} {R:Exit→Act→World→Prop} {d:Nat} {k:List Kt} {a:Act} {w:World} :
    ∀ {K:List Kt},unw d K=some k→post P R k .normal a w→post P R K (.exit d) a w
  | [],h,_=>by simp[unw]at h
  | .seq _::K,h,hp=>iD_ (K:=K) (by simpa [unw] using h) hp
  | .inv _::K,h,hp=>iD_ (K:=K) (by simpa [unw] using h) hp
  | .blk i::K,h,hp=>by
    simp only[unw]at h
    by_cases e:d=i
    · subst e
      simp only[Nat.beq_refl,cond_true,Option.some.injEq]at h;subst h;simp only[post,if_true];exact hp
    · have:Nat.beq d i=false:=by
        cases hb:Nat.beq d i
        · rfl
        · exact absurd (Nat.eq_of_beq_eq_true hb) e
      rw[this,cond_false]at h;simp only[post,e,if_false];exact iD_ h hp
def nxt:List Kt→Option (Code×List Kt)
  | .seq c::K=>some (c,K)
  | .blk _::K=>nxt K
  | _=>none
theorem nW_ {P:Program} {R:Exit→Act→World→Prop} {c:Code} {d:List Kt} {a:Act} {w:World} :
    ∀ {K:List Kt},nxt K=some (c,d)→c.wp P (post P R d) a w→post P R K .normal a w
  | [],h,_=>by simp[nxt]at h
  | .seq _::K,h,hp=>by simp only[nxt,Option.some.injEq,Prod.mk.injEq]at h;obtain⟨rfl,rfl⟩:=h;exact hp
  | .blk _::K,h,hp=>nW_ (K:=K) (by simpa [nxt] using h) hp
  | .inv _::K,h,_=>by simp[nxt]at h
def jo_:List Kt→Option (Act→World→Prop)
  | .inv J::_=>some J
  | .blk _::K=>jo_ K
  | _=>none
theorem qa_ {P:Program} {R:Exit→Act→World→Prop} {J:Act→World→Prop} {a:Act} {w:World} :
    ∀ {K:List Kt},jo_ K=some J→J a w→post P R K .normal a w
  | [],h,_=>by simp[jo_]at h
  | .inv _::K,h,hp=>by simp only[jo_,Option.some.injEq]at h;subst h;exact hp
  | .blk _::K,h,hp=>qa_ (K:=K) (by simpa [jo_] using h) hp
  | .seq _::K,h,_=>by simp[jo_]at h
def fY_:List Kt→Bool
  | []=>true
  | .blk _::K=>fY_ K
  | _=>false
theorem qb_ {P:Program} {R:Exit→Act→World→Prop} {a:Act} {w:World} :
    ∀ {K:List Kt},fY_ K=true→R .normal a w→post P R K .normal a w
  | [],_,hp=>hp
  | .inv _::K,h,_=>by simp[fY_]at h
  | .blk _::K,h,hp=>qb_ (K:=K) (by simpa [fY_] using h) hp
  | .seq _::K,h,_=>by simp[fY_]at h
section code
variable {P:Program} {N:Nf} {v0:Vw} {H0:Hp} {R:Exit→Act→World→Prop} {K:List Kt} {fr:Fr} {H:Hp} {Γ:List Fct}
abbrev Run (P:Program) (R:Exit→Act→World→Prop) (N:Nf) (v0:Vw) (H0:Hp) (c:Code) (K:List Kt) (fr:Fr) (H:Hp) (Γ:List Fct):Prop :=
  Ok N v0 H0 (c.wp P (post P R K)) fr H Γ
abbrev Fin (P:Program) (R:Exit→Act→World→Prop) (N:Nf) (v0:Vw) (H0:Hp) (K:List Kt) (fr:Fr) (H:Hp) (Γ:List Fct):Prop :=
  Ok N v0 H0 (post P R K .normal) fr H Γ
abbrev Ops (P:Program) (R:Exit→Act→World→Prop) (N:Nf) (v0:Vw) (H0:Hp) (ops:Array Oper) (l:List Oper) (K:List Kt) (fr:Fr) (H:Hp) (Γ:List Fct):Prop :=
  Ok N v0 H0 (wpList P ops (post P R K) l) fr H Γ
theorem be_ {x y:Code} (h:Run P R N v0 H0 x (.seq y::K) fr H Γ):Run P R N v0 H0 (.seq x y) K fr H Γ :=
  fun a v k m d A=>wp_seq (wp_mono (h a v k m d A) fun e a w q=>by cases e<;>exact q)
theorem gM_ {d:Nat} {c:Code} (h:Run P R N v0 H0 c (.blk d::K) fr H Γ):Run P R N v0 H0 (.block d c) K fr H Γ :=
  fun a v q x k m=>wp_block (wp_mono (h a v q x k m) fun e a w y=>by cases e<;>exact y)
theorem gL_ (h:Fin P R N v0 H0 K fr H Γ):Run P R N v0 H0 .skip K fr H Γ :=
  fun a v d k e m=>wp_skip (h a v d k e m)
theorem mw_ {e:Nat} {d:List Kt} (k:unw e K=some d) (h:Fin P R N v0 H0 d fr H Γ):Run P R N v0 H0 (.exit e) K fr H Γ :=
  fun a v q x m y=>wp_exit (iD_ k (h a v q x m y))
theorem iC_ (h:Ok N v0 H0 (R .ret) fr H Γ):Run P R N v0 H0 .ret K fr H Γ :=
  fun a v d k e m=>wp_ret (uW_ P R K a v.w (h a v d k e m))
theorem aX_ {c:Code} {d:List Kt} (q:nxt K=some (c,d)) (h:Run P R N v0 H0 c d fr H Γ):Fin P R N v0 H0 K fr H Γ :=
  fun a v k m e x=>nW_ q (h a v k m e x)
theorem fI_ {J:Act→World→Prop} (m:jo_ K=some J) (h:Ok N v0 H0 J fr H Γ):Fin P R N v0 H0 K fr H Γ :=
  fun a v e k d q=>qa_ m (h a v e k d q)
theorem xD_ (m:fY_ K=true) (h:Ok N v0 H0 (R .normal) fr H Γ):Fin P R N v0 H0 K fr H Γ :=
  fun a v e k d q=>qb_ m (h a v e k d q)
theorem aG_ {q:Nat} {l:List Oper} (h:Ops P R N v0 H0 l.toArray l K fr H Γ):Run P R N v0 H0 (.region q l.toArray false) K fr H Γ :=
  fun a v e k d m=>wp_region_lit (h a v e k d m)
theorem bq_ {d:Array Oper} (h:Fin P R N v0 H0 K fr H Γ):Ops P R N v0 H0 d [] K fr H Γ :=
  fun a v k m e q=>wpList_nil (h a v k m e q)
def Fr.ev (fr:Fr):Operand→Option Value
  | .tmp t=>Fr.get fr t
  | .const v=>some v
  | .global g=>some (.pointer (some ⟨g,0,none⟩))
  | .func f=>some (.func (.func f) #[] #[])
theorem Fr.sat.ev {a:Act} {x:Operand} {v:Value} (h:Fr.sat N fr a) (d:Fr.ev fr x=some v):a.eval x=v:=by
  cases x with
  | tmp t=>have:=h.val t v d;simp[Act.eval,this]
  | const c=>simpa [Fr.ev,Act.eval] using d
  | global g=>simpa [Fr.ev,Act.eval] using d
  | func f=>simpa [Fr.ev,Act.eval] using d
theorem Fr.sat.put {a:Act} {d:Nat} {x:Value} (h:Fr.sat N fr a) (y:Nat.blt d N.n=true):Fr.sat N ((d,x)::fr) (a.put (some d) x):=by
 have m:d<N.n:=by simpa [Nat.blt_eq] using y
 refine⟨by simp[Act.put,h.size],h.defers,fun t v k=>?_⟩;simp only[Fr.get]at k
 by_cases e:d=t
 ·subst e
  simp only[Nat.beq_refl,cond_true,Option.some.injEq]at k;subst k;simp[Act.put,Array.getElem?_setIfInBounds,h.size,m]
 have q:Nat.beq d t=false:=by
   cases q:Nat.beq d t
   · rfl
   · exact absurd (Nat.eq_of_beq_eq_true q) e
 rw[q,cond_false]at k;simp only[Act.put];rw[Array.getElem?_setIfInBounds_ne e];exact h.val t v k
theorem xi_ {k:Act→World→Prop} (d:Fr) (y:∀ t v,Fr.get d t=some v→Fr.get fr t=some v) (h:Ok N v0 H0 k d H Γ):Ok N v0 H0 k fr H Γ :=
  fun a v e A q B=>h a v ⟨e.size,e.defers,fun t x m=>e.val t x (y t x m)⟩ A q B
def Fr.le:Fr→Fr→Prop
  | [],_=>True
  | (t,v)::r,fr=>Fr.get fr t=some v∧Fr.le r fr
theorem Fr.le_get {k fr:Fr} (h:Fr.le k fr):∀ t v,Fr.get k t=some v→Fr.get fr t=some v:=by
 induction k with
 | nil=>intro t v d;simp[Fr.get]at d
 | cons p r ih =>
   obtain⟨s,u⟩:=p;intro t v d;simp only[Fr.get]at d
   by_cases e:s=t
   · subst e
     simp only[Nat.beq_refl,cond_true,Option.some.injEq]at d;subst d;exact h.1
   · have m:Nat.beq s t=false:=by
       cases m:Nat.beq s t
       · rfl
       · exact absurd (Nat.eq_of_beq_eq_true m) e
     rw[m,cond_false]at d;exact ih h.2 t v d
theorem bt_ {k:Act→World→Prop} (d:Fr) (e:Fr.le d fr) (h:Ok N v0 H0 k d H Γ):Ok N v0 H0 k fr H Γ :=
  xi_ d (Fr.le_get e) h
theorem dG_ {k:Act→World→Prop} {H' F:Hp} {Γ':List Fct} (d:H.Perm (H'++F)) (A:∀ v,v.sat H→Z_ Γ v→Z_ Γ' v) (h:Ok N v0 H0 k fr H' Γ'):Ok N v0 H0 k fr H Γ :=
  fun a v x e m y=>h a v x (e.perm d).sub (m.subR fun b q=>by
    have:b∈(H'++F).map Prod.fst:=by rw[List.map_append];exact List.mem_append_left _ q
    exact (d.map Prod.fst).mem_iff.2 this) (A v e y)
theorem mP_ {k:Act→World→Prop} {Γ':List Fct} (x:∀ v,v.sat H→Z_ Γ v→Z_ Γ' v) (h:Ok N v0 H0 k fr H Γ'):Ok N v0 H0 k fr H Γ :=
  fun a v m d e q=>h a v m d e (x v d q)
theorem vd_ {k:Act→World→Prop} {p:Prop} (q:∀ v,v.sat H→Z_ Γ v→p) (h:p→Ok N v0 H0 k fr H Γ):Ok N v0 H0 k fr H Γ :=
  fun a v x d m e=>h (q v d e) a v x d m e
theorem pR_ {c:Operand} {x y:Code} {t:Bool} (B:Fr.ev fr c=some (.bool t)) (q:t=true→Run P R N v0 H0 x K fr H Γ) (A:t=false→Run P R N v0 H0 y K fr H Γ) :
    Run P R N v0 H0 (.cond c x y) K fr H Γ :=
  fun a v d k h m=>wp_cond_split (d.ev B) (fun e=>q e a v d k h m) (fun e=>A e a v d k h m)
theorem bX_ {c:Operand} {x y:Code} (h:Fr.ev fr c=some (.bool true)) (d:Run P R N v0 H0 x K fr H Γ):Run P R N v0 H0 (.cond c x y) K fr H Γ :=
  pR_ h (fun _=>d) (fun e=>by cases e)
theorem eZ_ {c:Operand} {x y:Code} (h:Fr.ev fr c=some (.bool false)) (d:Run P R N v0 H0 y K fr H Γ):Run P R N v0 H0 (.cond c x y) K fr H Γ :=
  pR_ h (fun e=>by cases e) (fun _=>d)
def wt_ {ι:Type} (N:Nf) (v0:Vw) (H0:Hp) (frs:ι→Fr) (Hs:ι→Hp) (Γs:ι→List Fct) (μ:ι→Nat) (n:Nat) (a:Act) (w:World):Prop :=
  ∃ j v,v.w=w∧Fr.sat N (frs j) a∧v.sat (Hs j)∧v0.to H0 v (Hs j)∧Z_ (Γs j) v∧μ j<n
theorem bQ_ {ι:Type} {c:Code} (d:ι→Fr) (Hs:ι→Hp) (q:ι→List Fct) (μ:ι→Nat) (m:ι)
    (h:∀ i,Run P R N v0 H0 c (.inv (wt_ N v0 H0 d Hs q μ (μ i))::K) (d i) (Hs i) (q i)) :
    Run P R N v0 H0 (.loop c) K (d m) (Hs m) (q m):=by
  intro a v M G F J;refine wp_loop_ghost (fun n a w=>∃ i v,v.w=w∧Fr.sat N (d i) a∧v.sat (Hs i)∧v0.to H0 v (Hs i)∧Z_ (q i) v∧μ i=n) (μ m) ⟨m,v,rfl,M,G,F,J,rfl⟩ ?_;rintro n a w ⟨i,v,rfl,L,B,O,C,rfl⟩;refine wp_mono (h i a v L B O C) fun e Q w' k=>?_;cases e with
  | normal =>
    obtain⟨j,y,A,k1,k2,I,E,x⟩:=k;exact⟨μ j,x,j,y,A,k1,k2,I,E,rfl⟩
  | exit id=>exact k
  | goto l=>exact k
  | ret=>exact k
  | panic ch=>exact k
  | outgrown=>exact k
theorem L_ {ι:Type} {c:Code} (d:ι→Fr) (Hs:ι→Hp) (k:ι→List Fct) (μ:ι→Nat) (h:ι) {F:Hp} (m:Fr.le (d h) fr) (q:H.Perm (Hs h++F)) (x:∀ v,v.sat H→Z_ Γ v→Z_ (k h) v)
    (e:∀ i,Run P R N v0 H0 c (.inv (wt_ N v0 H0 d Hs k μ (μ i))::K) (d i) (Hs i) (k i)):Run P R N v0 H0 (.loop c) K fr H Γ :=
  bt_ _ m (dG_ q x (bQ_ d Hs k μ h e))
theorem x_ {ι:Type} {d:ι→Fr} {Hs:ι→Hp} {h:ι→List Fct} {μ:ι→Nat} {n:Nat} (j:ι) {F:Hp} (k:μ j<n) (e:Fr.le (d j) fr) (m:H.Perm (Hs j++F))
    (B:∀ v,v.sat H→Z_ Γ v→Z_ (h j) v):Ok N v0 H0 (wt_ N v0 H0 d Hs h μ n) fr H Γ :=
  bt_ (d j) e (dG_ m B fun _ v x y q A=>⟨j,v,rfl,x,y,q,A,k⟩)
end code
end Go.Sx
namespace Go.Sx
open Go
section ops
variable {P:Program} {N:Nf} {v0:Vw} {H0:Hp} {R:Exit→Act→World→Prop} {K:List Kt} {fr:Fr} {H:Hp} {Γ:List Fct}
variable {ops:Array Oper} {l:List Oper} {d:Nat} {ty:TypeId} {ps:String} {af:Array Edge}
theorem cn_ {o:Oper} (x:o.guard=none) (h:∀ a v,Fr.sat N fr a→v.sat H→v0.to H0 v H→Z_ Γ v→o.wp P a v.w (wpList P ops (post P R K) l) (post P R K)) :
    Ops P R N v0 H0 ops (o::l) K fr H Γ :=
  fun a v k m e q=>wpList_plain x fun A y=>Oper.wp_mono y (h a v k m e q)
def Yld (P:Program) (N:Nf) (fr:Fr) (H:Hp) (Γ:List Fct) (op:Op) (ty:TypeId) (x:Value):Prop :=
  ∀ a v,Fr.sat N fr a→v.sat H→Z_ Γ v→∀ d ps af,(execOp a.eval ⟨d,op,ty,ps,af,none⟩).run P v.w=.ok (.value x) v.w
theorem e_ {e:Op} {x:Value} (A:Yld P N fr H Γ e ty x) (y:Nat.blt d N.n=true)
    (hk:Ops P R N v0 H0 ops l K ((d,x)::fr) H Γ):Ops P R N v0 H0 ops (⟨some d,e,ty,ps,af,none⟩::l) K fr H Γ :=
  cn_ rfl fun a v h k q m=>by
    unfold Oper.wp;rw[A a v h k m (some d) ps af];exact hk _ v (h.put y) k q m
theorem B_ {e:Op} {X:Bool} (h:Yld P N fr H Γ e ty (.bool X)) (k:Nat.blt d N.n=true)
    (hk:∀ r:Bool,X=r→Ops P R N v0 H0 ops l K ((d,.bool r)::fr) H Γ):Ops P R N v0 H0 ops (⟨some d,e,ty,ps,af,none⟩::l) K fr H Γ :=
  e_ h k (hk X rfl)
def ip_ (ops:Array Oper) (j:Nat):Option Nat:=(ops[j]?).bind (·.dst)
theorem hf_ {a:Act} {j t:Nat} {x:Value} (h:Fr.sat N fr a) (m:ip_ ops j=some t) (k:Fr.get fr t=some x) :
    yielded ops a.tmps j=match x with|.bool b=>some b|_=>none:=by
  have e:((ops[j]?).bind (·.dst)).bind (a.tmps[·]?)=some x:=by
    show (ip_ ops j).bind _=_
    rw[m];exact h.val t x k
  unfold yielded;rw[e];cases x<;>rfl
theorem aR_ {m:Op} {k:Option Nat} {j t:Nat} {e:Bool} (B:ip_ ops j=some t) (y:Fr.get fr t=some (.bool e))
    (h:Ops P R N v0 H0 ops (⟨k,m,ty,ps,af,none⟩::l) K fr H Γ):Ops P R N v0 H0 ops (⟨k,m,ty,ps,af,some (j,e)⟩::l) K fr H Γ :=
  fun a v x E A F=>by
    have C:Region.wanted (⟨k,m,ty,ps,af,some (j,e)⟩:Oper) (yielded ops a.tmps)=true:=by
      simp[Region.wanted,hf_ x B y]
    have q:Region.wanted (⟨k,m,ty,ps,af,none⟩:Oper) (yielded ops a.tmps)=true:=rfl;have:=h a v x E A F;unfold wpList at this ⊢;rw[if_pos q]at this;rw[if_pos C];exact this
theorem ops_no {k:Op} {j t:Nat} {e:Bool} {x:Value} (B:ip_ ops j=some t) (q:Fr.get fr t=some x) (y:(match x with|.bool b=>Bool.xor b e|_=>true)=true) (C:Nat.blt d N.n=true)
    (h:Ops P R N v0 H0 ops l K ((d,undef)::fr) H Γ):Ops P R N v0 H0 ops (⟨some d,k,ty,ps,af,some (j,e)⟩::l) K fr H Γ :=
  fun a v m F A G=>by
    have E:Region.wanted (⟨some d,k,ty,ps,af,some (j,e)⟩:Oper) (yielded ops a.tmps)=false:=by
      simp only[Region.wanted,hf_ m B q];cases x<;>first|rfl|(rename_i b;cases b<;>cases e<;>simp_all)
    exact wpList_skip E (h _ v (m.put C) F A G)
theorem al_ {x:Operand} {u:Value} (e:Fr.ev fr x=some u) :
    Yld P N fr H Γ (.move x) ty (u) :=
  fun a v h _ _ _ _ _=>by rw[← h.ev e];rfl
theorem ay_ {x:Operand} {u:Value} (e:Fr.ev fr x=some u) :
    Yld P N fr H Γ (.assign x) ty (u) :=
  fun a v h _ _ _ _ _=>by rw[← h.ev e];rfl
theorem cf_ {c x y:Operand} {u:Value} (k:Fr.ev fr c=some (.bool true)) (h:Fr.ev fr x=some u) :
    Yld P N fr H Γ (.pick c x y) ty (u) :=
  fun a v e _ _ _ _ _=>by simp[execOp,e.ev k,e.ev h,asBool]
theorem mc_ {c x y:Operand} {u:Value} (k:Fr.ev fr c=some (.bool false)) (h:Fr.ev fr y=some u) :
    Yld P N fr H Γ (.pick c x y) ty (u) :=
  fun a v e _ _ _ _ _=>by simp[execOp,e.ev k,e.ev h,asBool]
theorem bJ_ {t A:TypeId} {x y:Operand} {k:IntKind} {m n:Int} (h:Fr.ev fr x=some (.int k m)) (q:Fr.ev fr y=some (.int k n)) :
    Yld P N fr H Γ (.binOp .eql t x y A) ty (.bool ((m==n))) :=
  fun a v e _ _ _ _ _=>by simp[execOp,e.ev h,e.ev q,eqGuard,binOp,Op.intCmp]
theorem bU_ {t A:TypeId} {x y:Operand} {k:IntKind} {m n:Int} (h:Fr.ev fr x=some (.int k m)) (q:Fr.ev fr y=some (.int k n)) :
    Yld P N fr H Γ (.binOp .neq t x y A) ty (.bool ((m != n))) :=
  fun a v e _ _ _ _ _=>by simp[execOp,e.ev h,e.ev q,eqGuard,binOp,Op.intCmp]
theorem cY_ {t A:TypeId} {x y:Operand} {k:IntKind} {m n:Int} (h:Fr.ev fr x=some (.int k m)) (q:Fr.ev fr y=some (.int k n)) :
    Yld P N fr H Γ (.binOp .lss t x y A) ty (.bool (decide (m<n))) :=
  fun a v e _ _ _ _ _=>by simp[execOp,e.ev h,e.ev q,eqGuard,binOp,Op.intCmp]
theorem de_ {t A:TypeId} {x y:Operand} {k:IntKind} {m n:Int} (h:Fr.ev fr x=some (.int k m)) (q:Fr.ev fr y=some (.int k n)) :
    Yld P N fr H Γ (.binOp .leq t x y A) ty (.bool (decide (m≤n))) :=
  fun a v e _ _ _ _ _=>by simp[execOp,e.ev h,e.ev q,eqGuard,binOp,Op.intCmp]
theorem dw_ {t A:TypeId} {x y:Operand} {k:IntKind} {m n:Int} (h:Fr.ev fr x=some (.int k m)) (q:Fr.ev fr y=some (.int k n)) :
    Yld P N fr H Γ (.binOp .gtr t x y A) ty (.bool (decide (n<m))) :=
  fun a v e _ _ _ _ _=>by simp[execOp,e.ev h,e.ev q,eqGuard,binOp,Op.intCmp]
theorem eB_ {t A:TypeId} {x y:Operand} {k:IntKind} {m n:Int} (h:Fr.ev fr x=some (.int k m)) (q:Fr.ev fr y=some (.int k n)) :
    Yld P N fr H Γ (.binOp .geq t x y A) ty (.bool (decide (n≤m))) :=
  fun a v e _ _ _ _ _=>by simp[execOp,e.ev h,e.ev q,eqGuard,binOp,Op.intCmp]
def vH_:BinOp→Int→Int→Option Int
  | .add,a,b=>some (a+b)
  | .sub,a,b=>some (a - b)
  | .mul,a,b=>some (a*b)
  | _,_,_=>none
theorem bc_ {e:BinOp} {t E:TypeId} {x y:Operand} {k:IntKind} {m n r:Int} (A:Fr.ev fr x=some (.int k m)) (B:Fr.ev fr y=some (.int k n)) (h:vH_ e m n=some r) (C:k.wrap r=r) :
    Yld P N fr H Γ (.binOp e t x y E) ty (.int k r) :=
  fun a v q _ _ _ _ _=>by
    cases e<;>simp only[vH_,Option.some.injEq,reduceCtorEq]at h<;>subst h <;>
      simp[execOp,q.ev A,q.ev B,eqGuard,binOp,Op.intArith,C]
theorem ck_ {r:Int} (e:-9223372036854775808≤r) (h:r≤9223372036854775807):IntKind.wrap .i64 r=r:=by
  exact IntWalk.i64_in r ⟨e,h⟩
theorem ax_ {x:Operand} {t:TypeId} {b:Bool} (e:Fr.ev fr x=some (.bool b)) :
    Yld P N fr H Γ (.unOp .not t x) ty (.bool !b) :=
  fun a v h _ _ _ _ _=>by simp[execOp,h.ev e,Op.unary]
def lg:List Value→Nat→Option Value
  | [],_=>none
  | x::_,0=>some x
  | _::r,n+1=>lg r n
theorem lg_eq:∀ (c:List Value) (i:Nat),lg c i=c[i]?
  | [],i=>by simp[lg]
  | x::r,0=>rfl
  | x::r,n+1=>by simpa [lg] using lg_eq r n
def oQ_:List Value→Nat→Nat→Option (List Value)
  | _,_,0=>some []
  | c,off,n+1=>match lg c off with
    | some x=>match oQ_ c (off+1) n with
      | some r=>some (x::r)
      | none=>none
    | none=>none
theorem oj_:∀ (n off:Nat) (c r:List Value),oQ_ c off n=some r→r.length=n∧∀ j v,r[j]? = some v→c[off+j]? = some v
 | 0,off,c,r,h=>by simp only[oQ_,Option.some.injEq]at h;subst h;exact⟨rfl,by simp⟩
 | n+1,off,c,r,h=>by
   simp only[oQ_]at h
   split at h
   · rename_i x k
     split at h
     · rename_i q A
       simp only[Option.some.injEq]at h;subst h;obtain⟨m,y⟩:=oj_ n (off+1) c q A;refine⟨by simp[m],fun j v e=>?_⟩;cases j with
       | zero=>simp only[List.getElem?_cons_zero,Option.some.injEq]at e;subst e;rw[← lg_eq];exact k
       | succ j=>rw[show off+(j+1)=off+1+j by omega];exact y j v zaf_
     · cases h
   · cases h
theorem cm_ (b off n:Nat):(⟨b,off,none⟩:Addr).add n=⟨b,off+n,none⟩:=by unfold Addr.add;split<;>simp_all
theorem cD_ {t:TypeId} {w:World} {ad:Addr} {x:Value} (e:∀ w,(isAgg t).run P w=.ok false w) (h:w.cell? ad=some x):(loadVar t ad).run P w=.ok x w:=by
  simp[loadVar,e,h]
theorem dI_ {t:TypeId} {w:World} {b off n:Nat} {cs:List Value} (k:∀ w,(isAgg t).run P w=.ok true w) (m:∀ w,(sizeOf t).run P w=.ok n w) (q:cs.length=n)
    (h:∀ j v,cs[j]? = some v→w.cell? ⟨b,off+j,none⟩=some v):(loadVar t ⟨b,off,none⟩).run P w=.ok (.agg cs.toArray) w:=by
  have:=run_loadCells_list (P:=P) w ⟨b,off,none⟩ cs (fun j v e=>by rw[cm_];exact h j v e);rw[q]at this;simp[loadVar,k,m,this]
theorem fV_ {v:Vw} {i b:Nat} {cur:Array Value} {T:TypeId} {fz:Nat×Nat} (h:v.sat H) (hi:H[i]? = some (b,.cells cur T fz)) (j:Nat):v.w.cell? ⟨b,j,none⟩=cur.toList[j]? := by
  have:=(h.own _ (List.mem_of_getElem? hi)).1;simp[World.cell?,this]
theorem aE_ {t:TypeId} {x:Operand} {b off:Nat} (i:Nat) {cur:Array Value} {T:TypeId} {fz:Nat×Nat} {u:Value} (k:∀ w,(isAgg t).run P w=.ok false w)
    (e:Fr.ev fr x=some (.pointer (some ⟨b,off,none⟩))) (hi:H[i]? = some (b,.cells cur T fz)) (h:lg cur.toList off=some u) :
    Yld P N fr H Γ (.load t x) ty (u) :=
  fun a v m q _ _ _ _=>by
    have:=cD_ (P:=P) (w:=v.w) k (show v.w.cell? ⟨b,off,none⟩=some u by rw[fV_ q hi,← lg_eq];exact h);simp[execOp,m.ev e,Instr.loadAt,Instr.sureAddr,this]
theorem bD_ {t:TypeId} {x:Operand} {b off n:Nat} (i:Nat) {cur:Array Value} {T:TypeId} {fz:Nat×Nat} {us:List Value} (k:∀ w,(isAgg t).run P w=.ok true w) (q:∀ w,(sizeOf t).run P w=.ok n w)
    (B:Fr.ev fr x=some (.pointer (some ⟨b,off,none⟩))) (hi:H[i]? = some (b,.cells cur T fz)) (e:oQ_ cur.toList off n=some us) :
    Yld P N fr H Γ (.load t x) ty (.agg us.toArray) :=
  fun a v C A _ _ _ _=>by
    obtain⟨m,E⟩:=oj_ n off _ _ e;have:=dI_ (P:=P) (w:=v.w) (b:=b) (off:=off) k q m (fun j y h=>by rw[fV_ A hi];exact E j y h);simp[execOp,C.ev B,Instr.loadAt,Instr.sureAddr,this]
theorem gE_ {t:TypeId} {x:Operand} {ad:Addr} {u:Value} (e:Fr.ev fr x=some (.pointer (some ad))) (h:∀ v,v.sat H→Z_ Γ v→(loadVar t ad).run P v.w=.ok u v.w) :
    Yld P N fr H Γ (.load t x) ty (u) :=
  fun a v k m q _ _ _=>by simp[execOp,k.ev e,Instr.loadAt,Instr.sureAddr,h v m q]
theorem fE_ {v:Vw} {w':World} {o:Obj} (h:v.sat H) (y:w'.heap=v.w.heap.push o) (C:w'.os=v.w.os) (G:w'.tape=v.w.tape) (E:w'.output=v.w.output) (F:v.w.drawn≤w'.drawn) :
    (⟨v.im,w',v.sl⟩:Vw).sat ((v.w.heap.size,o)::H)∧v.to H ⟨v.im,w',v.sl⟩ ((v.w.heap.size,o)::H):=by
  have B:∀ k,k<v.w.heap.size→w'.heap[k]? = v.w.heap[k]? := fun k hk=>by rw[y,Array.getElem?_push,if_neg za_]
  have x:∀ p,p∈H→p.1<v.w.heap.size:=fun p m=>(Array.getElem?_eq_some_iff.1 (h.own p m).1).1
  refine⟨⟨fun p m=>?_,?_,fun b q=>?_⟩,C,G,E,by simp[y],fun b A _=>B b A,fun _ h=>h,fun _ h=>.inl h,fun b q=>?_,rfl,.inr F⟩
  · rcases List.mem_cons.1 m with rfl|m
    · refine⟨by show w'.heap[v.w.heap.size]? = some o;rw[y];simp,fun hi=>?_⟩
      have:=h.lt _ hi;simp at this
    · exact⟨by show w'.heap[p.1]? = _;rw[B _ (x p m)];exact (h.own p m).1,(h.own p m).2⟩
  · rw[List.map_cons,List.nodup_cons]
    refine⟨fun hm=>?_,h.nodup⟩;obtain⟨p,m,e⟩:=List.mem_map.1 hm;have:=x p m;simp at e;omega
  · have:=h.lt b q
    show b<w'.heap.size
    simp[y];omega
  · rw[List.map_cons]at q
    rcases List.mem_cons.1 q with rfl|A
    · exact .inr (Nat.le_refl _)
    · exact .inl A
theorem mJ_ {h:Op} {β:Type} {x:β→Nat→Value} {o:β→Obj} (q:β→Prop) (E:Nat.blt d N.n=true)
    (O:∀ a v,Fr.sat N fr a→v.sat H→Z_ Γ v→∃ y w',q y∧(execOp a.eval ⟨some d,h,ty,ps,af,none⟩).run P v.w=.ok (.value (x y v.w.heap.size)) w'∧w'.heap=v.w.heap.push (o y)∧w'.os=v.w.os∧w'.tape=v.w.tape∧w'.output=v.w.output∧v.w.drawn≤w'.drawn)
    (hk:∀ y b,q y→Ops P R N v0 H0 ops l K ((d,x y b)::fr) ((b,o y)::H) Γ):Ops P R N v0 H0 ops (⟨some d,h,ty,ps,af,none⟩::l) K fr H Γ :=
  cn_ rfl fun a v A e C k=>by
    obtain⟨y,w',I,B,M,F,Q,G,J⟩:=O a v A e k;unfold Oper.wp;rw[B];obtain⟨L,m⟩:=fE_ e M F Q G J;exact hk y v.w.heap.size I _ ⟨v.im,w',v.sl⟩ (A.put E) L (C.trans m) (ao_ (m.le e) k)
theorem gp_ {e:Op} {x:Nat→Value} {o:Obj} (h:Nat.blt d N.n=true)
    (k:∀ a v,Fr.sat N fr a→v.sat H→Z_ Γ v→(execOp a.eval ⟨some d,e,ty,ps,af,none⟩).run P v.w=.ok (.value (x v.w.heap.size)) (v.w.alloc o))
    (hk:∀ b,Ops P R N v0 H0 ops l K ((d,x b)::fr) ((b,o)::H) Γ):Ops P R N v0 H0 ops (⟨some d,e,ty,ps,af,none⟩::l) K fr H Γ :=
  mJ_ (β:=Unit) (x:=fun _ b=>x b) (o:=fun _=>o) (fun _=>True) h (fun a v m q y=>⟨(),v.w.alloc o,trivial,k a v m q y,rfl,rfl,rfl,rfl,Nat.le_refl _⟩) (fun _ b _=>hk b)
theorem aa_ {t:TypeId} {x:Operand} {u:Value} (e:Fr.ev fr x=some u) (h:Nat.blt d N.n=true)
    (hk:∀ b,Ops P R N v0 H0 ops l K ((d,.pointer (some ⟨b,0,none⟩))::fr) ((b,.cells u.cells t (0,0))::H) Γ):Ops P R N v0 H0 ops (⟨some d,.box t x,ty,ps,af,none⟩::l) K fr H Γ :=
  gp_ (x:=fun b=>.pointer (some ⟨b,0,none⟩)) h (fun a v k _ _=>by simp[execOp,k.ev e,Instr.box,newVar,newRow,newObj];rfl) hk
theorem G_ {t:TypeId} {z:Value} (e:∀ w,(zeroValue t).run P w=.ok z w) (h:Nat.blt d N.n=true)
    (hk:∀ b,Ops P R N v0 H0 ops l K ((d,.pointer (some ⟨b,0,none⟩))::fr) ((b,.cells z.cells t (0,0))::H) Γ):Ops P R N v0 H0 ops (⟨some d,.alloc t,ty,ps,af,none⟩::l) K fr H Γ :=
  gp_ (x:=fun b=>.pointer (some ⟨b,0,none⟩)) h (fun a v k _ _=>by simp[execOp,e,Instr.alloc,newVar,newRow,newObj];rfl) hk
theorem eF_ {v:Vw} {i b:Nat} {o o':Obj} {w':World} (h:v.sat H) (hi:H[i]? = some (b,o)) (I:w'.os=v.w.os) (Q:w'.tape=v.w.tape) (J:w'.output=v.w.output) (M:v.w.drawn≤w'.drawn) (F:w'.heap.size=v.w.heap.size)
    (U:w'.heap[b]? = some o') (G:∀ k,k≠b→w'.heap[k]? = v.w.heap[k]?):(⟨v.im,w',v.sl⟩:Vw).sat (H.set i (b,o'))∧v.to H ⟨v.im,w',v.sl⟩ (H.set i (b,o')):=by
  have hm:=List.mem_of_getElem? hi
  have q:(H.set i (b,o')).map Prod.fst=H.map Prod.fst:=by
    rw[List.map_set]
    apply List.ext_getElem?
    intro j;rw[List.getElem?_set]
    split
    · rename_i m;subst m;rw[List.getElem?_map,hi];simp[(List.getElem?_eq_some_iff.1 hi).1]
    · rfl
  refine⟨⟨fun p S=>?_,by rw[q];exact h.nodup,fun x B=>?_⟩,I,Q,J,by simp[F],fun x _ L=>G x (fun e=>L ?_),fun _ h=>h,fun _ h=>.inl h,fun x B=>.inl (by rw[q]at B;exact B),rfl,.inr M⟩
  · obtain⟨j,m⟩:=List.getElem?_of_mem S
    rw[List.getElem?_set]at m
    split at m
    · rename_i y
      subst y
      split at m
      · simp only[Option.some.injEq]at m;subst m
        exact⟨U,(h.own _ hm).2⟩
      · cases m
    · rename_i y
      have A:=List.mem_of_getElem? m
      have C:p.1≠b:=fun e=>by
        have E:=h.nodup;have T:(H.map Prod.fst)[i]? = some b:=by simp[hi]
        have O:(H.map Prod.fst)[j]? = some b:=by simp[m,e]
        obtain⟨Y,V⟩:=List.getElem?_eq_some_iff.1 T;obtain⟨X,W⟩:=List.getElem?_eq_some_iff.1 O;exact y ((List.getElem_inj E).1 (V.trans W.symm))
      exact⟨by show w'.heap[p.1]? = _;rw[G _ C];exact (h.own p A).1,(h.own p A).2⟩
  · show x<w'.heap.size
    rw[F];exact h.lt x B
  · subst e;exact List.mem_map.2 ⟨_,hm,rfl⟩
theorem u_ {t:TypeId} {x y:Operand} {b off n:Nat} (i:Nat) {cur:Array Value} {T:TypeId} {u:Value} (G:∀ w,(sizeOf t).run P w=.ok n w)
    (M:Fr.ev fr x=some (.pointer (some ⟨b,off,none⟩))) (E:Fr.ev fr y=some u) (hi:H[i]? = some (b,.cells cur T (0,0))) (m:u.cells.size=n) (I:Nat.ble (off+n) cur.size=true) (q:u.cells.toList.all Value.oneCell'=true)
    (hk:Ops P R N v0 H0 ops l K fr (H.set i (b,.cells (cur.toList.take off++u.cells.toList++cur.toList.drop (off+n)).toArray T (0,0))) Γ) :
    Ops P R N v0 H0 ops (⟨none,.store t x y,ty,ps,af,none⟩::l) K fr H Γ :=
  cn_ rfl fun a v A h F J=>by
    have B:=(h.own _ (List.mem_of_getElem? hi)).1;have e:=run_storeCells_at P b off T u.cells.toList 0 cur v.w B (by simp[m];exact Nat.le_of_ble_eq_true I) (fun c O=>List.all_eq_true.1 q c O)
    have Q:(execOp a.eval ⟨none,.store t x y,ty,ps,af,none⟩).run P v.w=.ok .skip (v.w.setRow b (cur.toList.take off++u.cells.toList++cur.toList.drop (off+n)).toArray):=by
      simp only[Nat.add_zero,Array.length_toList,m]at e;simp[execOp,A.ev M,A.ev E,Instr.storeAt,Instr.sureAddr,storeVar,G,m,e]
    unfold Oper.wp;rw[Q];obtain⟨L,C⟩:=eF_ (w':=v.w.setRow b (cur.toList.take off++u.cells.toList++cur.toList.drop (off+n)).toArray) h hi rfl rfl rfl (Nat.le_refl _) zj_ (setRow_heap _ _ _ _ _ _ B) (fun k hk=>setRow_other _ _ _ _ hk);exact hk a _ A L (F.trans C) (ao_ (C.le h) J)
theorem bR_ {s:TypeId} {x:Operand} {f b off o:Nat} {fs:Array Field} {e:Field} {n:Nat} (h:∀ w,(underlying s).run P w=.ok (.struct fs) w) (q:Fr.ev fr x=some (.pointer (some ⟨b,off,none⟩))) (k:fs[f]? = some e) (y:e.offset=o)
    (m:∀ w,(sizeOf e.type).run P w=.ok (n+1) w) :
    Yld P N fr H Γ (.fieldAddr s x f) ty (.pointer (some ⟨b,off+o,none⟩)) :=
  fun a v A B _ _ _ _=>by simp[execOp,A.ev q,Instr.fieldAt,h,k,Instr.sureAddr,fieldPlace,m,cm_,y]
theorem eU_ {t e:TypeId} {x y:Operand} {b off len cap n:Nat} {k:IntKind} {i:Int} (q:∀ w,(underlying t).run P w=.ok (.slice e) w) (A:∀ w,(sizeOf e).run P w=.ok n w)
    (B:Fr.ev fr x=some (.slice (some ⟨b,off,none⟩) len cap)) (m:Fr.ev fr y=some (.int k i)) (C:0≤i) (hl:i<len) :
    Yld P N fr H Γ (.indexAddr t x y) ty (.pointer (some ⟨b,off+i.toNat*n,none⟩)) :=
  fun a v h E _ _ _ _=>by simp[execOp,h.ev B,h.ev m,Instr.indexAt,q,asIntOf,A,cm_,C,hl]
theorem dV_ {t e:TypeId} {x y:Operand} {b off len n:Nat} {k:IntKind} {i:Int} (q:∀ w,(underlying t).run P w=.ok (.array len e) w) (A:∀ w,(sizeOf e).run P w=.ok n w)
    (B:Fr.ev fr x=some (.pointer (some ⟨b,off,none⟩))) (m:Fr.ev fr y=some (.int k i)) (C:0≤i) (hl:i<len) :
    Yld P N fr H Γ (.indexAddr t x y) ty (.pointer (some ⟨b,off+i.toNat*n,none⟩)) :=
  fun a v h E _ _ _ _=>by simp[execOp,h.ev B,h.ev m,Instr.indexAt,q,asIntOf,A,Instr.sureAddr,cm_,C,hl]
theorem kl_ {x:Operand} {ad:Addr} (e:Fr.ev fr x=some (.pointer (some ad))) :
    Yld P N fr H Γ (.nilCheck x) ty (.pointer (some ad)) :=
  fun a v h k _ _ _ _=>by simp[execOp,h.ev e]
theorem dy_ {x:Operand} {t e:TypeId} {ad:Option Addr} {len cap:Nat} (k:∀ w,(underlying t).run P w=.ok (.slice e) w) (h:Fr.ev fr x=some (.slice ad len cap)) :
    Yld P N fr H Γ (.call ⟨.builtin .len,#[x],#[t]⟩) ty (.int .i64 (len:Int)) :=
  fun a v m q _ _ _ _=>by simp[execOp,resolve,invoke,builtin,Builtin.len_,m.ev h,k,goInt]
theorem bF_ {x:Operand} {i:Nat} {vs:Array Value} {u:Value} (h:Fr.ev fr x=some (.tuple vs)) (e:lg vs.toList i=some u) :
    Yld P N fr H Γ (.extract x i) ty (u) :=
  fun a v k m _ _ _ _=>by
    rw[lg_eq,Array.getElem?_toList]at e;simp[execOp,k.ev h,Instr.extract,e]
def str (l:List UInt8):Value:=.string ⟨l.toArray⟩
theorem str_of (s:ByteArray):Value.string s=str s.data.toList:=rfl
theorem cT_ {t q:TypeId} {x y:Operand} {m n:List UInt8} (h:Fr.ev fr x=some (str m)) (k:Fr.ev fr y=some (str n)) :
    Yld P N fr H Γ (.binOp .eql t x y q) ty (.bool ((m==n))) :=
  fun a v e _ _ _ _ _=>by simp[execOp,e.ev h,e.ev k,str,eqGuard,binOp,Op.stringOp]
theorem cF_ {t q:TypeId} {x y:Operand} {m n:List UInt8} (h:Fr.ev fr x=some (str m)) (k:Fr.ev fr y=some (str n)) :
    Yld P N fr H Γ (.binOp .neq t x y q) ty (.bool ((m != n))) :=
  fun a v e _ _ _ _ _=>by simp[execOp,e.ev h,e.ev k,str,eqGuard,binOp,Op.stringOp,bne]
theorem em_ {t A:TypeId} {x y:Operand} {m n:List UInt8} (k:Fr.ev fr x=some (str m)) (q:Fr.ev fr y=some (str n)) (hl:m.length+n.length≤9223372036854775807) :
    Yld P N fr H Γ (.binOp .add t x y A) ty (str (m++n)) :=
  fun a v e _ _ _ _ _=>by
    have h:=run_string_add_sum (P:=P) v.w ⟨m.toArray⟩ ⟨n.toArray⟩ zar_;rw[ByteArray.mk_append_mk]at h;simp[execOp,e.ev k,e.ev q,str,eqGuard,binOp_string_add,h]
theorem cG_ {x:Operand} {t:TypeId} {m:List UInt8} (h:∀ w,(underlying t).run P w=.ok .string w) (e:Fr.ev fr x=some (str m)) :
    Yld P N fr H Γ (.call ⟨.builtin .len,#[x],#[t]⟩) ty (.int .i64 (m.length:Int)) :=
  fun a v k q _ _ _ _=>by simp[execOp,resolve,invoke,builtin,Builtin.len_,k.ev e,h,goInt,str];rfl
theorem dU_ {x y:Operand} {t:TypeId} {m:List UInt8} {k:IntKind} {i:Int} {c:UInt8} (A:∀ w,(underlying t).run P w=.ok .string w) (C:Fr.ev fr x=some (str m)) (q:Fr.ev fr y=some (.int k i)) (E:0≤i) (e:m[i.toNat]? = some c) :
    Yld P N fr H Γ (.index t x y) ty (.int .u8 (c.toNat:Int)) :=
  fun a v h F _ _ _ _=>by
    have hl:i.toNat<m.length:=(List.getElem?_eq_some_iff.1 e).1
    have B:(⟨m.toArray⟩:ByteArray)[i.toNat]? = some c:=by
      rw[ByteArray.getElem?_lt' _ _ zar_];have:(⟨m.toArray⟩:ByteArray)[i.toNat]'zar_=m[i.toNat]:=rfl;rw[this];rw[List.getElem?_eq_getElem hl]at e;exact e
    simp[execOp,Instr.index,h.ev C,h.ev q,asIntOf,A,str,E,B]
def ha_ (P:Program) (f:FuncId):Prop:=∀ args w,(callFunc f args).run P w=.ok (.enter f args) w
theorem callable {f : FuncId} {fn : Func} {c : Code} (h : P.funcs[f]? = some fn) (k : fn.body = some c) (m : (fn.name == "runtime.NumGoroutine") = false) : ha_ P f := by
  intro args w;have e : ¬ fn.name = "runtime.NumGoroutine" := by simpa using m
  simp[callFunc,run_program,h,k,e]
structure Tri (P:Program) (f:FuncId) (args:Array Value) (H:Hp) (Γ:List Fct) {ι:Type} (ret:ι→Value) (H':ι→Hp) (Γ':ι→List Fct):Prop where
  callable:ha_ P f
  run:∀ v,v.sat H→Z_ Γ v→Calls P f args v.w fun e w'=>∃ x v',e=.returned (ret x)∧v'.w=w'∧v'.sat (H' x)∧Z_ (Γ' x) v'∧v.to H v' (H' x)
def Fr.evs (fr:Fr):List Operand→Option (List Value)
  | []=>some []
  | x::r=>match Fr.ev fr x with
    | some v=>match Fr.evs fr r with
      | some vs=>some (v::vs)
      | none=>none
    | none=>none
theorem Fr.sat.evs {a:Act} (h:Fr.sat N fr a):∀ {xs:List Operand} {vs:List Value},Fr.evs fr xs=some vs→xs.map a.eval=vs
 | [],vs,e=>by simp only[Fr.evs,Option.some.injEq]at e;subst e;rfl
 | x::r,vs,e=>by
   simp only[Fr.evs]at e
   split at e
   · rename_i u m
     split at e
     · rename_i us k
       simp only[Option.some.injEq]at e;subst e;rw[List.map_cons,h.ev m,h.evs k]
     · cases e
   · cases e
theorem ob_ {q:Op} {f:FuncId} {vs:List Value} {ι:Type} {Hc F:Hp} {y:List Fct} {k:ι→Value} {H':ι→Hp} {Γ':ι→List Fct}
    (Q:Tri P f vs.toArray Hc y k H' Γ') (M:∀ a v,Fr.sat N fr a→(execOp a.eval ⟨some d,q,ty,ps,af,none⟩).run P v=.ok (.enter f vs.toArray) v)
    (m:H.Perm (Hc++F)) (S:∀ v,v.sat H→Z_ Γ v→Z_ y v) (G:Nat.blt d N.n=true)
    (hk:∀ x,Ops P R N v0 H0 ops l K ((d,k x)::fr) (H' x++F) (Γ' x++Γ)):Ops P R N v0 H0 ops (⟨some d,q,ty,ps,af,none⟩::l) K fr H Γ :=
  cn_ rfl fun a v C A E B=>by
    unfold Oper.wp;rw[M a v.w C];have h:=A.perm m;refine (Q.run v h.sub (S v A B)).mono ?_;rintro e w' ⟨x,I,rfl,rfl,J,L,O⟩;obtain⟨k1,k2⟩:=O.frame h J;exact hk x _ I (C.put G) k1 (E.trans (k2.permL m.symm)) (eL_.2 ⟨L,ao_ (k2.le h) B⟩)
theorem g_ {f:FuncId} {m:List Operand} {h:Array TypeId} {vs:List Value} {ι:Type} {Hc F:Hp} {k:List Fct} {e:ι→Value} {H':ι→Hp} {Γ':ι→List Fct}
    (q:Tri P f vs.toArray Hc k e H' Γ') (B:Fr.evs fr m=some vs) (y:H.Perm (Hc++F)) (E:∀ v,v.sat H→Z_ Γ v→Z_ k v) (A:Nat.blt d N.n=true)
    (hk:∀ x,Ops P R N v0 H0 ops l K ((d,e x)::fr) (H' x++F) (Γ' x++Γ)) :
    Ops P R N v0 H0 ops (⟨some d,.call ⟨.value (.func f),m.toArray,h⟩,ty,ps,af,none⟩::l) K fr H Γ :=
  ob_ q (fun a w C=>by
    have:=C.evs B;simp[execOp,resolve,Deferred.ofValue,Act.eval,invoke,this,q.callable _ w]) y E A hk
theorem T_ {f:FuncId} {k:List Operand} {e:Array TypeId} {vs:List Value} {Hc F:Hp} {h:List Fct} {X:Bool}
    (y:Tri P f vs.toArray Hc h (fun _:Unit=>.bool X) (fun _=>Hc) (fun _=>[])) (q:Fr.evs fr k=some vs) (m:H.Perm (Hc++F)) (A:∀ v,v.sat H→Z_ Γ v→Z_ h v) (x:Nat.blt d N.n=true)
    (hk:∀ r:Bool,X=r→Ops P R N v0 H0 ops l K ((d,.bool r)::fr) (Hc++F) Γ) :
    Ops P R N v0 H0 ops (⟨some d,.call ⟨.value (.func f),k.toArray,e⟩,ty,ps,af,none⟩::l) K fr H Γ :=
  g_ y q m A x fun _=>hk X rfl
end ops
section body
variable {P:Program} {N:Nf} {fr:Fr} {H:Hp} {Γ:List Fct}
def kj_ {ι:Type} (v0:Vw) (H0:Hp) (ret:ι→Value) (H':ι→Hp) (Γ':ι→List Fct) (e:Ending) (w':World):Prop :=
  ∃ x v',e=.returned (ret x)∧v'.w=w'∧v'.sat (H' x)∧Z_ (Γ' x) v'∧v0.to H0 v' (H' x)
def kA_ (i:Nat):List Value→Fr
  | []=>[]
  | x::r=>(i,x)::kA_ (i+1) r
theorem js_:∀ (l:List Value) (i t:Nat) (v:Value),Fr.get (kA_ i l) t=some v→i≤t∧l[t - i]? = some v
 | [],i,t,v,h=>by simp[kA_,Fr.get]at h
 | x::r,i,t,v,h=>by
   simp only[kA_,Fr.get]at h
   by_cases e:i=t
   · subst e
     simp only[Nat.beq_refl,cond_true,Option.some.injEq]at h;subst h;simp
   · have k:Nat.beq i t=false:=by
       cases k:Nat.beq i t
       · rfl
       · exact absurd (Nat.eq_of_beq_eq_true k) e
     rw[k,cond_false]at h;obtain⟨q,m⟩:=js_ r (i+1) t v h;refine⟨by omega,?_⟩;rw[show t - i=(t - (i+1))+1 by omega];simpa using m
theorem i_ {N:Nat} {f:FuncId} {fn:Func} {c:Code} {args:List Value} {ι:Type} {e:ι→Value} {H':ι→Hp} {Γ':ι→List Fct}
    (q : P.funcs[f]? = some fn) (y : fn.body = some c) (E : (fn.name == "runtime.NumGoroutine") = false) (A : fn.ntmps = N) (hl : Nat.ble args.length N = true)
    (h:∀ v0,Run P (bodyPost P fn (kj_ v0 H e H' Γ')) N v0 H c [] (kA_ 0 args) H Γ):Tri P f args.toArray H Γ e H' Γ':=by
  refine⟨callable q y E,fun v G C=>calls_of_wp q y ?_⟩;have B:args.length≤N:=Nat.le_of_ble_eq_true hl;have:=h v ⟨args.toArray++Array.replicate (fn.ntmps - args.toArray.size) undef,[]⟩ v ⟨by simp[A];omega,rfl,fun t x F=>?_⟩ G (Vw.to.refl _ _) C
  · exact this
  · obtain⟨_,k⟩:=js_ args 0 t x F
    simp only[Nat.sub_zero]at k;have m:=(List.getElem?_eq_some_iff.1 k).1;rw[Array.getElem?_append_left zax_];simpa using k
theorem ae_ {N:Nat} {fn:Func} {t:Nat} {ι:Type} {v0:Vw} {H0 F:Hp} {ret:ι→Value} {H':ι→Hp} {Γ':ι→List Fct} (h:fn.results=#[.tmp t]) (x:ι) (A:Fr.get fr t=some (ret x)) (k:H.Perm (H' x++F))
    (B:∀ v,v.sat H→Z_ Γ v→Z_ (Γ' x) v):Ok N v0 H0 (bodyPost P fn (kj_ v0 H0 ret H' Γ') .ret) fr H Γ :=
  dG_ k B fun a v e q m y=>⟨e.defers,ret x,by rw[results_tmp h];have:=e.val t _ A;simp[this],x,v,rfl,rfl,q,y,m⟩
theorem kv_ {N:Nat} {fn:Func} {t s:Nat} {ι:Type} {v0:Vw} {H0 F:Hp} {ret:ι→Value} {H':ι→Hp} {Γ':ι→List Fct} {q m:Value} (y:fn.results=#[.tmp t,.tmp s]) (x:ι) (h:Fr.get fr t=some q) (e:Fr.get fr s=some m) (I:.tuple #[q,m]=ret x) (A:H.Perm (H' x++F))
    (L:∀ v,v.sat H→Z_ Γ v→Z_ (Γ' x) v):Ok N v0 H0 (bodyPost P fn (kj_ v0 H0 ret H' Γ') .ret) fr H Γ :=
  dG_ A L fun a v k E B G=>⟨k.defers,ret x,by rw[results_tmp2 y,← I];have C:=k.val t _ h;have J:=k.val s _ e;simp[C,J],x,v,rfl,rfl,E,G,B⟩
theorem n_ {t:Nat} {x y:Bool} (h:Fr.get fr t=some (.bool x)) (e:x=y):Fr.get fr t=some (.bool y):=e▸h
theorem ce_ {t:Nat} {k:IntKind} {x y:Int} (h:Fr.get fr t=some (.int k x)) (e:x=y):Fr.get fr t=some (.int k y):=e▸h
theorem fH_ {t:Nat} {x y:List UInt8} (h:Fr.get fr t=some (str x)) (e:x=y):Fr.get fr t=some (str y):=e▸h
theorem fG_ {t:Nat} {x y:Value} (h:Fr.get fr t=some x) (e:x=y):Fr.get fr t=some y:=e▸h
abbrev Fn0 (P:Program) (f:FuncId) (args:Array Value) (ret:Value):Prop:=Tri P f args [] [] (fun _:Unit=>ret) (fun _=>[]) (fun _=>[])
end body
section cut
variable {P:Program} {N:Nf} {v0:Vw} {H0:Hp} {R:Exit→Act→World→Prop} {K:List Kt} {fr:Fr} {H:Hp} {Γ:List Fct}
def Mid (N:Nf) (v0:Vw) (H0:Hp) {ι:Type} (frs:ι→Fr) (Hs:ι→Hp) (Γs:ι→List Fct) (e:Exit) (a:Act) (w:World):Prop :=
  e=.normal∧∃ i v,v.w=w∧Fr.sat N (frs i) a∧v.sat (Hs i)∧v0.to H0 v (Hs i)∧Z_ (Γs i) v
theorem hm_ {ι:Type} {c:Code} (h:ι→Fr) (Hs:ι→Hp) (k:ι→List Fct) (F:Run P (Mid N v0 H0 h Hs k) N v0 H0 c [] fr H Γ) (q:∀ i,Fin P R N v0 H0 K (h i) (Hs i) (k i)):Run P R N v0 H0 c K fr H Γ:=by
  intro a v A B G C;refine wp_mono (F a v A B G C) ?_;rintro e y w' ⟨rfl,i,m,rfl,k1,k2,x,E⟩;exact q i y m k1 k2 x E
theorem dn_ {ι:Type} {e:ι→Fr} {Hs:ι→Hp} {k:ι→List Fct} (i:ι) {F:Hp} (h:Fr.le (e i) fr) (m:H.Perm (Hs i++F)) (B:∀ v,v.sat H→Z_ Γ v→Z_ (k i) v) :
    Ok N v0 H0 (Mid N v0 H0 e Hs k .normal) fr H Γ :=
  bt_ (e i) h (dG_ m B fun _ v x y q A=>⟨rfl,i,v,rfl,x,y,q,A⟩)
end cut
end Go.Sx
namespace Go.Sx
open Go
def bA_ (v:Vw) (ad:Option Addr) (cs:List Value):Prop :=
  cs=[]∨∃ b off arr T fz,ad=some ⟨b,off,none⟩∧v.im b∧v.w.heap[b]? = some (.cells arr T fz)∧∀ j x,cs[j]? = some x→arr[off+j]? = some x
def ah_ (ad:Option Addr) (cs:List Value):Fct where
 p:=fun v=>bA_ v ad cs
 mono:=fun v v' h hp=>by
   rcases hp with hp|⟨b,off,arr,T,fz,h1,h2,h3,h4⟩
   · exact .inl hp
   · exact .inr ⟨b,off,arr,T,fz,h1,h.imUp b h2,by rw[h.block b h2];exact h3,h4⟩
def bas (ad:Option Addr):Addr:=ad.getD ⟨0,0,none⟩
def rad (ad:Option Addr) (k:Nat):Addr:=⟨(bas ad).block,(bas ad).off+k,none⟩
theorem bA_.addr {v:Vw} {ad:Option Addr} {cs:List Value} (h:bA_ v ad cs) (m:cs≠[]):∃ b off,ad=some ⟨b,off,none⟩:=by
 rcases h with h|⟨b,off,e,T,fz,k,_⟩
 ·exact absurd h m
 exact⟨b,off,k⟩
theorem bA_.cell {v:Vw} {ad:Option Addr} {cs:List Value} {k:Nat} {x:Value} (h:bA_ v ad cs) (e:cs[k]? = some x):v.w.cell? (rad ad k)=some x:=by
 rcases h with h|⟨b,off,m,T,fz,rfl,_,q,y⟩
 ·subst h;simp at e
 simp[rad,bas,World.cell?,q,y k x e]
theorem bA_.drop {v:Vw} {ad:Option Addr} {cs:List Value} (h:bA_ v ad cs) (n:Nat) (e:List Value) (m:∀ j x,e[j]? = some x→cs[n+j]? = some x):bA_ v (ad.map (·.add n)) e:=by
 rcases h with h|⟨b,off,k,T,fz,rfl,A,q,B⟩
 ·subst h
  left
  cases e with
  | nil=>rfl
  | cons d e=>have:=m 0 d rfl;simp at this
 exact .inr ⟨b,off+n,k,T,fz,by simp[cm_],A,q,fun j x y=>by rw[Nat.add_assoc];exact B _ _ (m j x y)⟩
theorem kC_ {α:Type} (f:α→List Value) (n:Nat) (e:∀ x,(f x).length=n):∀ (l:List α) (i j:Nat) (x:α),l[i]? = some x→j<n→(l.flatMap f)[i*n+j]? = (f x)[j]?
  | [],i,j,x,h,_=>by simp at h
  | y::l,0,j,x,h,hj=>by
    simp only[List.getElem?_cons_zero,Option.some.injEq]at h;subst h;simp only[List.flatMap_cons,Nat.zero_mul,Nat.zero_add];rw[List.getElem?_append_left (by rw[e];exact hj)]
  | y::l,i+1,j,x,h,hj=>by
    simp only[List.flatMap_cons];rw[List.getElem?_append_right (by rw[e,Nat.add_mul];omega),e,show (i+1)*n+j - n=i*n+j by rw[Nat.add_mul];omega];exact kC_ f n e l i j x zM_ hj
theorem dr_ {α:Type} (f:α→List Value) (n:Nat) (e:∀ x,(f x).length=n):∀ (l:List α),(l.flatMap f).length=l.length*n
  | []=>by simp
  | y::l=>by simp only[List.flatMap_cons,List.length_append,e,List.length_cons,dr_ f n e l,Nat.add_mul];omega
section ops
variable {P:Program} {N:Nf} {v0:Vw} {H0:Hp} {R:Exit→Act→World→Prop} {K:List Kt} {fr:Fr} {H:Hp} {Γ:List Fct}
variable {ops:Array Oper} {l:List Oper} {d:Nat} {ty:TypeId} {ps:String} {af:Array Edge}
theorem Q_ {t e:TypeId} {x y:Operand} {ad:Option Addr} {len cap n:Nat} {k:IntKind} {i:Int} (q:∀ w,(underlying t).run P w=.ok (.slice e) w) (B:∀ w,(sizeOf e).run P w=.ok n w)
    (F:Fr.ev fr x=some (.slice ad len cap)) (m:Fr.ev fr y=some (.int k i)) (A:∀ v,v.sat H→Z_ Γ v→∃ b off,ad=some ⟨b,off,none⟩) (G:0≤i) (hl:i<len) :
    Yld P N fr H Γ (.indexAddr t x y) ty (.pointer (some (rad ad (i.toNat*n)))) :=
  fun a v h C E _ _ _=>by
    obtain⟨b,off,rfl⟩:=A v C E;simp[execOp,h.ev F,h.ev m,Instr.indexAt,q,asIntOf,B,cm_,G,hl,rad,bas]
theorem bl_ {t:TypeId} {x:Operand} {ad:Option Addr} {k:Nat} {cs:List Value} {u:Value} (q:∀ w,(isAgg t).run P w=.ok false w) (e:Fr.ev fr x=some (.pointer (some (rad ad k))))
    (h:∀ v,v.sat H→Z_ Γ v→bA_ v ad cs) (m:cs[k]? = some u):Yld P N fr H Γ (.load t x) ty u :=
  gE_ e (fun v y A=>cD_ q ((h v y A).cell m))
theorem aj_ {t:TypeId} {x:Operand} {ad:Option Addr} {k n:Nat} {cs us:List Value} (q:∀ w,(isAgg t).run P w=.ok true w) (A:∀ w,(sizeOf t).run P w=.ok n w) (F:Fr.ev fr x=some (.pointer (some (rad ad k))))
    (e:∀ v,v.sat H→Z_ Γ v→bA_ v ad cs) (C:us.length=n) (h:∀ j y,us[j]? = some y→cs[k+j]? = some y):Yld P N fr H Γ (.load t x) ty (.agg us.toArray) :=
  gE_ F (fun v B E=>dI_ q A C (fun j y m=>by
    have:=(e v B E).cell (h j y m);simpa [rad,Nat.add_assoc] using this))
theorem eI_ {k:Act→World→Prop} {b:Nat} {o:Obj} {F:Hp} (f:Fct) (B:H.Perm ((b,o)::F)) (L:∀ v:Vw,v.im b→v.w.heap[b]? = some o→Z_ Γ v→f.p v) (h:Ok N v0 H0 k fr F (f::Γ)):Ok N v0 H0 k fr H Γ:=by
 intro a v M G m J;have g:=G.perm B;have I:=g.own (b,o) (List.mem_cons_self);have E:b<v.w.heap.size:=(Array.getElem?_eq_some_iff.1 I.1).1;have q:=g.nodup;rw[List.map_cons,List.nodup_cons]at q;have A:v.le ⟨fun x=>v.im x∨x=b,v.w,v.sl⟩:=⟨fun x e=>.inl e,fun _ _=>rfl,rfl⟩;have y:b∈H.map Prod.fst:=(B.map Prod.fst).mem_iff.2 zj_;refine h a ⟨fun x=>v.im x∨x=b,v.w,v.sl⟩ M ⟨fun p C=>⟨(g.own p (List.mem_cons_of_mem _ C)).1,fun hi=>?_⟩,q.2,fun x e=>?_⟩ ?_ ⟨L _ (.inr rfl) I.1 (ao_ A J),ao_ A J⟩
 ·rcases hi with hi|hi
  ·exact (g.own p (List.mem_cons_of_mem _ C)).2 hi
  exact q.1 (by have:=List.mem_map_of_mem (f:=Prod.fst) C;rw[hi]at this;exact this)
 ·rcases e with e|e
  ·exact G.lt x e
  exact e▸E
 refine⟨m.os,m.tape,m.output,m.size,m.block,fun x e=>.inl (m.imUp x e),fun x e=>?_,fun x e=>m.hNew x ((B.map Prod.fst).mem_iff.2 (by rw[List.map_cons];exact List.mem_cons_of_mem _ e)),m.sl,m.dr⟩;rcases e with e|e
 ·exact m.imNew x e
 exact .inr (e▸m.hNew b y)
def aw_ (e:TypeId) (sz:Nat) (sv:Value) (n:Nat) (xs:List Value) (Hr:Hp):Prop :=
  xs.length=n*sz∧((sv=.slice none 0 0∧n=0∧Hr=[]) ∨
    ∃ g cap cur,sv=.slice (some ⟨g,0,none⟩) n cap∧Hr=[(g,.cells cur e (0,0))]∧n≤cap∧cap≤maxLen∧cur.size=cap*sz∧cur.toList.take (n*sz)=xs)
theorem aw_.nil (e:TypeId) (sz:Nat):aw_ e sz (.slice none 0 0) 0 [] []:=⟨by simp,.inl ⟨rfl,rfl,rfl⟩⟩
theorem aw_.owns {e:TypeId} {sz n:Nat} {sv:Value} {m:List Value} {Hr F:Hp} {v:Vw} (h:aw_ e sz sv n m Hr) (x:v.sat (Hr++F)):v.w.ownsRow 0 e sz sv n m:=by
 refine⟨h.1,?_⟩;rcases h.2 with⟨k,y,_⟩|⟨g,cap,cur,k,rfl,q,A,B,C⟩
 ·exact .inl ⟨k,y⟩
 exact .inr ⟨g,cap,cur,k,Nat.zero_le _,(x.own (g,.cells cur e (0,0)) zj_).1,q,A,B,C⟩
theorem iJ_ {e:TypeId} {sz n n':Nat} {sv sv':Value} {S ys:List Value} {Hr F:Hp} {v:Vw} {w':World} (h:aw_ e sz sv n S Hr) (I:v.sat (Hr++F)) (Q:w'.ownsRow 0 e sz sv' n' ys) (E:v.w.grownBy w' sv.ownBlock) (X:v.w.drawn≤w'.drawn)
    (J:∀ g,sv'.ownBlock=some g→sv.ownBlock=some g∨v.w.heap.size≤g) :
    ∃ x,aw_ e sz sv' n' ys x∧(⟨v.im,w',v.sl⟩:Vw).sat (x++F)∧v.to (Hr++F) ⟨v.im,w',v.sl⟩ (x++F):=by
  have L:∀ p,p∈Hr++F→p.1<v.w.heap.size:=fun p m=>(Array.getElem?_eq_some_iff.1 (I.own p m).1).1
  have A:∀ b,sv.ownBlock=some b→b∈Hr.map Prod.fst:=fun b y=>by
    rcases h.2 with⟨rfl,_,_⟩|⟨g,cap,cur,rfl,rfl,_⟩
    · simp[Value.ownBlock]at y
    · simp[Value.ownBlock]at y;simp[y]
  have B:=I.nodup;rw[List.map_append,List.nodup_append]at B;have T:∀ p,p∈F→some p.1≠sv.ownBlock:=fun p m e=>B.2.2 _ (A p.1 e.symm) _ (List.mem_map_of_mem m) rfl
  have C:∀ p,p∈F→w'.heap[p.1]? = some p.2∧¬ v.im p.1:=fun p m=>by
    have:=I.own p (List.mem_append_right _ m);exact⟨by rw[E.block _ (L p (List.mem_append_right _ m)) (T p m)];exact this.1,this.2⟩
  have M:∀ x:Hp,(∀ b,b∈x.map Prod.fst→b∈Hr.map Prod.fst∨v.w.heap.size≤b)→v.to (Hr++F) ⟨v.im,w',v.sl⟩ (x++F):=fun x hh=>by
    refine⟨E.os,E.tape,E.output,E.size,fun b y U=>E.block b y (fun e=>U ?_),fun _ h=>h,fun _ h=>.inl h,fun b y=>?_,rfl,.inr X⟩
    · rw[List.map_append];exact List.mem_append_left _ (A b e.symm)
    · rw[List.map_append]at y ⊢
      rcases List.mem_append.1 y with G|G
      · exact (hh b G).imp (List.mem_append_left _) id
      · exact .inl (List.mem_append_right _ G)
  rcases Q.2 with⟨G,Y⟩|⟨g,cap,cur,G,_,W,h4,h5,V,Z⟩
  · refine⟨[],⟨Q.1,.inl ⟨G,Y,rfl⟩⟩,⟨fun p m=>C p zax_,by simpa using B.2.1,fun b y=>Nat.lt_of_lt_of_le (I.lt b y) E.size⟩,M [] zj_⟩
  · have k:g∈Hr.map Prod.fst∨v.w.heap.size≤g:=(J g (by rw[G];rfl)).imp (A g) id
    refine⟨[(g,.cells cur e (0,0))],⟨Q.1,.inr ⟨g,cap,cur,G,rfl,h4,h5,V,Z⟩⟩,⟨fun p m=>?_,?_,fun b y=>Nat.lt_of_lt_of_le (I.lt b y) E.size⟩,M _ zam_⟩
    · rcases List.mem_append.1 m with m|m
      · simp only[List.mem_singleton]at m
        subst m;refine⟨W,fun hi=>?_⟩;rcases k with k|k
        · obtain⟨q,O,rfl⟩:=List.mem_map.1 k
          exact (I.own q (List.mem_append_left _ O)).2 hi
        · have:=I.lt _ hi;omega
      · exact C p m
    · simp only[List.map_append,List.map_cons,List.map_nil,List.singleton_append,List.nodup_cons]
      refine⟨fun hm=>?_,B.2.1⟩;obtain⟨q,O,e⟩:=List.mem_map.1 hm;rcases k with k|k
      · exact B.2.2 _ k _ (List.mem_map_of_mem O) e.symm
      · have:=L q (List.mem_append_right _ O);omega
theorem kg_ (w:World) {t ty' e:TypeId} {i:TypeInfo} {z:Value} {n m c sz:Nat} {sv L:Value} {w':World} {E news:List Value} {ad:Addr} (A:P.underlying t=some (.slice e)) (hi:P.info? e=some i) (O:i.zero=some z)
    (I:i.size=sz) (q:w.ownsRow 0 e sz sv n E) (hl:news.length=m*sz) (h:∀ j u,news[j]? = some u→w.cell? (ad.add j)=some u) (T:∀ u∈news,u.oneCell'=true) (F:n+m≤maxLen) (M:(n+m)*i.bytes≤140737488355328)
    (v:(Builtin.append_ #[t,t] ty' #[sv,.slice (some ad) m c]).run P w=.ok L w'):w.drawn≤w'.drawn∧∀ g,L.ownBlock=some g→sv.ownBlock=some g∨w.heap.size≤g:=by
  subst I;have B:n+m≤9223372036854775807:=by simp only[maxLen]at F;omega
  rcases q.2 with⟨rfl,rfl⟩|⟨b,cap,cur,rfl,_,C,Q,_,G,J⟩
  · by_cases hm:m=0
    · subst hm
      have S:news=[]:=List.eq_nil_of_length_eq_zero (by simpa using hl);subst S
      have:(Builtin.append_ #[t,t] ty' #[.slice none 0 0,.slice (some ad) 0 c]).run P w=.ok (.slice none 0 0) w:=by
        simp[Builtin.append_,run_underlying A,sizeOf,typeInfo,hi,Builtin.lenOf,Builtin.firstCells,loadCells,loadCellsFrom]
      rw[this]at v;cases v;exact⟨Nat.le_refl _,fun g x=>by simp[Value.ownBlock]at x⟩
    · have:=run_append_nil (P:=P) w t ty' e i z A hi O ad m c news hl h za_ za_ (by simp only[Nat.zero_add]at M;omega)
      rw[this]at v;cases v;refine⟨by simp,fun g x=>?_⟩;simp only[Value.ownBlock,Option.some.injEq]at x;exact .inr za_
  · by_cases k:n+m≤cap
    · have y:n*i.size+news.length≤cur.size:=by rw[hl,G,← Nat.add_mul];exact Nat.mul_le_mul_right _ k
      have:=run_append_room (P:=P) w t ty' e i A hi b n cap cur C ad m c news hl h T k y;rw[this]at v;cases v;exact⟨by simp,fun g x=>.inl x⟩
    · have Z_:∀ j u,E[j]? = some u→w.cell? ((⟨b,0,none⟩:Addr).add j)=some u:=q.cells (g:=b) rfl
      have:=run_append_grow (P:=P) w t ty' e i z A hi O ⟨b,0,none⟩ n cap E q.1 Z_ ad m c news hl h za_ za_ (growslice_fits za_ M);rw[this]at v;cases v;refine⟨by simp,fun g x=>?_⟩;simp only[Value.ownBlock,Option.some.injEq]at x;exact .inr za_
structure Elt (P:Program) (t e:TypeId) (sz by':Nat):Prop where
  und:P.underlying t=some (.slice e)
  info:∃ i z,P.info? e=some i∧i.zero=some z∧i.size=sz∧i.bytes=by'∧z.cells.size=sz
  pos:0<sz
theorem an_ {x y:Operand} {t e:TypeId} {sz by' n m c:Nat} {sv:Value} {E news:List Value} {Hr F:Hp} {ad:Addr} (C:Elt P t e sz by') (k:aw_ e sz sv n E Hr)
    (hx:Fr.ev fr x=some sv) (W:Fr.ev fr y=some (.slice (some ad) m c)) (G:H.Perm (Hr++F)) (hl:news.length=m*sz) (q:∀ v,v.sat H→Z_ Γ v→∀ j u,news[j]? = some u→v.w.cell? (ad.add j)=some u) (B:∀ u∈news,u.oneCell'=true)
    (A:n+m≤maxLen) (L:(n+m)*by'≤140737488355328) (hN:Nat.blt d N.n=true)
    (hk:∀ sv' h,aw_ e sz sv' (n+m) (E++news) h→Ops P R N v0 H0 ops l K ((d,sv')::fr) (h++F) Γ) :
    Ops P R N v0 H0 ops (⟨some d,.call ⟨.builtin .append,#[x,y],#[t,t]⟩,ty,ps,af,none⟩::l) K fr H Γ :=
  cn_ rfl fun a v J I h3 U=>by
    obtain⟨i,z,hi,S,es,V,Y⟩:=C.info;have g:=I.perm G;have M:=q v I U;have O:=k.owns g;obtain⟨X,w',Q,q1,q2,_⟩:=run_append_own (P:=P) v.w 0 t ty e i z sz by' C.und hi S es V Y C.pos sv n E O ad m c news hl M B A L (Nat.zero_le _)
    obtain⟨a1,Z⟩:=kg_ v.w C.und hi S es O hl M B A (by rw[V];exact L) Q;obtain⟨h,k1,k2,T⟩:=iJ_ k g q1 q2 a1 Z;unfold Oper.wp execOp;simp only[resolve,invoke,builtin,Sem.run_bind,Sem.run_pure,Result.andThen_ok,List.map_toArray,List.map_cons,List.map_nil,J.ev hx,J.ev W,Q];exact hk X h k1 _ ⟨v.im,w',v.sl⟩ (J.put hN) k2 (h3.trans (T.permL G.symm)) (ao_ ((T.permL G.symm).le I) U)
theorem nL_ {t:TypeId} {parts:Array (Nat×Operand)} {u:Value} (e:∀ a:Act,Fr.sat N fr a→∀ w,(Instr.build t (parts.map fun (i,x)=>(i,a.eval x))).run P w=.ok u w) :
    Yld P N fr H Γ (.build t parts) ty (u) :=
  fun a v h k m _ _ _=>by
    have:=e a h v.w;simp only[execOp,Sem.run_bind,this,Result.andThen_ok,Sem.run_pure]
def Fr.evp (fr:Fr):List (Nat×Operand)→Option (List (Nat×Value))
  | []=>some []
  | (i,x)::r=>match Fr.ev fr x with
    | some v=>match Fr.evp fr r with
      | some vs=>some ((i,v)::vs)
      | none=>none
    | none=>none
theorem Fr.sat.evp {a:Act} (h:Fr.sat N fr a):∀ {xs:List (Nat×Operand)} {vs:List (Nat×Value)},Fr.evp fr xs=some vs→xs.map (fun (i,x)=>(i,a.eval x))=vs
 | [],vs,e=>by simp only[Fr.evp,Option.some.injEq]at e;subst e;rfl
 | (i,x)::r,vs,e=>by
   simp only[Fr.evp]at e
   split at e
   · rename_i u m
     split at e
     · rename_i us k
       simp only[Option.some.injEq]at e;subst e;show (i,a.eval x)::_=_
       rw[h.ev m];exact congrArg _ (h.evp k)
     · cases e
   · cases e
def kz_:List Value→Nat→List Value→List Value
  | cs,0,[]=>cs
  | _::cs,0,v::vs=>v::kz_ cs 0 vs
  | c::cs,n+1,vs=>c::kz_ cs n vs
  | [],_,_=>[]
theorem qr_:∀ (cs:List Value) (n:Nat),kz_ cs n []=cs
  | [],0=>rfl
  | [],n+1=>rfl
  | c::cs,0=>rfl
  | c::cs,n+1=>by simp only[kz_];rw[qr_ cs n]
theorem oh_:∀ (cs:List Value) (n:Nat) (v:Value) (vs:List Value),kz_ cs n (v::vs)=kz_ (cs.set n v) (n+1) vs
  | [],0,v,vs=>by simp[kz_]
  | [],n+1,v,vs=>by simp[kz_]
  | c::cs,0,v,vs=>by simp[kz_]
  | c::cs,n+1,v,vs=>by simp only[kz_,List.set_cons_succ];rw[oh_ cs n v vs]
theorem oo_ (off:Nat):∀ (vs:List Value) (k:Nat) (cs:List Value),
    (vs.zipIdx k).foldl (fun (cs:Array Value) (p:Value×Nat)=>cs.setIfInBounds (off+p.2) p.1) cs.toArray=(kz_ cs (off+k) vs).toArray
  | [],k,cs=>by simp[qr_]
  | v::vs,k,cs=>by
    simp only[List.zipIdx_cons,List.foldl_cons];rw[oh_,show cs.toArray.setIfInBounds (off+k) v=(cs.set (off+k) v).toArray by simp,oo_ off vs (k+1)];rfl
def lu_ (place:Nat→Option (Nat×Nat)):List Value→List (Nat×Value)→Option (List Value)
  | cells,[]=>some cells
  | cells,(i,v)::rest=>match place i with
    | none=>none
    | some (off,size)=>bif Nat.beq v.cells.toList.length size&&Nat.ble (off+size) cells.length then lu_ place (kz_ cells off v.cells.toList) rest else none
theorem is_ (e:Nat→Option (Nat×Nat)):∀ (vs:List (Nat×Value)) (cells cs:List Value),lu_ e cells vs=some cs→Instr.fill e cells.toArray vs=some cs.toArray
  | [],cells,cs,h=>by simp only[lu_,Option.some.injEq]at h;subst h;rfl
  | (i,v)::rest,cells,cs,h=>by
    simp only[lu_]at h;cases hp:e i with
    | none=>rw[hp]at h;cases h
    | some q =>
      obtain⟨off,size⟩:=q;rw[hp]at h;simp only at h;cases hb:(Nat.beq v.cells.toList.length size&&Nat.ble (off+size) cells.length) with
      | false=>rw[hb]at h;cases h
      | true =>
        rw[hb,cond_true]at h;simp only[Bool.and_eq_true]at hb;have y:v.cells.size=size:=by simpa using Nat.eq_of_beq_eq_true hb.1
        have A:off+size≤cells.length:=Nat.le_of_ble_eq_true hb.2;have x:=is_ e rest _ _ h;have m:=oo_ off v.cells.toList 0 cells;simp only[Nat.add_zero]at m
        have k:v.cells.zipIdx.foldl (fun (cs:Array Value) (p:Value×Nat)=>cs.setIfInBounds (off+p.2) p.1) cells.toArray=(kz_ cells off v.cells.toList).toArray:=by
          rw[← m,← Array.foldl_toList];simp[Array.toList_zipIdx]
        simp only[Instr.fill,hp];rw[if_neg (by simp[y];omega)];exact k▸x
def hN_ (P:Program) (t:TypeId) (pl:List (Nat×Nat)) (z:List Value):Prop :=
  ∃ fs:Array Field,(∀ w,(zeroValue t).run P w=.ok (.agg z.toArray) w)∧(∀ w,(underlying t).run P w=.ok (.struct fs) w)∧(∀ w,(fs.mapM (fun (f:Field)=>(do pure (f.offset,← sizeOf f.type):Sem (Nat×Nat)))).run P w=.ok pl.toArray w)
theorem H_ {t:TypeId} {parts:List (Nat×Operand)} {vs:List (Nat×Value)} {pl:List (Nat×Nat)} {z cs:List Value} (k:hN_ P t pl z) (x:Fr.evp fr parts=some vs) (m:lu_ (fun i=>pl[i]?) z vs=some cs) :
    Yld P N fr H Γ (.build t parts.toArray) ty (.agg cs.toArray) :=
  nL_ (fun a y w=>by
    obtain⟨fs,h,A,q⟩:=k;have:=y.evp x;rw[List.map_toArray,this];have e:=is_ _ _ _ _ m;have v:Instr.fill (fun i=>pl.toArray[i]?) z.toArray vs=some cs.toArray:=by simpa using e
    simp only[Instr.build,Sem.run_bind,h,Result.andThen_ok,A,q,Value.cells,v,Sem.run_pure])
def iS_ (z:List Value):Nat→List Value
  | 0=>[]
  | n+1=>z++iS_ z n
theorem pv_ (z:List Value) (e:0<z.length):∀ (n i:Nat),i<n*z.length→(iS_ z n)[i]? = z[i%z.length]?
 | 0,i,h=>by simp at h
 | n+1,i,h=>by
   simp only[iS_]
   by_cases hi:i<z.length
   · rw[List.getElem?_append_left hi,Nat.mod_eq_of_lt hi]
   · rw[List.getElem?_append_right za_,pv_ z e n (i - z.length) (by rw[Nat.add_mul]at h;omega)]
     rw[← Nat.mod_eq_sub_mod za_]
theorem hX_ (z:List Value):∀ n,(iS_ z n).length=n*z.length
  | 0=>by simp[iS_]
  | n+1=>by simp only[iS_,List.length_append,hX_ z n,Nat.add_mul];omega
theorem jk_ (z:List Value) (e:0<z.length) (n:Nat):(Array.range (n*z.length)).map (fun i=>z.toArray[i%z.toArray.size]!)=(iS_ z n).toArray:=by
 apply Array.ext'
 apply List.ext_getElem?
 intro i;simp only[Array.toList_map,Array.toList_range,List.getElem?_map]
 by_cases hi:i<n*z.length
 ·rw[pv_ z e n i hi,List.getElem?_range hi]
  have hm:i%z.length<z.length:=Nat.mod_lt _ e;simp[hm]
 rw[List.getElem?_eq_none (by simpa using hi),List.getElem?_eq_none (by rw[hX_];omega)];rfl
theorem U_ {t e:TypeId} {len sz:Nat} {parts:List (Nat×Operand)} {vs:List (Nat×Value)} {m:Value} {cs:List Value} (G:∀ w,(underlying t).run P w=.ok (.slice e) w) (L:∀ w,(sizeOf e).run P w=.ok sz w) (F:∀ w,(zeroValue e).run P w=.ok m w)
    (A:m.cells.toList.length=sz) (J:Nat.blt 0 (len*sz)=true) (y:Nat.ble (len*sz) 16777216=true) (O:Fr.evp fr parts=some vs) (M:lu_ (fun i=>some (i*sz,sz)) (iS_ m.cells.toList len) vs=some cs) (I:Nat.blt d N.n=true)
    (hk:∀ b,Ops P R N v0 H0 ops l K ((d,.slice (some ⟨b,0,none⟩) len len)::fr) ((b,.cells cs.toArray e (0,0))::H) Γ):Ops P R N v0 H0 ops (⟨some d,.buildSlice t len parts.toArray,ty,ps,af,none⟩::l) K fr H Γ :=
  gp_ (x:=fun b=>.slice (some ⟨b,0,none⟩) len len) I (fun a v Q S T=>by
    have B:=Q.evp O;have k:=is_ _ _ _ _ M;have h:0<len*sz:=by simpa [Nat.blt_eq] using J
    have C:0<sz:=Nat.pos_of_mul_pos_left h;have E:len*sz≤16777216:=Nat.le_of_ble_eq_true y;have q:=jk_ m.cells.toList za_ len;rw[A]at q;simp only[Array.toArray_toList]at q;rw[← q]at k;simp only[execOp,Instr.buildSlice,Sem.run_bind,G,Result.andThen_ok,L,List.map_toArray,B];rw[if_neg za_,if_neg za_];simp only[Sem.run_bind,Sem.run_pure,F,Result.andThen_ok,k];rfl) hk
end ops
end Go.Sx
namespace Go.Sx
open Go
section ops
variable {P:Program} {N:Nf} {v0:Vw} {H0:Hp} {R:Exit→Act→World→Prop} {K:List Kt} {fr:Fr} {H:Hp} {Γ:List Fct}
variable {ops:Array Oper} {l:List Oper} {d:Nat} {ty:TypeId} {ps:String} {af:Array Edge}
theorem pY_ (h:Array Obj) (o:Obj) (f:Obj→Obj):(h.push o).modify h.size f=h.push (f o):=by
 apply Array.ext_getElem?
 intro i;rw[Array.getElem?_modify]
 by_cases e:h.size=i
 ·subst e;simp
 rw[if_neg e,Array.getElem?_push,Array.getElem?_push,if_neg (fun h=>e h.symm),if_neg (fun h=>e h.symm)]
def bytesV (m:List UInt8):List Value:=m.map fun c=>.int .u8 (c.toNat:Int)
theorem xh_ {x:Operand} {s t e:TypeId} {m:List UInt8} (E:∀ w,(underlying s).run P w=.ok .string w) (I:∀ w,(underlying t).run P w=.ok (.slice e) w) (L:∀ w,(underlying e).run P w=.ok (.int .u8) w)
    (G:Fr.ev fr x=some (str m)) (B:Nat.blt d N.n=true)
    (hk:∀ cap b,m.length≤cap→Ops P R N v0 H0 ops l K ((d,.slice (some ⟨b,0,none⟩) m.length cap)::fr) ((b,.cells (bytesV m++List.replicate (cap - m.length) (Value.int .u8 0)).toArray e (cap,cap+1))::H) Γ) :
    Ops P R N v0 H0 ops (⟨some d,.convert s t x,ty,ps,af,none⟩::l) K fr H Γ :=
  mJ_ (β:=Nat) (x:=fun cap b=>.slice (some ⟨b,0,none⟩) m.length cap) (o:=fun cap=>.cells (bytesV m++List.replicate (cap - m.length) (Value.int .u8 0)).toArray e (cap,cap+1)) (fun cap=>m.length≤cap) B
    (fun a v M O Q=>by
      have h:m.length≤(Question.appendCap m.length 0 e).cut (v.w.tape v.w.drawn (.appendCap m.length 0 e)):=by simp[Question.cut]
      generalize J:(Question.appendCap m.length 0 e).cut (v.w.tape v.w.drawn (.appendCap m.length 0 e))=cap at h
      have k:(bytesV m++List.replicate (cap - m.length) (Value.int .u8 0)).length=cap:=by simp[bytesV];omega
      have C:(⟨m.toArray⟩:ByteArray).size=m.length:=by simp[ByteArray.size]
      have A:(Array.map (fun (b:UInt8)=>Value.int .u8 (b.toNat:Int)) m.toArray++Array.replicate (cap - m.length) (Value.int .u8 0))=(bytesV m++List.replicate (cap - m.length) (Value.int .u8 0)).toArray:=by simp[bytesV]
      refine⟨cap,{ v.w with heap:=v.w.heap.push (.cells (bytesV m++List.replicate (cap - m.length) (Value.int .u8 0)).toArray e (cap,cap+1)),drawn:=v.w.drawn+1 },h,?_,rfl,rfl,rfl,rfl,Nat.le_succ _⟩
      have y:(Conv.stringToBytes e ⟨m.toArray⟩).run P v.w=.ok (.slice (some ⟨v.w.heap.size,0,none⟩) m.length cap) { v.w with heap:=v.w.heap.push (.cells (bytesV m++List.replicate (cap - m.length) (Value.int .u8 0)).toArray e (cap,cap+1)),drawn:=v.w.drawn+1 }:=by
        generalize bytesV m++List.replicate (cap - m.length) (Value.int .u8 0)=cs at k A ⊢
        simp only[Conv.stringToBytes,C];show Sem.run P (choose _ >>= _) v.w=_
        rw[Sem.run_bind]
        have q:(choose (.appendCap m.length 0 e)).run P v.w=.ok cap { v.w with drawn:=v.w.drawn+1 }:=by
          simp[choose,Sem.run,Question.forced,J]
        rw[q,Result.andThen_ok,A];simp only[newRow,Sem.run_bind,newObj,markStringish,shape,freeze];simp only[Sem.run,Result.andThen_ok,World.shape?,Array.getElem?_push_size,List.size_toArray,k,World.freeze,Nat.one_ne_zero,if_false,Sem.run_pure];rw[pY_];simp
      simp only[execOp,Sem.run_bind,convert,E,I,L,Result.andThen_ok,M.ev G,str,y,Sem.run_pure])
    (fun cap b F=>hk cap b F)
theorem eQ_ {t:TypeId} {x:Operand} {lo hi:Option Operand} {m:List UInt8} {i j:Nat} {kl kh:IntKind} (A:∀ w,(underlying t).run P w=.ok .string w) (C:Fr.ev fr x=some (str m))
    (e:match lo with|some y=>Fr.ev fr y=some (.int kl (i:Int))|none=>i=0) (h:match hi with|some y=>Fr.ev fr y=some (.int kh (j:Int))|none=>j=m.length) (q:i≤j) (F:j≤m.length) :
    Yld P N fr H Γ (.slice t x lo hi none) ty (str ((m.drop i).take (j - i))) :=
  fun a v k G I _ _ _=>by
    have B:(⟨m.toArray⟩:ByteArray).size=m.length:=by simp[ByteArray.size]
    have E:=ByteArray.extract_mk m i j;cases lo<;>cases hi<;>simp only at e h
    · subst e h;simp[execOp,Instr.sliceAt,Instr.slice,A,k.ev C,str,Instr.sliceBounds,B,E]
    · subst e;simp[execOp,Instr.sliceAt,Instr.slice,A,k.ev C,k.ev h,str,Instr.sliceBounds,Instr.sliceBound,asIntOf,B,E,F]
    · subst h;simp[execOp,Instr.sliceAt,Instr.slice,A,k.ev C,k.ev e,str,Instr.sliceBounds,Instr.sliceBound,asIntOf,B,E,q]
    · simp[execOp,Instr.sliceAt,Instr.slice,A,k.ev C,k.ev e,k.ev h,str,Instr.sliceBounds,Instr.sliceBound,asIntOf,B,E,q,F]
def sad (ad:Option Addr) (cap i n:Nat):Option Addr:=if cap=i then ad else ad.map (·.add (i*n))
theorem dE_ {t e:TypeId} {x:Operand} {lo hi:Option Operand} {ad:Option Addr} {len cap i j n:Nat} {kl kh:IntKind} (A:∀ w,(underlying t).run P w=.ok (.slice e) w) (B:∀ w,(sizeOf e).run P w=.ok n w) (C:Fr.ev fr x=some (.slice ad len cap))
    (h:match lo with|some y=>Fr.ev fr y=some (.int kl (i:Int))|none=>i=0) (k:match hi with|some y=>Fr.ev fr y=some (.int kh (j:Int))|none=>j=len) (q:i≤j) (E:j≤cap) :
    Yld P N fr H Γ (.slice t x lo hi none) ty (.slice (sad ad cap i n) (j - i) (cap - i)) :=
  fun a v m F G _ _ _=>by
    cases lo<;>cases hi<;>simp only at h k
    · subst h k;simp[execOp,Instr.sliceAt,Instr.slice,A,B,m.ev C,Instr.sliceBounds,sad]
    · subst h;simp[execOp,Instr.sliceAt,Instr.slice,A,B,m.ev C,m.ev k,Instr.sliceBounds,Instr.sliceBound,asIntOf,E,sad]
    · subst k;simp[execOp,Instr.sliceAt,Instr.slice,A,B,m.ev C,m.ev h,Instr.sliceBounds,Instr.sliceBound,asIntOf,q,sad]
    · simp[execOp,Instr.sliceAt,Instr.slice,A,B,m.ev C,m.ev h,m.ev k,Instr.sliceBounds,Instr.sliceBound,asIntOf,q,E,sad]
theorem bA_.sad {v:Vw} {ad:Option Addr} {cs:List Value} {cap i n:Nat} (h:bA_ v ad cs) (e:List Value) (m:∀ j x,e[j]? = some x→cs[i*n+j]? = some x) (q:cs.length≤cap*n):bA_ v (sad ad cap i n) e:=by
 unfold Sx.sad
 split
 ·rename_i k
  subst k;left
  cases e with
  | nil=>rfl
  | cons d e =>
    have:=m 0 d rfl;rw[List.getElem?_eq_none za_]at this;cases this
 exact h.drop (i*n) e m
theorem bI_ {fn:Fn} {h ys:List Operand} {us vs:List Value} (k:Fr.evs fr h=some us) (m:Fr.evs fr ys=some vs):Yld P N fr H Γ (.makeFunc fn h.toArray ys.toArray) ty (.func fn us.toArray vs.toArray) :=
  fun a v e A y _ _ _=>by
    have q:=e.evs k;have x:=e.evs m;simp[execOp,Instr.makeFunc,q,x]
theorem ap_ {f:FuncId} {g:Operand} {first cap:List Value} {m:List Operand} {h:Array TypeId} {vs:List Value} {ι:Type} {Hc F:Hp} {k:List Fct} {e:ι→Value} {H':ι→Hp} {Γ':ι→List Fct}
    (y:Tri P f (first++vs++cap).toArray Hc k e H' Γ') (E:Fr.ev fr g=some (.func (.func f) first.toArray cap.toArray)) (G:Fr.evs fr m=some vs) (A:H.Perm (Hc++F)) (J:∀ v,v.sat H→Z_ Γ v→Z_ k v) (B:Nat.blt d N.n=true)
    (hk:∀ x,Ops P R N v0 H0 ops l K ((d,e x)::fr) (H' x++F) (Γ' x++Γ)) :
    Ops P R N v0 H0 ops (⟨some d,.call ⟨.value g,m.toArray,h⟩,ty,ps,af,none⟩::l) K fr H Γ :=
  ob_ y (fun a w q=>by
    have C:=q.evs G;have I:=y.callable (first++vs++cap).toArray w;simp only[execOp,resolve,Deferred.ofValue,q.ev E,invoke,List.map_toArray,C,Sem.run_bind,Sem.run_pure,Result.andThen_ok,List.append_toArray,I]) A J B hk
end ops
end Go.Sx
namespace Go.Sx
open Go
class NoPan (R:Exit→Act→World→Prop):Prop where
  st:∀ c a d x w,R (.panic c) (a.put d x) w→R (.panic c) a w
instance {P:Program} {fn:Func} {ι:Type} {v0:Vw} {H0:Hp} {ret:ι→Value} {H':ι→Hp} {Γ':ι→List Fct}:NoPan (bodyPost P fn (kj_ v0 H0 ret H' Γ')) :=
  ⟨fun c a d x w h=>by obtain⟨_,y,v',e,_⟩:=h;cases e⟩
instance {N:Nf} {v0:Vw} {H0:Hp} {ι:Type} {frs:ι→Fr} {Hs:ι→Hp} {Γs:ι→List Fct}:NoPan (Mid N v0 H0 frs Hs Γs) :=
  ⟨fun c a d x w h=>by cases h.1⟩
theorem jK_ {P:Program} {R:Exit→Act→World→Prop} [hR:NoPan R] {c:List PanicEntry} {a:Act} {d:Option Tmp} {x:Value} {w:World}:∀ (K:List Kt),post P R K (.panic c) (a.put d x) w→post P R K (.panic c) a w
  | [],h=>hR.st c a d x w h
  | .seq _::K,h=>jK_ K h
  | .inv _::K,h=>jK_ K h
  | .blk _::K,h=>jK_ K h
def SW (Hs:Hp) (Γs:List Fct) (w:World):Prop:=∃ v:Vw,v.w=w∧v.sat Hs∧Z_ Γs v
section any
variable {P:Program} {N:Nf} {v0:Vw} {H0:Hp} {R:Exit→Act→World→Prop} {K:List Kt} {fr:Fr} {H Hs:Hp} {Γ Γs:List Fct}
variable {ops:Array Oper} {d:Nat} {ty:TypeId} {ps:String} {af:Array Edge} {fuel:Nat} {listed:Array Bool}
abbrev Any (P:Program) (R:Exit→Act→World→Prop) (N:Nf) (v0:Vw) (H0:Hp) (ops:Array Oper) (Hs:Hp) (Γs:List Fct) (fuel:Nat) (listed:Array Bool) (K:List Kt) (fr:Fr) (H:Hp) (Γ:List Fct):Prop :=
  Ok N v0 H0 (wpAnyH P .any ops (post P R K) (SW Hs Γs) fuel listed) fr H Γ
theorem pQ_ {y:Nat} (Hs:Hp) (Γs:List Fct) (hm:P.follows .mixedOrders=true) (h:Any P R N v0 H0 ops Hs Γs ops.size (Array.replicate ops.size false) K fr H Γ):Run P R N v0 H0 (.region y ops true) K fr H Γ :=
  fun a v q m e x=>wp_region_held hm (by
    have k:v.le ⟨v.im,{ v.w with drawn:=v.w.drawn+1 },v.sl⟩:=⟨fun _ h=>h,fun _ _=>rfl,rfl⟩;exact h a ⟨v.im,{ v.w with drawn:=v.w.drawn+1 },v.sl⟩ q ⟨m.own,m.nodup,m.lt⟩ ⟨e.os,e.tape,e.output,e.size,e.block,e.imUp,e.imNew,e.hNew,e.sl,e.dr.imp (fun h=>h) fun h=>Nat.le_succ_of_le h⟩ (ao_ k x))
theorem nQ_ {e:Nat} (hm:P.follows .mixedOrders=true) (h:Any P R N v0 H0 ops H Γ ops.size (Array.replicate ops.size false) K fr H Γ):Run P R N v0 H0 (.region e ops true) K fr H Γ:=pQ_ H Γ hm h
theorem Vw.sat.tail {v:Vw} {p:Nat×Obj} (h:v.sat (p::H)):v.sat H :=
  ⟨fun x e=>h.own x (List.mem_cons_of_mem _ e),by have:=h.nodup;rw[List.map_cons,List.nodup_cons]at this;exact this.2,h.lt⟩
theorem pr_ [NoPan R] (i:Nat) {e:Oper} {x:Value} (hi:ops[i]? = some e) (J:Region.noSelect ops=true) (F:Region.free .any ops listed i=true) (y:(Region.ready .any ops listed).contains i=true)
    (C:e.dst=some d) (E:Nat.blt d N.n=true) (A:∀ a,Fr.sat N fr a→YieldsIf P ops (SW Hs Γs) e x a) (G:∀ v,v.sat H→Z_ Γ v→v.sat Hs∧Z_ Γs v)
    (h:Any P R N v0 H0 ops Hs Γs fuel (listed.setIfInBounds i true) K ((d,x)::fr) H Γ):Any P R N v0 H0 ops Hs Γs (fuel+1) listed K fr H Γ :=
  fun a v q k B m=>wpAnyH_take hi J F y (fun c a w I=>jK_ K I) (A a q) ⟨v,rfl,G v k m⟩ (by
    rw[C];exact h _ v (q.put E) k B m)
theorem wk_ [NoPan R] (i:Nat) {k:Op} {x:Value} (hi:ops[i]? = some ⟨some d,k,ty,ps,af,none⟩) (E:Region.noSelect ops=true) (A:Region.free .any ops listed i=true) (m:(Region.ready .any ops listed).contains i=true)
    (y:Yld P N fr Hs Γs k ty x) (q:Nat.blt d N.n=true) (B:∀ v,v.sat H→Z_ Γ v→v.sat Hs∧Z_ Γs v)
    (h:Any P R N v0 H0 ops Hs Γs fuel (listed.setIfInBounds i true) K ((d,x)::fr) H Γ):Any P R N v0 H0 ops Hs Γs (fuel+1) listed K fr H Γ :=
  pr_ i hi E A m rfl q (fun a C=>.inl ⟨rfl,fun w ⟨v,e,k1,k2⟩=>by subst e;exact y a v C k1 k2 (some d) ps af⟩) B h
theorem ub_ [NoPan R] (i:Nat) {m:Op} {x:Value} {j t:Nat} {k:Bool} (hi:ops[i]? = some ⟨some d,m,ty,ps,af,some (j,k)⟩) (F:Region.noSelect ops=true) (C:Region.free .any ops listed i=true) (y:(Region.ready .any ops listed).contains i=true)
    (A:ip_ ops j=some t) (G:Fr.get fr t=some (.bool k)) (I:Yld P N fr Hs Γs m ty x) (B:Nat.blt d N.n=true) (E:∀ v,v.sat H→Z_ Γ v→v.sat Hs∧Z_ Γs v)
    (h:Any P R N v0 H0 ops Hs Γs fuel (listed.setIfInBounds i true) K ((d,x)::fr) H Γ):Any P R N v0 H0 ops Hs Γs (fuel+1) listed K fr H Γ :=
  pr_ i hi F C y rfl B (fun a q=>.inl ⟨by simp[Region.wanted,hf_ q A G],fun w ⟨v,e,k1,k2⟩=>by subst e;exact I a v q k1 k2 (some d) ps af⟩) E h
theorem any_no [NoPan R] (i:Nat) {q:Op} {x:Value} {j t:Nat} {e:Bool} (hi:ops[i]? = some ⟨some d,q,ty,ps,af,some (j,e)⟩) (E:Region.noSelect ops=true) (B:Region.free .any ops listed i=true) (k:(Region.ready .any ops listed).contains i=true)
    (y:ip_ ops j=some t) (F:Fr.get fr t=some x) (m:(match x with|.bool b=>Bool.xor b e|_=>true)=true) (A:Nat.blt d N.n=true) (C:∀ v,v.sat H→Z_ Γ v→v.sat Hs∧Z_ Γs v)
    (h:Any P R N v0 H0 ops Hs Γs fuel (listed.setIfInBounds i true) K ((d,undef)::fr) H Γ):Any P R N v0 H0 ops Hs Γs (fuel+1) listed K fr H Γ :=
  pr_ i hi E B k rfl A (fun a G=>.inr ⟨by
    simp only[Region.wanted,hf_ G y F];cases x<;>first|rfl|(rename_i b;cases b<;>cases e<;>simp_all),rfl⟩) C h
def iB_ (ops:Array Oper):Array Bool→List Nat→Bool
  | _,[]=>true
  | listed,i::is=>Region.free .any ops listed i&&((Region.ready .any ops listed).contains i&&iB_ ops (listed.setIfInBounds i true) is)
def Sq (P:Program) (R:Exit→Act→World→Prop) (N:Nf) (v0:Vw) (H0:Hp) (ops:Array Oper) (Hs:Hp) (Γs:List Fct) (is:List Nat) (fuel:Nat) (listed:Array Bool) (K:List Kt) (fr:Fr) (H:Hp) (Γ:List Fct):Prop :=
  (Region.noSelect ops&&iB_ ops listed is)=true→(∀ v,v.sat H→Z_ Γ v→v.sat Hs∧Z_ Γs v)→Any P R N v0 H0 ops Hs Γs (fuel+is.length) listed K fr H Γ
theorem J_ (fuel:Nat) (e:List Nat) (m:(Region.noSelect ops&&iB_ ops listed e)=true) (k:∀ v,v.sat H→Z_ Γ v→v.sat Hs∧Z_ Γs v) (h:Sq P R N v0 H0 ops Hs Γs e fuel listed K fr H Γ):Any P R N v0 H0 ops Hs Γs (fuel+e.length) listed K fr H Γ:=h m k
theorem bv_ (h:Any P R N v0 H0 ops Hs Γs fuel listed K fr H Γ):Sq P R N v0 H0 ops Hs Γs [] fuel listed K fr H Γ:=fun _ _=>h
theorem mr_ {i:Nat} {e:List Nat} (h:(Region.noSelect ops&&iB_ ops listed (i::e))=true):Region.noSelect ops=true∧Region.free .any ops listed i=true∧(Region.ready .any ops listed).contains i=true∧(Region.noSelect ops&&iB_ ops (listed.setIfInBounds i true) e)=true:=by
  simp only[iB_,Bool.and_eq_true]at h ⊢;exact⟨h.1,h.2.1,h.2.2.1,h.1,h.2.2.2⟩
theorem N_ [NoPan R] {i:Nat} {m:List Nat} {e:Op} {x:Value} (hi:ops[i]? = some ⟨some d,e,ty,ps,af,none⟩) (A:Yld P N fr Hs Γs e ty x) (y:Nat.blt d N.n=true)
    (h:Sq P R N v0 H0 ops Hs Γs m fuel (listed.setIfInBounds i true) K ((d,x)::fr) H Γ):Sq P R N v0 H0 ops Hs Γs (i::m) fuel listed K fr H Γ:=fun E k=>by
  obtain⟨B,C,q,v⟩:=mr_ E;exact wk_ i hi B C q A y k (h v k)
theorem fl_ [NoPan R] {i:Nat} {k:List Nat} {e:Op} {X:Bool} (hi:ops[i]? = some ⟨some d,e,ty,ps,af,none⟩) (q:Yld P N fr Hs Γs e ty (.bool X)) (m:Nat.blt d N.n=true)
    (h:∀ r:Bool,X=r→Sq P R N v0 H0 ops Hs Γs k fuel (listed.setIfInBounds i true) K ((d,.bool r)::fr) H Γ):Sq P R N v0 H0 ops Hs Γs (i::k) fuel listed K fr H Γ:=N_ hi q m (h X rfl)
theorem bu_ [NoPan R] {i:Nat} {q:List Nat} {k:Op} {x:Value} {j t:Nat} {e:Bool} (hi:ops[i]? = some ⟨some d,k,ty,ps,af,some (j,e)⟩) (A:ip_ ops j=some t) (E:Fr.get fr t=some (.bool e)) (F:Yld P N fr Hs Γs k ty x) (B:Nat.blt d N.n=true)
    (h:Sq P R N v0 H0 ops Hs Γs q fuel (listed.setIfInBounds i true) K ((d,x)::fr) H Γ):Sq P R N v0 H0 ops Hs Γs (i::q) fuel listed K fr H Γ:=fun C m=>by
  obtain⟨G,I,v,y⟩:=mr_ C;exact ub_ i hi G I v A E F B m (h y m)
theorem eh_ [NoPan R] {i:Nat} {m:List Nat} {k:Op} {X:Bool} {j t:Nat} {e:Bool} (hi:ops[i]? = some ⟨some d,k,ty,ps,af,some (j,e)⟩) (v:ip_ ops j=some t) (q:Fr.get fr t=some (.bool e)) (y:Yld P N fr Hs Γs k ty (.bool X)) (x:Nat.blt d N.n=true)
    (h:∀ r:Bool,X=r→Sq P R N v0 H0 ops Hs Γs m fuel (listed.setIfInBounds i true) K ((d,.bool r)::fr) H Γ):Sq P R N v0 H0 ops Hs Γs (i::m) fuel listed K fr H Γ:=bu_ hi v q y x (h X rfl)
theorem sq_no [NoPan R] {i:Nat} {q:List Nat} {v:Op} {x:Value} {j t:Nat} {e:Bool} (hi:ops[i]? = some ⟨some d,v,ty,ps,af,some (j,e)⟩) (B:ip_ ops j=some t) (F:Fr.get fr t=some x) (k:(match x with|.bool b=>Bool.xor b e|_=>true)=true) (C:Nat.blt d N.n=true)
    (h:Sq P R N v0 H0 ops Hs Γs q fuel (listed.setIfInBounds i true) K ((d,undef)::fr) H Γ):Sq P R N v0 H0 ops Hs Γs (i::q) fuel listed K fr H Γ:=fun E m=>by
  obtain⟨G,I,y,A⟩:=mr_ E;exact any_no i hi G I y B F k C m (h A m)
def Nx (P:Program) (R:Exit→Act→World→Prop) (ops:Array Oper) (Hs:Hp) (Γs:List Fct) (fuel:Nat) (listed:Array Bool) (K:List Kt) (a:Act) (w:World):Prop :=
  SW Hs Γs w∧wpAnyH P .any ops (post P R K) (SW Hs Γs) fuel listed a w
theorem s_ (i:Nat) {o:Oper} (hi:ops[i]? = some o) (m:Region.ready .any ops listed=[i]) (h:Ops P R N v0 H0 ops [o] (.inv (Nx P R ops Hs Γs fuel (listed.setIfInBounds i true) K)::K) fr H Γ):Any P R N v0 H0 ops Hs Γs (fuel+1) listed K fr H Γ:=by
 intro a v A B y C;refine wpAnyH_all m zj_ fun j k=>?_;simp only[List.mem_singleton]at k;subst k;have:=h a v A B y C;unfold wpOp;simp only[hi];unfold wpList at this
 split
 ·rename_i e
  rw[if_pos e]at this;rcases this with q|q
  ·left
   unfold Oper.wp at q ⊢;generalize (execOp a.eval o).run P v.w=r at q ⊢
   cases r with
   | ok n w' =>
     cases n<;>simp only[Oper.upon]at q ⊢<;>exact q
   | halt x w' =>
     cases x<;>simp only[Oper.upon]at q ⊢
     case panic u=>exact q
  exact .inr q
 rename_i e
 rw[if_neg e]at this;exact this
theorem O_ (q:∀ v,v.sat H→Z_ Γ v→v.sat Hs∧Z_ Γs v) (h:Any P R N v0 H0 ops Hs Γs fuel listed K fr H Γ):Ok N v0 H0 (Nx P R ops Hs Γs fuel listed K) fr H Γ :=
  fun a v x e m k=>⟨⟨v,rfl,q v e k⟩,h a v x e m k⟩
theorem qY_ (e:Region.ready .any ops listed=[]) (h:Fin P R N v0 H0 K fr H Γ):Any P R N v0 H0 ops Hs Γs fuel listed K fr H Γ :=
  fun a v m q k x=>wpAnyH_done e (h a v m q k x) fuel
theorem fg_ {α:Type} [BEq α] [LawfulBEq α] {a b:α} (h:(a != b)=true):a≠b:=by simpa using h
theorem fi_ {α:Type} [BEq α] [LawfulBEq α] {a b:α} (h:(a != b)=false):a=b:=by simpa using h
theorem wV_ {N:Nat} {fn:Func} {t s u:Nat} {ι:Type} {F:Hp} {ret:ι→Value} {H':ι→Hp} {Γ':ι→List Fct} {A y q:Value} (B:fn.results=#[.tmp t,.tmp s,.tmp u]) (x:ι) (m:Fr.get fr t=some A) (h:Fr.get fr s=some y) (k:Fr.get fr u=some q) (M:.tuple #[A,y,q]=ret x) (C:H.Perm (H' x++F))
    (Q:∀ v,v.sat H→Z_ Γ v→Z_ (Γ' x) v):Ok N v0 H0 (bodyPost P fn (kj_ v0 H0 ret H' Γ') .ret) fr H Γ :=
  dG_ C Q fun a v e I E L=>⟨e.defers,ret x,by rw[← M];have G:=e.val t _ m;have O:=e.val s _ h;have J:=e.val u _ k;simp[results,B,G,O,J],x,v,rfl,rfl,I,L,E⟩
theorem hw_ {f:FuncId} {args:Array Value} {r:Value} (y:ha_ P f) (h:∀ w,Calls P f args w fun e w'=>e=.returned r∧w'.heap=w.heap∧w'.os=w.os∧w'.tape=w.tape∧w'.output=w.output∧w.drawn≤w'.drawn):Fn0 P f args r :=
  ⟨y,fun v B _=>(h v.w).mono fun e w' ⟨A,k,C,q,E,x⟩=>⟨(),⟨v.im,w',v.sl⟩,A,rfl,⟨by simp,by simp,fun b m=>by show b<w'.heap.size;rw[k];exact B.lt b m⟩,trivial,
    ⟨C,q,E,by simp[k],fun b _ _=>by show w'.heap[b]? = _;rw[k],fun _ h=>h,fun _ h=>.inl h,fun _ h=>by simp at h,rfl,.inr x⟩⟩⟩
theorem bH_ {f:FuncId} {g:Operand} {first cap:List Value} {l:List Oper} {k:List Operand} {e:Array TypeId} {vs:List Value} {Hc F:Hp} {h:List Fct} {X:Bool}
    (A:Tri P f (first++vs++cap).toArray Hc h (fun _:Unit=>.bool X) (fun _=>Hc) (fun _=>[])) (x:Fr.ev fr g=some (.func (.func f) first.toArray cap.toArray)) (y:Fr.evs fr k=some vs) (m:H.Perm (Hc++F)) (B:∀ v,v.sat H→Z_ Γ v→Z_ h v) (q:Nat.blt d N.n=true)
    (hk:∀ r:Bool,X=r→Ops P R N v0 H0 ops l K ((d,.bool r)::fr) (Hc++F) Γ) :
    Ops P R N v0 H0 ops (⟨some d,.call ⟨.value g,k.toArray,e⟩,ty,ps,af,none⟩::l) K fr H Γ :=
  ap_ A x y m B q fun _=>hk X rfl
theorem z_ {k:Act→World→Prop} {H':Hp} (e:H.Perm H') (h:Ok N v0 H0 k fr H' Γ):Ok N v0 H0 k fr H Γ :=
  fun a v x y m A=>h a v x (y.perm e) (m.subR fun b q=>(e.map Prod.fst).mem_iff.2 q) A
theorem go_:∀ {H:Hp} {i:Nat} {p:Nat×Obj},H[i]? = some p→H.Perm (p::H.eraseIdx i)
  | [],i,p,h=>by simp at h
  | x::H,0,p,h=>by simp at h;subst h;exact .refl _
  | x::H,i+1,p,h=>by
    have:=go_ (H:=H) (i:=i) (p:=p) zM_;exact (List.Perm.cons x this).trans (List.Perm.swap p x _)
theorem qc_:∀ {H:Hp} {i:Nat} {p q:Nat×Obj},H[i]? = some p→(q::H.eraseIdx i).Perm (H.set i q)
  | [],i,p,q,h=>by simp at h
  | x::H,0,p,q,h=>by exact .refl _
  | x::H,i+1,p,q,h=>by
    have:=qc_ (H:=H) (i:=i) (p:=p) (q:=q) zM_;exact (List.Perm.swap x q _).trans (List.Perm.cons x this)
theorem tD_ {f:FuncId} {l:List Oper} {k:List Operand} {e:Array TypeId} {vs:List Value} (i:Nat) {b:Nat} {o o':Obj} {h:List Fct} {r:Value}
    (x:Tri P f vs.toArray [(b,o)] h (fun _:Unit=>r) (fun _=>[(b,o')]) (fun _=>[])) (q:Fr.evs fr k=some vs) (hi:H[i]? = some (b,o)) (y:∀ v,v.sat H→Z_ Γ v→Z_ h v) (m:Nat.blt d N.n=true)
    (hk:Ops P R N v0 H0 ops l K ((d,r)::fr) (H.set i (b,o')) Γ) :
    Ops P R N v0 H0 ops (⟨some d,.call ⟨.value (.func f),k.toArray,e⟩,ty,ps,af,none⟩::l) K fr H Γ :=
  g_ x q (go_ hi) y m fun _=>z_ (qc_ hi) hk
theorem mL_ {f:FuncId} {l:List Oper} {k:List Operand} {e:Array TypeId} {vs:List Value} (i:Nat) {b:Nat} {o o':Obj} {h:List Fct} {X:Bool}
    (x:Tri P f vs.toArray [(b,o)] h (fun _:Unit=>.bool X) (fun _=>[(b,o')]) (fun _=>[])) (q:Fr.evs fr k=some vs) (hi:H[i]? = some (b,o)) (y:∀ v,v.sat H→Z_ Γ v→Z_ h v) (m:Nat.blt d N.n=true)
    (hk:∀ r:Bool,X=r→Ops P R N v0 H0 ops l K ((d,.bool r)::fr) (H.set i (b,o')) Γ) :
    Ops P R N v0 H0 ops (⟨some d,.call ⟨.value (.func f),k.toArray,e⟩,ty,ps,af,none⟩::l) K fr H Γ :=
  tD_ i x q hi y m (hk X rfl)
end any
end Go.Sx
namespace Go.Sx
open Go
structure Opn (F:Fence):Prop where
  fn:∀ f,F.fn f
  depth:F.depth=none
theorem cX_:Opn Fence.wide:=⟨fun _=>trivial,rfl⟩
theorem K_ (l:Nat):Opn (Fence.wide.inRound l):=⟨fun _=>trivial,rfl⟩
theorem pn_ {F:Fence} {n:Nat} {P:Program} {f:FuncId} {args:Array Value} {w:World} {R:Ending→World→Prop} (h:Calls P f args w R) (l:Nat):CallsIn (Fence.wide.inRound l) n P f args w R :=
  (callsIn_wide (n:=n)).2 h
structure SatD (N:Nat) (D:List Deferred) (fr:Fr) (a:Act):Prop where
  sat:Fr.sat N fr ⟨a.tmps,[]⟩
  defers:a.defers=D
theorem SatD.put {N:Nat} {D:List Deferred} {fr:Fr} {a:Act} {d:Nat} {x:Value} (h:SatD N D fr a) (e:Nat.blt d N=true):SatD N D ((d,x)::fr) (a.put (some d) x) :=
  ⟨h.sat.put e,h.defers⟩
def OkD (N:Nat) (D:List Deferred) (v0:Vw) (H0:Hp) (k:Act→World→Prop) (fr:Fr) (H:Hp) (Γ:List Fct):Prop :=
  ∀ a v,SatD N D fr a→v.sat H→v0.to H0 v H→Z_ Γ v→k a v.w
def ee_ (F:Fence) (n:Nat) (P:Program) (R:Exit→Act→World→Prop):List Kt→Exit→Act→World→Prop
  | [],e,a,w=>R e a w
  | .seq c::K,.normal,a,w=>c.wpIn F n P (ee_ F n P R K) a w
  | .seq _::K,e,a,w=>ee_ F n P R K e a w
  | .inv J::_,.normal,a,w=>J a w
  | .inv _::K,e,a,w=>ee_ F n P R K e a w
  | .blk id::K,.exit id',a,w=>if id'=id then ee_ F n P R K .normal a w else ee_ F n P R K (.exit id') a w
  | .blk _::K,e,a,w=>ee_ F n P R K e a w
section code
variable {F:Fence} {n:Nat} {P:Program} {N:Nat} {D:List Deferred} {v0:Vw} {H0:Hp} {R:Exit→Act→World→Prop} {K:List Kt} {fr:Fr} {H:Hp} {Γ:List Fct}
theorem nX_ (K:List Kt) (a:Act) (w:World) (h:R .ret a w):ee_ F n P R K .ret a w:=by
  induction K with
  | nil=>exact h
  | cons x K ih=>cases x<;>exact ih
theorem mE_ {c:Code} {e:List Kt} {a:Act} {w:World}:∀ {K:List Kt},nxt K=some (c,e)→c.wpIn F n P (ee_ F n P R e) a w→ee_ F n P R K .normal a w
  | [],h,_=>by simp[nxt]at h
  | .seq _::K,h,hp=>by simp only[nxt,Option.some.injEq,Prod.mk.injEq]at h;obtain⟨rfl,rfl⟩:=h;exact hp
  | .blk _::K,h,hp=>mE_ (K:=K) (by simpa [nxt] using h) hp
  | .inv _::K,h,_=>by simp[nxt]at h
theorem nY_ {a:Act} {w:World}:∀ {K:List Kt},fY_ K=true→R .normal a w→ee_ F n P R K .normal a w
  | [],_,hp=>hp
  | .inv _::K,h,_=>by simp[fY_]at h
  | .blk _::K,h,hp=>nY_ (K:=K) (by simpa [fY_] using h) hp
  | .seq _::K,h,_=>by simp[fY_]at h
abbrev ix_ (F:Fence) (n:Nat) (P:Program) (R:Exit→Act→World→Prop) (N:Nat) (D:List Deferred) (v0:Vw) (H0:Hp) (c:Code) (K:List Kt) (fr:Fr) (H:Hp) (Γ:List Fct):Prop :=
  OkD N D v0 H0 (c.wpIn F n P (ee_ F n P R K)) fr H Γ
abbrev sh_ (F:Fence) (n:Nat) (P:Program) (R:Exit→Act→World→Prop) (N:Nat) (D:List Deferred) (v0:Vw) (H0:Hp) (K:List Kt) (fr:Fr) (H:Hp) (Γ:List Fct):Prop :=
  OkD N D v0 H0 (ee_ F n P R K .normal) fr H Γ
abbrev fC_ (F:Fence) (n:Nat) (P:Program) (R:Exit→Act→World→Prop) (N:Nat) (D:List Deferred) (v0:Vw) (H0:Hp) (ops:Array Oper) (l:List Oper) (K:List Kt) (fr:Fr) (H:Hp) (Γ:List Fct):Prop :=
  OkD N D v0 H0 (wpListIn F n P ops (ee_ F n P R K) l) fr H Γ
theorem cV_ {x y:Code} (h:ix_ F n P R N D v0 H0 x (.seq y::K) fr H Γ):ix_ F n P R N D v0 H0 (.seq x y) K fr H Γ :=
  fun a v m q k B=>wpIn_seq (wpIn_mono (h a v m q k B) fun e a w A=>by cases e<;>exact A)
theorem ep_ {k:Nat} {c:Code} (h:ix_ F n P R N D v0 H0 c (.blk k::K) fr H Γ):ix_ F n P R N D v0 H0 (.block k c) K fr H Γ :=
  fun a v x y m q=>wpIn_block (wpIn_mono (h a v x y m q) fun e a w A=>by cases e<;>exact A)
theorem nR_ (h:sh_ F n P R N D v0 H0 K fr H Γ):ix_ F n P R N D v0 H0 .skip K fr H Γ :=
  fun a v e m k q=>wpIn_skip (h a v e m k q)
theorem my_ (h:OkD N D v0 H0 (R .ret) fr H Γ):ix_ F n P R N D v0 H0 .ret K fr H Γ :=
  fun a v e m k q=>wpIn_ret (nX_ K a v.w (h a v e m k q))
theorem cd_ {c:Code} {e:List Kt} (x:nxt K=some (c,e)) (h:ix_ F n P R N D v0 H0 c e fr H Γ):sh_ F n P R N D v0 H0 K fr H Γ :=
  fun a v m q k y=>mE_ x (h a v m q k y)
theorem do_ (q:fY_ K=true) (h:OkD N D v0 H0 (R .normal) fr H Γ):sh_ F n P R N D v0 H0 K fr H Γ :=
  fun a v k m e x=>nY_ q (h a v k m e x)
theorem aI_ {x:Nat} {l:List Oper} (h:fC_ F n P R N D v0 H0 l.toArray l K fr H Γ):ix_ F n P R N D v0 H0 (.region x l.toArray false) K fr H Γ :=
  fun a v k m e q=>wpIn_region_lit (h a v k m e q)
theorem bn_ {ops:Array Oper} (h:sh_ F n P R N D v0 H0 K fr H Γ):fC_ F n P R N D v0 H0 ops [] K fr H Γ :=
  fun a v k m e q=>wpListIn_nil (h a v k m e q)
theorem fq_ {c:Operand} {x y:Code} (m:Fr.ev fr c=some (.bool true)) (h:ix_ F n P R N D v0 H0 x K fr H Γ):ix_ F n P R N D v0 H0 (.cond c x y) K fr H Γ :=
  fun a v e q k A=>wpIn_cond_true (e.sat.ev m) (h a v e q k A)
theorem ll_ {c:Operand} {x y:Code} (m:Fr.ev fr c=some (.bool false)) (h:ix_ F n P R N D v0 H0 y K fr H Γ):ix_ F n P R N D v0 H0 (.cond c x y) K fr H Γ :=
  fun a v e q k A=>wpIn_cond_false (e.sat.ev m) (h a v e q k A)
def mR_:Op→Bool
  | .defer _=>false
  | _=>true
theorem semAt_eq {o:Oper} (h:mR_ o.op=true) (ro:Option Nat) (ρ:Operand→Value):o.semAt ro ρ=execOp ρ o :=
  Oper.semAt_eq ro ρ o (fun c e=>by rw[e]at h;cases h)
variable {ops:Array Oper} {l:List Oper} {d:Nat} {ty:TypeId} {ps:String} {af:Array Edge}
theorem re_ {o:Oper} {a:Act} {w:World} {B A:Act→World→Prop} {Q:Exit→Act→World→Prop} (y:∀ a w,B a w→A a w) (h:o.wpIn F n P a w B Q):o.wpIn F n P a w A Q:=by
  refine⟨h.1,?_⟩;have k:=h.2;generalize (o.semAt F.round a.eval).run P w=r at k ⊢
  cases r with
  | ok nx w' =>
    cases nx<;>simp only[Oper.uponIn]at k ⊢<;>first|exact y _ _ k|exact k|skip
    case enter f args=>exact⟨k.1,k.2.mono fun e q m=>by cases e<;>first|exact y _ _ m|exact m⟩
    case row row args=>exact⟨k.1,k.2.mono fun v q m=>y _ _ m⟩
    case round l f tmps assign body=>exact⟨k.1,k.2.mono fun e q m=>by cases e<;>first|exact y _ _ m|exact m⟩
  | halt x w'=>cases x<;>simp only[Oper.uponIn]at k ⊢<;>exact k
theorem dY_ {o:Oper} (x:o.guard=none) (h:∀ a v,SatD N D fr a→v.sat H→v0.to H0 v H→Z_ Γ v→o.wpIn F n P a v.w (wpListIn F n P ops (ee_ F n P R K) l) (ee_ F n P R K)) :
    fC_ F n P R N D v0 H0 ops (o::l) K fr H Γ :=
  fun a v k m e q=>wpListIn_plain x fun A y=>re_ y (h a v k m e q)
theorem R_ {e:Op} {x:Value} (C:Opn F) (B:Yld P N fr H Γ e ty x) (h:mR_ e=true) (A:Nat.blt d N=true)
    (hk:fC_ F n P R N D v0 H0 ops l K ((d,x)::fr) H Γ):fC_ F n P R N D v0 H0 ops (⟨some d,e,ty,ps,af,none⟩::l) K fr H Γ :=
  dY_ rfl fun a v k m y q=>by
    refine⟨fun f _=>C.fn f,?_⟩;rw[semAt_eq h];have:=B ⟨a.tmps,[]⟩ v k.sat m q (some d) ps af;rw[show a.eval=Act.eval ⟨a.tmps,[]⟩ from rfl,this];exact hk _ v (k.put A) m y q
theorem tE_ {e:Op} {X:Bool} (m:Opn F) (k:Yld P N fr H Γ e ty (.bool X)) (h:mR_ e=true) (q:Nat.blt d N=true)
    (hk:∀ r:Bool,X=r→fC_ F n P R N D v0 H0 ops l K ((d,.bool r)::fr) H Γ):fC_ F n P R N D v0 H0 ops (⟨some d,e,ty,ps,af,none⟩::l) K fr H Γ :=
  R_ m k h q (hk X rfl)
theorem mM_ {t:TypeId} {z:Value} (x:Opn F) (k:∀ w,(zeroValue t).run P w=.ok z w) (q:Nat.blt d N=true)
    (hk:∀ b,fC_ F n P R N D v0 H0 ops l K ((d,.pointer (some ⟨b,0,none⟩))::fr) ((b,.cells z.cells t (0,0))::H) Γ):fC_ F n P R N D v0 H0 ops (⟨some d,.alloc t,ty,ps,af,none⟩::l) K fr H Γ :=
  dY_ rfl fun a v C e m y=>by
    refine⟨fun f _=>x.fn f,?_⟩;rw[semAt_eq rfl]
    have B:(execOp a.eval ⟨some d,.alloc t,ty,ps,af,none⟩).run P v.w=.ok (.value (.pointer (some ⟨v.w.heap.size,0,none⟩))) (v.w.alloc (.cells z.cells t (0,0))):=by
      simp[execOp,k,Instr.alloc,newVar,newRow,newObj];rfl
    rw[B];obtain⟨A,h⟩:=fE_ (w':=v.w.alloc (.cells z.cells t (0,0))) (o:=.cells z.cells t (0,0)) e rfl rfl rfl rfl (Nat.le_refl _);exact hk v.w.heap.size _ ⟨v.im,_,v.sl⟩ (C.put q) A (m.trans h) (ao_ (h.le e) y)
theorem fW_ {t:TypeId} {x y:Operand} {b off m:Nat} (L:Opn F) (i:Nat) {cur:Array Value} {T:TypeId} {u:Value} (J:∀ w,(sizeOf t).run P w=.ok m w)
    (W:Fr.ev fr x=some (.pointer (some ⟨b,off,none⟩))) (G:Fr.ev fr y=some u) (hi:H[i]? = some (b,.cells cur T (0,0))) (h:u.cells.size=m) (S:Nat.ble (off+m) cur.size=true) (A:u.cells.toList.all Value.oneCell'=true)
    (hk:fC_ F n P R N D v0 H0 ops l K fr (H.set i (b,.cells (cur.toList.take off++u.cells.toList++cur.toList.drop (off+m)).toArray T (0,0))) Γ) :
    fC_ F n P R N D v0 H0 ops (⟨none,.store t x y,ty,ps,af,none⟩::l) K fr H Γ :=
  dY_ rfl fun a v B q Q U=>by
    refine⟨fun f _=>L.fn f,?_⟩;rw[semAt_eq rfl];have C:=(q.own _ (List.mem_of_getElem? hi)).1;have e:=run_storeCells_at P b off T u.cells.toList 0 cur v.w C (by simp[h];exact Nat.le_of_ble_eq_true S) (fun c M=>List.all_eq_true.1 A c M)
    have X:(execOp a.eval ⟨none,.store t x y,ty,ps,af,none⟩).run P v.w=.ok .skip (v.w.setRow b (cur.toList.take off++u.cells.toList++cur.toList.drop (off+m)).toArray):=by
      simp only[Nat.add_zero,Array.length_toList,h]at e;have I:a.eval x=.pointer (some ⟨b,off,none⟩):=B.sat.ev W;have O:a.eval y=u:=B.sat.ev G;simp[execOp,I,O,Instr.storeAt,Instr.sureAddr,storeVar,J,h,e]
    rw[X];obtain⟨V,E⟩:=eF_ (w':=v.w.setRow b (cur.toList.take off++u.cells.toList++cur.toList.drop (off+m)).toArray) q hi rfl rfl rfl (Nat.le_refl _) zj_ (setRow_heap _ _ _ _ _ _ C) (fun k hk=>setRow_other _ _ _ _ hk);exact hk a _ B V (Q.trans E) (ao_ (E.le q) U)
theorem tG_ {r:Nat} {f:FuncId} {y:List Operand} {q:Array TypeId} {vs:List Value} {ι:Type} {Hc G:Hp} {C:List Fct} {m:ι→Value} {H':ι→Hp} {Γ':ι→List Fct}
    (A:Tri P f vs.toArray Hc C m H' Γ') (U:Fr.evs fr y=some vs) (B:H.Perm (Hc++G)) (X:∀ v,v.sat H→Z_ Γ v→Z_ C v) (S:Nat.blt d N=true)
    (hk:∀ x,fC_ (Fence.wide.inRound r) n P R N D v0 H0 ops l K ((d,m x)::fr) (H' x++G) (Γ' x++Γ)) :
    fC_ (Fence.wide.inRound r) n P R N D v0 H0 ops (⟨some d,.call ⟨.value (.func f),y.toArray,q⟩,ty,ps,af,none⟩::l) K fr H Γ :=
  dY_ rfl fun a v J E Q I=>by
    refine⟨fun f _=>trivial,?_⟩;rw[semAt_eq rfl]
    have V:(execOp a.eval ⟨some d,.call ⟨.value (.func f),y.toArray,q⟩,ty,ps,af,none⟩).run P v.w=.ok (.enter f vs.toArray) v.w:=by
      have M:y.map a.eval=vs:=J.sat.evs U;simp[execOp,resolve,Deferred.ofValue,Act.eval,invoke,M,A.callable _ v.w]
    rw[V];have k:=E.perm B;refine⟨fun h=>(by cases h),(pn_ (F:=Fence.wide) (A.run v k.sub (X v E I)) r).mono ?_⟩;rintro e w' ⟨x,L,rfl,rfl,T,O,W⟩;obtain⟨k1,k2⟩:=W.frame k T;exact hk x _ L (J.put S) k1 (Q.trans (k2.permL B.symm)) (eL_.2 ⟨O,ao_ (k2.le k) I⟩)
def iT_ (P:Program) (l:Nat) (x:Value) (H:Hp) (Γ:List Fct) {ι:Type} (ret:ι→Value) (H':ι→Hp) (Γ':ι→List Fct):Prop :=
  ∀ v,v.sat H→Z_ Γ v→∃ fn tmps assign body,(Instr.yield l #[x]).run P v.w=.ok (.round l fn tmps assign body) v.w ∧
    ∀ n,RoundIn Fence.wide n P l fn tmps assign body v.w fun e w'=>∃ x v',e=.returned (ret x)∧v'.w=w'∧v'.sat (H' x)∧Z_ (Γ' x) v'∧v.to H v' (H' x)
theorem hq_ {r:Nat} {g y:Operand} {C:Array TypeId} {u:Value} {ι:Type} {Hc G:Hp} {L:List Fct} {q:ι→Value} {H':ι→Hp} {Γ':ι→List Fct}
    (W:iT_ P r u Hc L q H' Γ') (hg:Fr.ev fr g=some (.func (.yield r) #[] #[])) (Q:Fr.ev fr y=some u) (J:H.Perm (Hc++G)) (hΓ:∀ v,v.sat H→Z_ Γ v→Z_ L v) (Y:Nat.blt d N=true)
    (hk:∀ x,fC_ Fence.wide n P R N D v0 H0 ops l K ((d,q x)::fr) (H' x++G) (Γ' x++Γ)) :
    fC_ Fence.wide n P R N D v0 H0 ops (⟨some d,.call ⟨.value g,#[y],C⟩,ty,ps,af,none⟩::l) K fr H Γ :=
  dY_ rfl fun a v I M X O=>by
    refine⟨fun f _=>trivial,?_⟩;rw[semAt_eq rfl];have m:=M.perm J;obtain⟨fn,B,k,A,E,Z⟩:=W v m.sub (hΓ v M O)
    have he:(execOp a.eval ⟨some d,.call ⟨.value g,#[y],C⟩,ty,ps,af,none⟩).run P v.w=.ok (.round r fn B k A) v.w:=by
      have T:a.eval g=.func (.yield r) #[] #[]:=I.sat.ev hg;have V:a.eval y=u:=I.sat.ev Q;simp[execOp,resolve,Deferred.ofValue,T,V,invoke,E]
    rw[he];refine⟨fun h=>(by cases h),(Z _).mono ?_⟩;rintro e w' ⟨x,S,rfl,rfl,g1,U,g3⟩;obtain⟨k1,k2⟩:=g3.frame m g1;exact hk x _ S (I.put Y) k1 (X.trans (k2.permL J.symm)) (eL_.2 ⟨U,ao_ (k2.le m) O⟩)
theorem gB_ {k:Act→World→Prop}:OkD N [] v0 H0 k fr H Γ↔Ok N v0 H0 k fr H Γ :=
  ⟨fun h a v e q m x=>h a v ⟨⟨e.size,rfl,e.val⟩,e.defers⟩ q m x,fun h a v e q m x=>h a v ⟨e.sat.size,e.defers,e.sat.val⟩ q m x⟩
end code
end Go.Sx
