/-
  Lemmas for the law ModuleTypes (no condition).
-/
import Derived.Test.YthmjeabeoodghaaGreatDoorQModuleTypes0
import Derived.WalkKit
import Derived.OrdersHeld
import Derived.Deep.LoopGhost
import Derived.RangeFuncIn
import Derived.RangeFuncLeaves
import Derived.TacticsIn
set_option linter.unusedVariables false
set_option linter.unusedSimpArgs false
set_option linter.unusedSectionVars false
set_option maxHeartbeats 1000000
namespace Go.Sx
open Go
structure Vw where
  im:Nat→Prop
  w:World
  sl:Prop
abbrev Fr:=List (Nat×Value)
abbrev Hp:=List (Nat×Obj)
def Fr.get:Fr→Nat→Option Value
  | [],_=>none
  | (t,v)::r,n=>bif Nat.beq t n then some v else Fr.get r n
structure Nf where
  n:Nat
  D:List Deferred
instance:Coe Nat Nf:=⟨fun n=>⟨n,[]⟩⟩
structure Fr.sat (N:Nf) (fr:Fr) (a:Act):Prop where
  size:a.tmps.size=N.n
  defers:a.defers=N.D
  val:∀ t v,Fr.get fr t=some v→a.tmps[t]? = some v
structure Vw.sat (v:Vw) (H:Hp):Prop where
  own:∀ p,p∈H→v.w.heap[p.1]? = some p.2∧¬ v.im p.1
  nodup:(H.map Prod.fst).Nodup
  lt:∀ b,v.im b→b<v.w.heap.size
structure Vw.to (v:Vw) (H:Hp) (v':Vw) (H':Hp):Prop where
  os:v'.w.os=v.w.os
  tape:v'.w.tape=v.w.tape
  output:v'.w.output=v.w.output
  size:v.w.heap.size≤v'.w.heap.size
  block:∀ b,b<v.w.heap.size→b ∉ H.map Prod.fst→v'.w.heap[b]? = v.w.heap[b]?
  imUp:∀ b,v.im b→v'.im b
  imNew:∀ b,v'.im b→v.im b∨b∈H.map Prod.fst∨v.w.heap.size≤b
  hNew:∀ b,b∈H'.map Prod.fst→b∈H.map Prod.fst∨v.w.heap.size≤b
  sl:v'.sl=v.sl
  dr:v.sl∨v.w.drawn≤v'.w.drawn
structure Vw.le (v v':Vw):Prop where
  imUp:∀ b,v.im b→v'.im b
  block:∀ b,v.im b→v'.w.heap[b]? = v.w.heap[b]?
  sl:v'.sl=v.sl
structure Fct where
  p:Vw→Prop
  mono:∀ v v',v.le v'→p v→p v'
def ad_:List Fct→Vw→Prop
  | [],_=>True
  | f::l,v=>f.p v∧ad_ l v
theorem fe_ {a b:List Fct} {v:Vw}:ad_ (a++b) v↔ad_ a v∧ad_ b v:=by
  induction a with
  | nil=>simp[ad_]
  | cons f l ih=>simp[ad_,ih,and_assoc]
theorem aD_ {l:List Fct} {v d:Vw} (h:v.le d):ad_ l v→ad_ l d:=by
  induction l with
  | nil=>exact fun _=>trivial
  | cons f l ih=>exact fun⟨a,b⟩=>⟨f.mono _ _ h a,ih b⟩
theorem Vw.to.le {v d:Vw} {H H':Hp} (e:v.sat H) (h:v.to H d H'):v.le d :=
  ⟨h.imUp,fun b m=>h.block b (e.lt b m) (fun hm=>by
    obtain⟨p,x,rfl⟩:=List.mem_map.1 hm;exact (e.own p x).2 m),h.sl⟩
theorem Vw.to.refl (v:Vw) (H:Hp):v.to H v H :=
  ⟨rfl,rfl,rfl,Nat.le_refl _,fun _ _ _=>rfl,fun _ h=>h,fun _ h=>.inl h,fun _ h=>.inl h,rfl,.inr (Nat.le_refl _)⟩
theorem Vw.to.trans {a b c:Vw} {v A Hc:Hp} (h:a.to v b A) (k:b.to A c Hc):a.to v c Hc where
 os:=k.os.trans h.os
 tape:=k.tape.trans h.tape
 output:=k.output.trans h.output
 size:=Nat.le_trans h.size k.size
 block:=fun x e y=>by
   rw[k.block x (Nat.lt_of_lt_of_le e h.size) (fun hm=>(h.hNew x hm).elim y (fun hl=>by omega))];exact h.block x e y
 imUp:=fun x e=>k.imUp x (h.imUp x e)
 imNew:=fun x e=>by
   rcases k.imNew x e with d|d|d
   · exact h.imNew x d
   · exact .inr (h.hNew x d)
   · exact .inr (.inr (Nat.le_trans h.size d))
 hNew:=fun x e=>by
   rcases k.hNew x e with d|d
   · exact h.hNew x d
   · exact .inr (Nat.le_trans h.size d)
 sl:=k.sl.trans h.sl
 dr:=by
   rcases h.dr with d|d
   · exact .inl d
   · rcases k.dr with m|m
     · exact .inl (by rw[← h.sl];exact m)
     · exact .inr (Nat.le_trans d m)
theorem Vw.to.frame {v J:Vw} {H H' F:Hp} (M:v.sat (H++F)) (A:J.sat H') (h:v.to H J H') :
    J.sat (H'++F)∧v.to (H++F) J (H'++F):=by
  have B:=M.nodup;rw[List.map_append,List.nodup_append]at B;have O:∀ p,p∈F→p.1 ∉ H.map Prod.fst:=fun p m hm=>B.2.2 _ hm _ (List.mem_map_of_mem m) rfl
  have C:∀ p,p∈F→p.1<v.w.heap.size:=fun p m=>by
    have:=(M.own p (List.mem_append_right _ m)).1;exact (Array.getElem?_eq_some_iff.1 this).1
  have I:∀ p,p∈F→p.1 ∉ H'.map Prod.fst:=fun p m hm=>by
    rcases h.hNew _ hm with d|d
    · exact O p m d
    · have:=C p m;omega
  refine⟨⟨fun p m=>?_,?_,A.lt⟩,?_⟩
  · rcases List.mem_append.1 m with d|d
    · exact A.own p d
    · have G:=M.own p (List.mem_append_right _ d)
      refine⟨by rw[h.block _ (C p d) (O p d)];exact G.1,fun hi=>?_⟩;rcases h.imNew _ hi with L|L|L
      · exact G.2 L
      · exact O p d L
      · have:=C p d;omega
  · rw[List.map_append,List.nodup_append]
    refine⟨A.nodup,B.2.1,fun x Q y S e=>?_⟩;subst e;obtain⟨p,m,rfl⟩:=List.mem_map.1 S;exact I p m Q
  · refine⟨h.os,h.tape,h.output,h.size,fun b E T=>h.block b E (fun hm=>T ?_),h.imUp,fun b E=>?_,fun b E=>?_,h.sl,h.dr⟩
    · rw[List.map_append];exact List.mem_append_left _ hm
    · rcases h.imNew b E with d|d|d
      · exact .inl d
      · exact .inr (.inl (by rw[List.map_append];exact List.mem_append_left _ d))
      · exact .inr (.inr d)
    · rw[List.map_append]at E ⊢
      rcases List.mem_append.1 E with d|d
      · rcases h.hNew b d with G|G
        · exact .inl (List.mem_append_left _ G)
        · exact .inr G
      · exact .inl (List.mem_append_right _ d)
theorem Vw.sat.perm {v:Vw} {H H':Hp} (h:v.sat H) (p:H.Perm H'):v.sat H' :=
  ⟨fun x d=>h.own x (p.mem_iff.2 d),(p.map _).nodup_iff.1 h.nodup,h.lt⟩
theorem Vw.sat.sub {v:Vw} {H F:Hp} (h:v.sat (H++F)):v.sat H :=
  ⟨fun x d=>h.own x (List.mem_append_left _ d),by have:=h.nodup;rw[List.map_append,List.nodup_append]at this;exact this.1,h.lt⟩
theorem Vw.to.permL {v m:Vw} {H K H':Hp} (h:v.to H m H') (p:H.Perm K):v.to K m H':=by
  have e:∀ b,b∈H.map Prod.fst↔b∈K.map Prod.fst:=fun b=>(p.map _).mem_iff
  exact⟨h.os,h.tape,h.output,h.size,fun b d x=>h.block b d (fun hm=>x ((e b).1 hm)),h.imUp,
    fun b d=>(h.imNew b d).imp id (Or.imp (e b).1 id),fun b d=>(h.hNew b d).imp (e b).1 id,h.sl,h.dr⟩
theorem Vw.to.subR {v d:Vw} {H H' K:Hp} (h:v.to H d H') (p:∀ b,b∈K.map Prod.fst→b∈H'.map Prod.fst):v.to H d K :=
  ⟨h.os,h.tape,h.output,h.size,h.block,h.imUp,h.imNew,fun b e=>h.hNew b (p b e),h.sl,h.dr⟩
def Ok (N:Nf) (v0:Vw) (H0:Hp) (k:Act→World→Prop) (fr:Fr) (H:Hp) (Γ:List Fct):Prop :=
  ∀ a v,Fr.sat N fr a→v.sat H→v0.to H0 v H→ad_ Γ v→k a v.w
inductive Kt where
  | seq (c:Code)
  | blk (id:Nat)
  | inv (J:Act→World→Prop)
def post (P:Program) (R:Exit→Act→World→Prop):List Kt→Exit→Act→World→Prop
  | [],e,a,w=>R e a w
  | .seq c::K,.normal,a,w=>c.wp P (post P R K) a w
  | .seq _::K,e,a,w=>post P R K e a w
  | .inv J::_,.normal,a,w=>J a w
  | .inv _::K,e,a,w=>post P R K e a w
  | .blk id::K,.exit id',a,w=>if id'=id then post P R K .normal a w else post P R K (.exit id') a w
  | .blk _::K,e,a,w=>post P R K e a w
theorem zr_ (P:Program) (R:Exit→Act→World→Prop) (K:List Kt) (a:Act) (w:World) (h:R .ret a w):post P R K .ret a w:=by
  induction K with
  | nil=>exact h
  | cons x K ih=>cases x<;>exact ih
def unw (id:Nat):List Kt→Option (List Kt)
  | []=>none
  | .blk i::K=>bif Nat.beq id i then some K else unw id K
  | .seq _::K=>unw id K
  | .inv _::K=>unw id K
theorem jB_ {P:Program} {R:Exit→Act→World→Prop} {d:Nat} {m:List Kt} {a:Act} {w:World} :
    ∀ {K:List Kt},unw d K=some m→post P R m .normal a w→post P R K (.exit d) a w
  | [],h,_=>by simp[unw]at h
  | .seq _::K,h,hp=>jB_ (K:=K) (by simpa [unw] using h) hp
  | .inv _::K,h,hp=>jB_ (K:=K) (by simpa [unw] using h) hp
  | .blk i::K,h,hp=>by
    simp only[unw]at h
    by_cases e:d=i
    · subst e
      simp only[Nat.beq_refl,cond_true,Option.some.injEq]at h;subst h;simp only[post,if_true];exact hp
    · have:Nat.beq d i=false:=by
        cases hb:Nat.beq d i
        · rfl
        · exact absurd (Nat.eq_of_beq_eq_true hb) e
      rw[this,cond_false]at h;simp only[post,e,if_false];exact jB_ h hp
def nxt:List Kt→Option (Code×List Kt)
  | .seq c::K=>some (c,K)
  | .blk _::K=>nxt K
  | _=>none
theorem ql_ {P:Program} {R:Exit→Act→World→Prop} {c:Code} {d:List Kt} {a:Act} {w:World} :
    ∀ {K:List Kt},nxt K=some (c,d)→c.wp P (post P R d) a w→post P R K .normal a w
  | [],h,_=>by simp[nxt]at h
  | .seq _::K,h,hp=>by simp only[nxt,Option.some.injEq,Prod.mk.injEq]at h;obtain⟨rfl,rfl⟩:=h;exact hp
  | .blk _::K,h,hp=>ql_ (K:=K) (by simpa [nxt] using h) hp
  | .inv _::K,h,_=>by simp[nxt]at h
def kx_:List Kt→Option (Act→World→Prop)
  | .inv J::_=>some J
  | .blk _::K=>kx_ K
  | _=>none
theorem sU_ {P:Program} {R:Exit→Act→World→Prop} {J:Act→World→Prop} {a:Act} {w:World} :
    ∀ {K:List Kt},kx_ K=some J→J a w→post P R K .normal a w
  | [],h,_=>by simp[kx_]at h
  | .inv _::K,h,hp=>by simp only[kx_,Option.some.injEq]at h;subst h;exact hp
  | .blk _::K,h,hp=>sU_ (K:=K) (by simpa [kx_] using h) hp
  | .seq _::K,h,_=>by simp[kx_]at h
def fV_:List Kt→Bool
  | []=>true
  | .blk _::K=>fV_ K
  | _=>false
theorem sV_ {P:Program} {R:Exit→Act→World→Prop} {a:Act} {w:World} :
    ∀ {K:List Kt},fV_ K=true→R .normal a w→post P R K .normal a w
  | [],_,hp=>hp
  | .inv _::K,h,_=>by simp[fV_]at h
  | .blk _::K,h,hp=>sV_ (K:=K) (by simpa [fV_] using h) hp
  | .seq _::K,h,_=>by simp[fV_]at h
section code
variable {P:Program} {N:Nf} {v0:Vw} {H0:Hp} {R:Exit→Act→World→Prop} {K:List Kt} {fr:Fr} {H:Hp} {Γ:List Fct}
abbrev Run (P:Program) (R:Exit→Act→World→Prop) (N:Nf) (v0:Vw) (H0:Hp) (c:Code) (K:List Kt) (fr:Fr) (H:Hp) (Γ:List Fct):Prop :=
  Ok N v0 H0 (c.wp P (post P R K)) fr H Γ
abbrev Fin (P:Program) (R:Exit→Act→World→Prop) (N:Nf) (v0:Vw) (H0:Hp) (K:List Kt) (fr:Fr) (H:Hp) (Γ:List Fct):Prop :=
  Ok N v0 H0 (post P R K .normal) fr H Γ
abbrev Ops (P:Program) (R:Exit→Act→World→Prop) (N:Nf) (v0:Vw) (H0:Hp) (ops:Array Oper) (l:List Oper) (K:List Kt) (fr:Fr) (H:Hp) (Γ:List Fct):Prop :=
  Ok N v0 H0 (wpList P ops (post P R K) l) fr H Γ
theorem ax_ {x y:Code} (h:Run P R N v0 H0 x (.seq y::K) fr H Γ):Run P R N v0 H0 (.seq x y) K fr H Γ :=
  fun a v d m A B=>wp_seq (wp_mono (h a v d m A B) fun e a w C=>by cases e<;>exact C)
theorem dQ_ {d:Nat} {c:Code} (h:Run P R N v0 H0 c (.blk d::K) fr H Γ):Run P R N v0 H0 (.block d c) K fr H Γ :=
  fun a v m x y A=>wp_block (wp_mono (h a v m x y A) fun e a w B=>by cases e<;>exact B)
theorem df_ (h:Fin P R N v0 H0 K fr H Γ):Run P R N v0 H0 .skip K fr H Γ :=
  fun a v d e m x=>wp_skip (h a v d e m x)
theorem iX_ {d:Nat} {e:List Kt} (B:unw d K=some e) (h:Fin P R N v0 H0 e fr H Γ):Run P R N v0 H0 (.exit d) K fr H Γ :=
  fun a v m x y A=>wp_exit (jB_ B (h a v m x y A))
theorem ge_ (h:Ok N v0 H0 (R .ret) fr H Γ):Run P R N v0 H0 .ret K fr H Γ :=
  fun a v d e m x=>wp_ret (zr_ P R K a v.w (h a v d e m x))
theorem am_ {c:Code} {d:List Kt} (A:nxt K=some (c,d)) (h:Run P R N v0 H0 c d fr H Γ):Fin P R N v0 H0 K fr H Γ :=
  fun a v e m x y=>ql_ A (h a v e m x y)
theorem dm_ {J:Act→World→Prop} (y:kx_ K=some J) (h:Ok N v0 H0 J fr H Γ):Fin P R N v0 H0 K fr H Γ :=
  fun a v d e m x=>sU_ y (h a v d e m x)
theorem rL_ (y:fV_ K=true) (h:Ok N v0 H0 (R .normal) fr H Γ):Fin P R N v0 H0 K fr H Γ :=
  fun a v d e m x=>sV_ y (h a v d e m x)
theorem ae_ {e:Nat} {l:List Oper} (h:Ops P R N v0 H0 l.toArray l K fr H Γ):Run P R N v0 H0 (.region e l.toArray false) K fr H Γ :=
  fun a v d m x y=>wp_region_lit (h a v d m x y)
theorem aA_ {d:Array Oper} (h:Fin P R N v0 H0 K fr H Γ):Ops P R N v0 H0 d [] K fr H Γ :=
  fun a v e m x y=>wpList_nil (h a v e m x y)
def Fr.ev (fr:Fr):Operand→Option Value
  | .tmp t=>Fr.get fr t
  | .const v=>some v
  | .global g=>some (.pointer (some ⟨g,0,none⟩))
  | .func f=>some (.func (.func f) #[] #[])
theorem Fr.sat.ev {a:Act} {x:Operand} {v:Value} (h:Fr.sat N fr a) (d:Fr.ev fr x=some v):a.eval x=v:=by
  cases x with
  | tmp t=>have:=h.val t v d;simp[Act.eval,this]
  | const c=>simpa [Fr.ev,Act.eval] using d
  | global g=>simpa [Fr.ev,Act.eval] using d
  | func f=>simpa [Fr.ev,Act.eval] using d
theorem Fr.sat.put {a:Act} {d:Nat} {x:Value} (h:Fr.sat N fr a) (B:Nat.blt d N.n=true):Fr.sat N ((d,x)::fr) (a.put (some d) x):=by
 have y:d<N.n:=by simpa [Nat.blt_eq] using B
 refine⟨by simp[Act.put,h.size],h.defers,fun t v m=>?_⟩;simp only[Fr.get]at m
 by_cases e:d=t
 ·subst e
  simp only[Nat.beq_refl,cond_true,Option.some.injEq]at m;subst m;simp[Act.put,Array.getElem?_setIfInBounds,h.size,y]
 have A:Nat.beq d t=false:=by
   cases A:Nat.beq d t
   · rfl
   · exact absurd (Nat.eq_of_beq_eq_true A) e
 rw[A,cond_false]at m;simp only[Act.put];rw[Array.getElem?_setIfInBounds_ne e];exact h.val t v m
theorem BO_ {k:Act→World→Prop} (d:Fr) (C:∀ t v,Fr.get d t=some v→Fr.get fr t=some v) (h:Ok N v0 H0 k d H Γ):Ok N v0 H0 k fr H Γ :=
  fun a v e m y A=>h a v ⟨e.size,e.defers,fun t x B=>e.val t x (C t x B)⟩ m y A
def Fr.le:Fr→Fr→Prop
  | [],_=>True
  | (t,v)::r,fr=>Fr.get fr t=some v∧Fr.le r fr
theorem Fr.le_get {m fr:Fr} (h:Fr.le m fr):∀ t v,Fr.get m t=some v→Fr.get fr t=some v:=by
 induction m with
 | nil=>intro t v d;simp[Fr.get]at d
 | cons p r ih =>
   obtain⟨s,u⟩:=p;intro t v d;simp only[Fr.get]at d
   by_cases e:s=t
   · subst e
     simp only[Nat.beq_refl,cond_true,Option.some.injEq]at d;subst d;exact h.1
   · have x:Nat.beq s t=false:=by
       cases x:Nat.beq s t
       · rfl
       · exact absurd (Nat.eq_of_beq_eq_true x) e
     rw[x,cond_false]at d;exact ih h.2 t v d
theorem bt_ {k:Act→World→Prop} (d:Fr) (e:Fr.le d fr) (h:Ok N v0 H0 k d H Γ):Ok N v0 H0 k fr H Γ :=
  BO_ d (Fr.le_get e) h
theorem dk_ {k:Act→World→Prop} {H' F:Hp} {Γ':List Fct} (e:H.Perm (H'++F)) (A:∀ v,v.sat H→ad_ Γ v→ad_ Γ' v) (h:Ok N v0 H0 k fr H' Γ'):Ok N v0 H0 k fr H Γ :=
  fun a v m d y B=>h a v m (d.perm e).sub (y.subR fun b x=>by
    have:b∈(H'++F).map Prod.fst:=by rw[List.map_append];exact List.mem_append_left _ x
    exact (e.map Prod.fst).mem_iff.2 this) (A v d B)
theorem kZ_ {k:Act→World→Prop} {Γ':List Fct} (x:∀ v,v.sat H→ad_ Γ v→ad_ Γ' v) (h:Ok N v0 H0 k fr H Γ'):Ok N v0 H0 k fr H Γ :=
  fun a v e d m y=>h a v e d m (x v d y)
theorem ok_get {k:Act→World→Prop} {p:Prop} (x:∀ v,v.sat H→ad_ Γ v→p) (h:p→Ok N v0 H0 k fr H Γ):Ok N v0 H0 k fr H Γ :=
  fun a v m d y e=>h (x v d e) a v m d y e
theorem sH_ {c:Operand} {x y:Code} {t:Bool} (C:Fr.ev fr c=some (.bool t)) (E:t=true→Run P R N v0 H0 x K fr H Γ) (B:t=false→Run P R N v0 H0 y K fr H Γ) :
    Run P R N v0 H0 (.cond c x y) K fr H Γ :=
  fun a v d h m A=>wp_cond_split (d.ev C) (fun e=>E e a v d h m A) (fun e=>B e a v d h m A)
theorem bw_ {c:Operand} {x y:Code} (d:Fr.ev fr c=some (.bool true)) (h:Run P R N v0 H0 x K fr H Γ):Run P R N v0 H0 (.cond c x y) K fr H Γ :=
  sH_ d (fun _=>h) (fun e=>by cases e)
theorem co_ {c:Operand} {x y:Code} (h:Fr.ev fr c=some (.bool false)) (d:Run P R N v0 H0 y K fr H Γ):Run P R N v0 H0 (.cond c x y) K fr H Γ :=
  sH_ h (fun e=>by cases e) (fun _=>d)
def AT_ {ι:Type} (N:Nf) (v0:Vw) (H0:Hp) (frs:ι→Fr) (Hs:ι→Hp) (Γs:ι→List Fct) (μ:ι→Nat) (n:Nat) (a:Act) (w:World):Prop :=
  ∃ j v,v.w=w∧Fr.sat N (frs j) a∧v.sat (Hs j)∧v0.to H0 v (Hs j)∧ad_ (Γs j) v∧μ j<n
theorem bO_ {ι:Type} {c:Code} (d:ι→Fr) (Hs:ι→Hp) (y:ι→List Fct) (μ:ι→Nat) (x:ι)
    (h:∀ i,Run P R N v0 H0 c (.inv (AT_ N v0 H0 d Hs y μ (μ i))::K) (d i) (Hs i) (y i)) :
    Run P R N v0 H0 (.loop c) K (d x) (Hs x) (y x):=by
  intro a v L M O G;refine wp_loop_ghost (fun n a w=>∃ i v,v.w=w∧Fr.sat N (d i) a∧v.sat (Hs i)∧v0.to H0 v (Hs i)∧ad_ (y i) v∧μ i=n) (μ x) ⟨x,v,rfl,L,M,O,G,rfl⟩ ?_;rintro n a w ⟨i,v,rfl,I,E,J,S,rfl⟩;refine wp_mono (h i a v I E J S) fun e a' w' m=>?_;cases e with
  | normal =>
    obtain⟨j,F,B,k1,k2,Q,C,A⟩:=m;exact⟨μ j,A,j,F,B,k1,k2,Q,C,rfl⟩
  | exit id=>exact m
  | goto l=>exact m
  | ret=>exact m
  | panic ch=>exact m
  | outgrown=>exact m
theorem O_ {ι:Type} {c:Code} (d:ι→Fr) (Hs:ι→Hp) (m:ι→List Fct) (μ:ι→Nat) (h:ι) {F:Hp} (x:Fr.le (d h) fr) (A:H.Perm (Hs h++F)) (y:∀ v,v.sat H→ad_ Γ v→ad_ (m h) v)
    (e:∀ i,Run P R N v0 H0 c (.inv (AT_ N v0 H0 d Hs m μ (μ i))::K) (d i) (Hs i) (m i)):Run P R N v0 H0 (.loop c) K fr H Γ :=
  bt_ _ x (dk_ A y (bO_ d Hs m μ h e))
theorem x_ {ι:Type} {d:ι→Fr} {Hs:ι→Hp} {h:ι→List Fct} {μ:ι→Nat} {n:Nat} (j:ι) {F:Hp} (x:μ j<n) (e:Fr.le (d j) fr) (E:H.Perm (Hs j++F))
    (B:∀ v,v.sat H→ad_ Γ v→ad_ (h j) v):Ok N v0 H0 (AT_ N v0 H0 d Hs h μ n) fr H Γ :=
  bt_ (d j) e (dk_ E B fun _ v m y A C=>⟨j,v,rfl,m,y,A,C,x⟩)
end code
end Go.Sx
namespace Go.Sx
open Go
section ops
variable {P:Program} {N:Nf} {v0:Vw} {H0:Hp} {R:Exit→Act→World→Prop} {K:List Kt} {fr:Fr} {H:Hp} {Γ:List Fct}
variable {ops:Array Oper} {l:List Oper} {d:Nat} {ty:TypeId} {ps:String} {af:Array Edge}
theorem cR_ {o:Oper} (B:o.guard=none) (h:∀ a v,Fr.sat N fr a→v.sat H→v0.to H0 v H→ad_ Γ v→o.wp P a v.w (wpList P ops (post P R K) l) (post P R K)) :
    Ops P R N v0 H0 ops (o::l) K fr H Γ :=
  fun a v e x y A=>wpList_plain B fun C m=>Oper.wp_mono m (h a v e x y A)
def Yld (P:Program) (N:Nf) (fr:Fr) (H:Hp) (Γ:List Fct) (op:Op) (ty:TypeId) (x:Value):Prop :=
  ∀ a v,Fr.sat N fr a→v.sat H→ad_ Γ v→∀ d ps af,(execOp a.eval ⟨d,op,ty,ps,af,none⟩).run P v.w=.ok (.value x) v.w
theorem e_ {h:Op} {x:Value} (C:Yld P N fr H Γ h ty x) (A:Nat.blt d N.n=true)
    (B:Ops P R N v0 H0 ops l K ((d,x)::fr) H Γ):Ops P R N v0 H0 ops (⟨some d,h,ty,ps,af,none⟩::l) K fr H Γ :=
  cR_ rfl fun a v e m E y=>by
    unfold Oper.wp;rw[C a v e m y (some d) ps af];exact B _ v (e.put A) m E y
theorem E_ {e:Op} {X:Bool} (v:Yld P N fr H Γ e ty (.bool X)) (h:Nat.blt d N.n=true)
    (m:∀ r:Bool,X=r→Ops P R N v0 H0 ops l K ((d,.bool r)::fr) H Γ):Ops P R N v0 H0 ops (⟨some d,e,ty,ps,af,none⟩::l) K fr H Γ :=
  e_ v h (m X rfl)
def hF_ (ops:Array Oper) (j:Nat):Option Nat:=(ops[j]?).bind (·.dst)
theorem fp_ {a:Act} {j t:Nat} {x:Value} (h:Fr.sat N fr a) (v:hF_ ops j=some t) (m:Fr.get fr t=some x) :
    yielded ops a.tmps j=match x with|.bool b=>some b|_=>none:=by
  have e:((ops[j]?).bind (·.dst)).bind (a.tmps[·]?)=some x:=by
    show (hF_ ops j).bind _=_
    rw[v];exact h.val t x m
  unfold yielded;rw[e];cases x<;>rfl
theorem ar_ {x:Op} {m:Option Nat} {j t:Nat} {e:Bool} (E:hF_ ops j=some t) (I:Fr.get fr t=some (.bool e))
    (h:Ops P R N v0 H0 ops (⟨m,x,ty,ps,af,none⟩::l) K fr H Γ):Ops P R N v0 H0 ops (⟨m,x,ty,ps,af,some (j,e)⟩::l) K fr H Γ :=
  fun a v A C F G=>by
    have B:Region.wanted (⟨m,x,ty,ps,af,some (j,e)⟩:Oper) (yielded ops a.tmps)=true:=by
      simp[Region.wanted,fp_ A E I]
    have y:Region.wanted (⟨m,x,ty,ps,af,none⟩:Oper) (yielded ops a.tmps)=true:=rfl;have:=h a v A C F G;unfold wpList at this ⊢;rw[if_pos y]at this;rw[if_pos B];exact this
theorem gB_ {y:Op} {j t:Nat} {e:Bool} {x:Value} (E:hF_ ops j=some t) (I:Fr.get fr t=some x) (J:(match x with|.bool b=>Bool.xor b e|_=>true)=true) (A:Nat.blt d N.n=true)
    (h:Ops P R N v0 H0 ops l K ((d,undef)::fr) H Γ):Ops P R N v0 H0 ops (⟨some d,y,ty,ps,af,some (j,e)⟩::l) K fr H Γ :=
  fun a v m C F G=>by
    have B:Region.wanted (⟨some d,y,ty,ps,af,some (j,e)⟩:Oper) (yielded ops a.tmps)=false:=by
      simp only[Region.wanted,fp_ m E I];cases x<;>first|rfl|(rename_i b;cases b<;>cases e<;>simp_all)
    exact wpList_skip B (h _ v (m.put A) C F G)
theorem S_ {x:Operand} {u:Value} (h:Fr.ev fr x=some u) :
    Yld P N fr H Γ (.move x) ty (u) :=
  fun a v e _ _ _ _ _=>by rw[← e.ev h];rfl
theorem af_ {x:Operand} {u:Value} (h:Fr.ev fr x=some u) :
    Yld P N fr H Γ (.assign x) ty (u) :=
  fun a v e _ _ _ _ _=>by rw[← e.ev h];rfl
theorem gw_ {c x y:Operand} {u:Value} (h:Fr.ev fr c=some (.bool true)) (m:Fr.ev fr x=some u) :
    Yld P N fr H Γ (.pick c x y) ty (u) :=
  fun a v e _ _ _ _ _=>by simp[execOp,e.ev h,e.ev m,asBool]
theorem fm_ {c x y:Operand} {u:Value} (h:Fr.ev fr c=some (.bool false)) (m:Fr.ev fr y=some u) :
    Yld P N fr H Γ (.pick c x y) ty (u) :=
  fun a v e _ _ _ _ _=>by simp[execOp,e.ev h,e.ev m,asBool]
theorem aT_ {t B:TypeId} {x y:Operand} {k:IntKind} {m n:Int} (A:Fr.ev fr x=some (.int k m)) (h:Fr.ev fr y=some (.int k n)) :
    Yld P N fr H Γ (.binOp .eql t x y B) ty (.bool ((m==n))) :=
  fun a v e _ _ _ _ _=>by simp[execOp,e.ev A,e.ev h,eqGuard,binOp,Op.intCmp]
theorem cl_ {t B:TypeId} {x y:Operand} {k:IntKind} {m n:Int} (A:Fr.ev fr x=some (.int k m)) (h:Fr.ev fr y=some (.int k n)) :
    Yld P N fr H Γ (.binOp .neq t x y B) ty (.bool ((m != n))) :=
  fun a v e _ _ _ _ _=>by simp[execOp,e.ev A,e.ev h,eqGuard,binOp,Op.intCmp]
theorem cD_ {t B:TypeId} {x y:Operand} {k:IntKind} {m n:Int} (A:Fr.ev fr x=some (.int k m)) (h:Fr.ev fr y=some (.int k n)) :
    Yld P N fr H Γ (.binOp .lss t x y B) ty (.bool (decide (m<n))) :=
  fun a v e _ _ _ _ _=>by simp[execOp,e.ev A,e.ev h,eqGuard,binOp,Op.intCmp]
theorem dV_ {t B:TypeId} {x y:Operand} {k:IntKind} {m n:Int} (A:Fr.ev fr x=some (.int k m)) (h:Fr.ev fr y=some (.int k n)) :
    Yld P N fr H Γ (.binOp .leq t x y B) ty (.bool (decide (m≤n))) :=
  fun a v e _ _ _ _ _=>by simp[execOp,e.ev A,e.ev h,eqGuard,binOp,Op.intCmp]
theorem dd_ {t B:TypeId} {x y:Operand} {k:IntKind} {m n:Int} (A:Fr.ev fr x=some (.int k m)) (h:Fr.ev fr y=some (.int k n)) :
    Yld P N fr H Γ (.binOp .gtr t x y B) ty (.bool (decide (n<m))) :=
  fun a v e _ _ _ _ _=>by simp[execOp,e.ev A,e.ev h,eqGuard,binOp,Op.intCmp]
theorem fE_ {t B:TypeId} {x y:Operand} {k:IntKind} {m n:Int} (A:Fr.ev fr x=some (.int k m)) (h:Fr.ev fr y=some (.int k n)) :
    Yld P N fr H Γ (.binOp .geq t x y B) ty (.bool (decide (n≤m))) :=
  fun a v e _ _ _ _ _=>by simp[execOp,e.ev A,e.ev h,eqGuard,binOp,Op.intCmp]
def Af_:BinOp→Int→Int→Option Int
  | .add,a,b=>some (a+b)
  | .sub,a,b=>some (a - b)
  | .mul,a,b=>some (a*b)
  | _,_,_=>none
theorem aI_ {e:BinOp} {t F:TypeId} {x y:Operand} {k:IntKind} {m n r:Int} (E:Fr.ev fr x=some (.int k m)) (B:Fr.ev fr y=some (.int k n)) (A:Af_ e m n=some r) (C:k.wrap r=r) :
    Yld P N fr H Γ (.binOp e t x y F) ty (.int k r) :=
  fun a v h _ _ _ _ _=>by
    cases e<;>simp only[Af_,Option.some.injEq,reduceCtorEq]at A<;>subst A <;>
      simp[execOp,h.ev E,h.ev B,eqGuard,binOp,Op.intArith,C]
theorem bv_ {r:Int} (e:-9223372036854775808≤r) (h:r≤9223372036854775807):IntKind.wrap .i64 r=r:=by
  exact IntWalk.i64_in r ⟨e,h⟩
theorem aR_ {x:Operand} {t:TypeId} {b:Bool} (h:Fr.ev fr x=some (.bool b)) :
    Yld P N fr H Γ (.unOp .not t x) ty (.bool !b) :=
  fun a v e _ _ _ _ _=>by simp[execOp,e.ev h,Op.unary]
def lg:List Value→Nat→Option Value
  | [],_=>none
  | x::_,0=>some x
  | _::r,n+1=>lg r n
theorem lg_eq:∀ (c:List Value) (i:Nat),lg c i=c[i]?
  | [],i=>by simp[lg]
  | x::r,0=>rfl
  | x::r,n+1=>by simpa [lg] using lg_eq r n
def rw_:List Value→Nat→Nat→Option (List Value)
  | _,_,0=>some []
  | c,off,n+1=>match lg c off with
    | some x=>match rw_ c (off+1) n with
      | some r=>some (x::r)
      | none=>none
    | none=>none
theorem qB_:∀ (n off:Nat) (c r:List Value),rw_ c off n=some r→r.length=n∧∀ j v,r[j]? = some v→c[off+j]? = some v
 | 0,off,c,r,h=>by simp only[rw_,Option.some.injEq]at h;subst h;exact⟨rfl,by simp⟩
 | n+1,off,c,r,h=>by
   simp only[rw_]at h
   split at h
   · rename_i x A
     split at h
     · rename_i q B
       simp only[Option.some.injEq]at h;subst h;obtain⟨m,y⟩:=qB_ n (off+1) c q B;refine⟨by simp[m],fun j v e=>?_⟩;cases j with
       | zero=>simp only[List.getElem?_cons_zero,Option.some.injEq]at e;subst e;rw[← lg_eq];exact A
       | succ j=>rw[show off+(j+1)=off+1+j by omega];exact y j v zbc_
     · cases h
   · cases h
theorem cK_ (b off n:Nat):(⟨b,off,none⟩:Addr).add n=⟨b,off+n,none⟩:=by unfold Addr.add;split<;>simp_all
theorem cd_ {t:TypeId} {w:World} {ad:Addr} {x:Value} (e:∀ w,(isAgg t).run P w=.ok false w) (h:w.cell? ad=some x):(loadVar t ad).run P w=.ok x w:=by
  simp[loadVar,e,h]
theorem dL_ {t:TypeId} {w:World} {b off n:Nat} {cs:List Value} (m:∀ w,(isAgg t).run P w=.ok true w) (y:∀ w,(sizeOf t).run P w=.ok n w) (x:cs.length=n)
    (e:∀ j v,cs[j]? = some v→w.cell? ⟨b,off+j,none⟩=some v):(loadVar t ⟨b,off,none⟩).run P w=.ok (.agg cs.toArray) w:=by
  have:=run_loadCells_list (P:=P) w ⟨b,off,none⟩ cs (fun j v h=>by rw[cK_];exact e j v h);rw[x]at this;simp[loadVar,m,y,this]
theorem fb_ {v:Vw} {i b:Nat} {cur:Array Value} {T:TypeId} {fz:Nat×Nat} (h:v.sat H) (hi:H[i]? = some (b,.cells cur T fz)) (j:Nat):v.w.cell? ⟨b,j,none⟩=cur.toList[j]? := by
  have:=(h.own _ (List.mem_of_getElem? hi)).1;simp[World.cell?,this]
theorem bd_ {t:TypeId} {x:Operand} {b off:Nat} (i:Nat) {cur:Array Value} {T:TypeId} {fz:Nat×Nat} {u:Value} (m:∀ w,(isAgg t).run P w=.ok false w)
    (y:Fr.ev fr x=some (.pointer (some ⟨b,off,none⟩))) (hi:H[i]? = some (b,.cells cur T fz)) (A:lg cur.toList off=some u) :
    Yld P N fr H Γ (.load t x) ty (u) :=
  fun a v e h _ _ _ _=>by
    have:=cd_ (P:=P) (w:=v.w) m (show v.w.cell? ⟨b,off,none⟩=some u by rw[fb_ h hi,← lg_eq];exact A);simp[execOp,e.ev y,Instr.loadAt,Instr.sureAddr,this]
theorem cO_ {t:TypeId} {x:Operand} {b off n:Nat} (i:Nat) {cur:Array Value} {T:TypeId} {fz:Nat×Nat} {us:List Value} (G:∀ w,(isAgg t).run P w=.ok true w) (B:∀ w,(sizeOf t).run P w=.ok n w)
    (A:Fr.ev fr x=some (.pointer (some ⟨b,off,none⟩))) (hi:H[i]? = some (b,.cells cur T fz)) (m:rw_ cur.toList off n=some us) :
    Yld P N fr H Γ (.load t x) ty (.agg us.toArray) :=
  fun a v C E _ _ _ _=>by
    obtain⟨e,h⟩:=qB_ n off _ _ m;have:=dL_ (P:=P) (w:=v.w) (b:=b) (off:=off) G B e (fun j y F=>by rw[fb_ E hi];exact h j y F);simp[execOp,C.ev A,Instr.loadAt,Instr.sureAddr,this]
theorem hp_ {t:TypeId} {x:Operand} {ad:Addr} {u:Value} (A:Fr.ev fr x=some (.pointer (some ad))) (y:∀ v,v.sat H→ad_ Γ v→(loadVar t ad).run P v.w=.ok u v.w) :
    Yld P N fr H Γ (.load t x) ty (u) :=
  fun a v e h m _ _ _=>by simp[execOp,e.ev A,Instr.loadAt,Instr.sureAddr,y v h m]
theorem gd_ {v:Vw} {w':World} {o:Obj} (h:v.sat H) (A:w'.heap=v.w.heap.push o) (E:w'.os=v.w.os) (F:w'.tape=v.w.tape) (I:w'.output=v.w.output) (G:v.w.drawn≤w'.drawn) :
    (⟨v.im,w',v.sl⟩:Vw).sat ((v.w.heap.size,o)::H)∧v.to H ⟨v.im,w',v.sl⟩ ((v.w.heap.size,o)::H):=by
  have C:∀ k,k<v.w.heap.size→w'.heap[k]? = v.w.heap[k]? := fun k J=>by rw[A,Array.getElem?_push,if_neg zaa_]
  have y:∀ p,p∈H→p.1<v.w.heap.size:=fun p x=>(Array.getElem?_eq_some_iff.1 (h.own p x).1).1
  refine⟨⟨fun p x=>?_,?_,fun b m=>?_⟩,E,F,I,by simp[A],fun b B _=>C b B,fun _ h=>h,fun _ h=>.inl h,fun b m=>?_,rfl,.inr G⟩
  · rcases List.mem_cons.1 x with rfl|x
    · refine⟨by show w'.heap[v.w.heap.size]? = some o;rw[A];simp,fun hi=>?_⟩
      have:=h.lt _ hi;simp at this
    · exact⟨by show w'.heap[p.1]? = _;rw[C _ (y p x)];exact (h.own p x).1,(h.own p x).2⟩
  · rw[List.map_cons,List.nodup_cons]
    refine⟨fun hm=>?_,h.nodup⟩;obtain⟨p,x,e⟩:=List.mem_map.1 hm;have:=y p x;simp at e;omega
  · have:=h.lt b m
    show b<w'.heap.size
    simp[A];omega
  · rw[List.map_cons]at m
    rcases List.mem_cons.1 m with rfl|B
    · exact .inr (Nat.le_refl _)
    · exact .inl B
theorem oH_ {h:Op} {β:Type} {x:β→Nat→Value} {o:β→Obj} (q:β→Prop) (L:Nat.blt d N.n=true)
    (G:∀ a v,Fr.sat N fr a→v.sat H→ad_ Γ v→∃ y w',q y∧(execOp a.eval ⟨some d,h,ty,ps,af,none⟩).run P v.w=.ok (.value (x y v.w.heap.size)) w'∧w'.heap=v.w.heap.push (o y)∧w'.os=v.w.os∧w'.tape=v.w.tape∧w'.output=v.w.output∧v.w.drawn≤w'.drawn)
    (M:∀ y b,q y→Ops P R N v0 H0 ops l K ((d,x y b)::fr) ((b,o y)::H) Γ):Ops P R N v0 H0 ops (⟨some d,h,ty,ps,af,none⟩::l) K fr H Γ :=
  cR_ rfl fun a v A e Q B=>by
    obtain⟨y,w',J,S,I,C,E,F,O⟩:=G a v A e B;unfold Oper.wp;rw[S];obtain⟨T,m⟩:=gd_ e I C E F O;exact M y v.w.heap.size J _ ⟨v.im,w',v.sl⟩ (A.put L) T (Q.trans m) (aD_ (m.le e) B)
theorem hb_ {e:Op} {x:Nat→Value} {o:Obj} (h:Nat.blt d N.n=true)
    (A:∀ a v,Fr.sat N fr a→v.sat H→ad_ Γ v→(execOp a.eval ⟨some d,e,ty,ps,af,none⟩).run P v.w=.ok (.value (x v.w.heap.size)) (v.w.alloc o))
    (y:∀ b,Ops P R N v0 H0 ops l K ((d,x b)::fr) ((b,o)::H) Γ):Ops P R N v0 H0 ops (⟨some d,e,ty,ps,af,none⟩::l) K fr H Γ :=
  oH_ (β:=Unit) (x:=fun _ b=>x b) (o:=fun _=>o) (fun _=>True) h (fun a v m B C=>⟨(),v.w.alloc o,trivial,A a v m B C,rfl,rfl,rfl,rfl,Nat.le_refl _⟩) (fun _ b _=>y b)
theorem K_ {t:TypeId} {x:Operand} {u:Value} (y:Fr.ev fr x=some u) (e:Nat.blt d N.n=true)
    (m:∀ b,Ops P R N v0 H0 ops l K ((d,.pointer (some ⟨b,0,none⟩))::fr) ((b,.cells u.cells t (0,0))::H) Γ):Ops P R N v0 H0 ops (⟨some d,.box t x,ty,ps,af,none⟩::l) K fr H Γ :=
  hb_ (x:=fun b=>.pointer (some ⟨b,0,none⟩)) e (fun a v h _ _=>by simp[execOp,h.ev y,Instr.box,newVar,newRow,newObj];rfl) m
theorem y_ {t:TypeId} {z:Value} (m:∀ w,(zeroValue t).run P w=.ok z w) (e:Nat.blt d N.n=true)
    (h:∀ b,Ops P R N v0 H0 ops l K ((d,.pointer (some ⟨b,0,none⟩))::fr) ((b,.cells z.cells t (0,0))::H) Γ):Ops P R N v0 H0 ops (⟨some d,.alloc t,ty,ps,af,none⟩::l) K fr H Γ :=
  hb_ (x:=fun b=>.pointer (some ⟨b,0,none⟩)) e (fun a v y _ _=>by simp[execOp,m,Instr.alloc,newVar,newRow,newObj];rfl) h
theorem eY_ {v:Vw} {i b:Nat} {o o':Obj} {w':World} (h:v.sat H) (hi:H[i]? = some (b,o)) (J:w'.os=v.w.os) (U:w'.tape=v.w.tape) (X:w'.output=v.w.output) (O:v.w.drawn≤w'.drawn) (G:w'.heap.size=v.w.heap.size)
    (V:w'.heap[b]? = some o') (I:∀ k,k≠b→w'.heap[k]? = v.w.heap[k]?):(⟨v.im,w',v.sl⟩:Vw).sat (H.set i (b,o'))∧v.to H ⟨v.im,w',v.sl⟩ (H.set i (b,o')):=by
  have hm:=List.mem_of_getElem? hi
  have y:(H.set i (b,o')).map Prod.fst=H.map Prod.fst:=by
    rw[List.map_set]
    apply List.ext_getElem?
    intro j;rw[List.getElem?_set]
    split
    · rename_i m;subst m;rw[List.getElem?_map,hi];simp[(List.getElem?_eq_some_iff.1 hi).1]
    · rfl
  refine⟨⟨fun p W=>?_,by rw[y];exact h.nodup,fun x C=>?_⟩,J,U,X,by simp[G],fun x _ Q=>I x (fun e=>Q ?_),fun _ h=>h,fun _ h=>.inl h,fun x C=>.inl (by rw[y]at C;exact C),rfl,.inr O⟩
  · obtain⟨j,m⟩:=List.getElem?_of_mem W
    rw[List.getElem?_set]at m
    split at m
    · rename_i A
      subst A
      split at m
      · simp only[Option.some.injEq]at m;subst m
        exact⟨V,(h.own _ hm).2⟩
      · cases m
    · rename_i A
      have B:=List.mem_of_getElem? m
      have F:p.1≠b:=fun e=>by
        have E:=h.nodup;have T:(H.map Prod.fst)[i]? = some b:=by simp[hi]
        have M:(H.map Prod.fst)[j]? = some b:=by simp[m,e]
        obtain⟨Y,L⟩:=List.getElem?_eq_some_iff.1 T;obtain⟨Z,S⟩:=List.getElem?_eq_some_iff.1 M;exact A ((List.getElem_inj E).1 (L.trans S.symm))
      exact⟨by show w'.heap[p.1]? = _;rw[I _ F];exact (h.own p B).1,(h.own p B).2⟩
  · show x<w'.heap.size
    rw[G];exact h.lt x C
  · subst e;exact List.mem_map.2 ⟨_,hm,rfl⟩
theorem o_ {t:TypeId} {x y:Operand} {b off n:Nat} (i:Nat) {cur:Array Value} {T:TypeId} {u:Value} (M:∀ w,(sizeOf t).run P w=.ok n w)
    (L:Fr.ev fr x=some (.pointer (some ⟨b,off,none⟩))) (O:Fr.ev fr y=some u) (hi:H[i]? = some (b,.cells cur T (0,0))) (C:u.cells.size=n) (J:Nat.ble (off+n) cur.size=true) (B:u.cells.toList.all Value.oneCell'=true)
    (m:Ops P R N v0 H0 ops l K fr (H.set i (b,.cells (cur.toList.take off++u.cells.toList++cur.toList.drop (off+n)).toArray T (0,0))) Γ) :
    Ops P R N v0 H0 ops (⟨none,.store t x y,ty,ps,af,none⟩::l) K fr H Γ :=
  cR_ rfl fun a v h A Q S=>by
    have F:=(A.own _ (List.mem_of_getElem? hi)).1;have e:=run_storeCells_at P b off T u.cells.toList 0 cur v.w F (by simp[C];exact Nat.le_of_ble_eq_true J) (fun c G=>List.all_eq_true.1 B c G)
    have I:(execOp a.eval ⟨none,.store t x y,ty,ps,af,none⟩).run P v.w=.ok .skip (v.w.setRow b (cur.toList.take off++u.cells.toList++cur.toList.drop (off+n)).toArray):=by
      simp only[Nat.add_zero,Array.length_toList,C]at e;simp[execOp,h.ev L,h.ev O,Instr.storeAt,Instr.sureAddr,storeVar,M,C,e]
    unfold Oper.wp;rw[I];obtain⟨U,E⟩:=eY_ (w':=v.w.setRow b (cur.toList.take off++u.cells.toList++cur.toList.drop (off+n)).toArray) A hi rfl rfl rfl (Nat.le_refl _) zaf_ (setRow_heap _ _ _ _ _ _ F) (fun k m=>setRow_other _ _ _ _ m);exact m a _ h U (Q.trans E) (aD_ (E.le A) S)
theorem cf_ {s:TypeId} {x:Operand} {f b off o:Nat} {h:Array Field} {e:Field} {n:Nat} (A:∀ w,(underlying s).run P w=.ok (.struct h) w) (C:Fr.ev fr x=some (.pointer (some ⟨b,off,none⟩))) (y:h[f]? = some e) (m:e.offset=o)
    (B:∀ w,(sizeOf e.type).run P w=.ok (n+1) w) :
    Yld P N fr H Γ (.fieldAddr s x f) ty (.pointer (some ⟨b,off+o,none⟩)) :=
  fun a v E F _ _ _ _=>by simp[execOp,E.ev C,Instr.fieldAt,A,y,Instr.sureAddr,fieldPlace,B,cK_,m]
theorem gk_ {t e:TypeId} {x y:Operand} {b off len cap n:Nat} {k:IntKind} {i:Int} (m:∀ w,(underlying t).run P w=.ok (.slice e) w) (B:∀ w,(sizeOf e).run P w=.ok n w)
    (A:Fr.ev fr x=some (.slice (some ⟨b,off,none⟩) len cap)) (C:Fr.ev fr y=some (.int k i)) (E:0≤i) (hl:i<len) :
    Yld P N fr H Γ (.indexAddr t x y) ty (.pointer (some ⟨b,off+i.toNat*n,none⟩)) :=
  fun a v h F _ _ _ _=>by simp[execOp,h.ev A,h.ev C,Instr.indexAt,m,asIntOf,B,cK_,E,hl]
theorem dI_ {t e:TypeId} {x y:Operand} {b off len n:Nat} {k:IntKind} {i:Int} (m:∀ w,(underlying t).run P w=.ok (.array len e) w) (B:∀ w,(sizeOf e).run P w=.ok n w)
    (A:Fr.ev fr x=some (.pointer (some ⟨b,off,none⟩))) (C:Fr.ev fr y=some (.int k i)) (E:0≤i) (hl:i<len) :
    Yld P N fr H Γ (.indexAddr t x y) ty (.pointer (some ⟨b,off+i.toNat*n,none⟩)) :=
  fun a v h F _ _ _ _=>by simp[execOp,h.ev A,h.ev C,Instr.indexAt,m,asIntOf,B,Instr.sureAddr,cK_,E,hl]
theorem pP_ {x:Operand} {ad:Addr} (h:Fr.ev fr x=some (.pointer (some ad))) :
    Yld P N fr H Γ (.nilCheck x) ty (.pointer (some ad)) :=
  fun a v e m _ _ _ _=>by simp[execOp,e.ev h]
theorem ed_ {x:Operand} {t e:TypeId} {ad:Ao} {len cap:Nat} (m:∀ w,(underlying t).run P w=.ok (.slice e) w) (y:Fr.ev fr x=some (.slice ad len cap)) :
    Yld P N fr H Γ (.call ⟨.builtin .len,#[x],#[t]⟩) ty (.int .i64 (len:Int)) :=
  fun a v h A _ _ _ _=>by simp[execOp,resolve,invoke,builtin,Builtin.len_,h.ev y,m,goInt]
theorem bB_ {x:Operand} {i:Nat} {vs:Array Value} {u:Value} (m:Fr.ev fr x=some (.tuple vs)) (e:lg vs.toList i=some u) :
    Yld P N fr H Γ (.extract x i) ty (u) :=
  fun a v h y _ _ _ _=>by
    rw[lg_eq,Array.getElem?_toList]at e;simp[execOp,h.ev m,Instr.extract,e]
def str (l:List UInt8):Value:=.string ⟨l.toArray⟩
theorem str_of (s:ByteArray):Value.string s=str s.data.toList:=rfl
theorem dv_ {t B:TypeId} {x y:Operand} {m n:List UInt8} (A:Fr.ev fr x=some (str m)) (h:Fr.ev fr y=some (str n)) :
    Yld P N fr H Γ (.binOp .eql t x y B) ty (.bool ((m==n))) :=
  fun a v e _ _ _ _ _=>by simp[execOp,e.ev A,e.ev h,str,eqGuard,binOp,Op.stringOp]
theorem dK_ {t B:TypeId} {x y:Operand} {m n:List UInt8} (A:Fr.ev fr x=some (str m)) (h:Fr.ev fr y=some (str n)) :
    Yld P N fr H Γ (.binOp .neq t x y B) ty (.bool ((m != n))) :=
  fun a v e _ _ _ _ _=>by simp[execOp,e.ev A,e.ev h,str,eqGuard,binOp,Op.stringOp,bne]
theorem dW_ {t C:TypeId} {x y:Operand} {m n:List UInt8} (B:Fr.ev fr x=some (str m)) (A:Fr.ev fr y=some (str n)) (hl:m.length+n.length≤9223372036854775807) :
    Yld P N fr H Γ (.binOp .add t x y C) ty (str (m++n)) :=
  fun a v e _ _ _ _ _=>by
    have h:=run_string_add_sum (P:=P) v.w ⟨m.toArray⟩ ⟨n.toArray⟩ zbC_;rw[ByteArray.mk_append_mk]at h;simp[execOp,e.ev B,e.ev A,str,eqGuard,binOp_string_add,h]
theorem cB_ {x:Operand} {t:TypeId} {m:List UInt8} (h:∀ w,(underlying t).run P w=.ok .string w) (y:Fr.ev fr x=some (str m)) :
    Yld P N fr H Γ (.call ⟨.builtin .len,#[x],#[t]⟩) ty (.int .i64 (m.length:Int)) :=
  fun a v e A _ _ _ _=>by simp[execOp,resolve,invoke,builtin,Builtin.len_,e.ev y,h,goInt,str];rfl
theorem cm_ {x y:Operand} {t:TypeId} {m:List UInt8} {k:IntKind} {i:Int} {c:UInt8} (A:∀ w,(underlying t).run P w=.ok .string w) (B:Fr.ev fr x=some (str m)) (C:Fr.ev fr y=some (.int k i)) (F:0≤i) (e:m[i.toNat]? = some c) :
    Yld P N fr H Γ (.index t x y) ty (.int .u8 (c.toNat:Int)) :=
  fun a v h G _ _ _ _=>by
    have hl:i.toNat<m.length:=(List.getElem?_eq_some_iff.1 e).1
    have E:(⟨m.toArray⟩:ByteArray)[i.toNat]? = some c:=by
      rw[ByteArray.getElem?_lt' _ _ zbC_];have:(⟨m.toArray⟩:ByteArray)[i.toNat]'zbC_=m[i.toNat]:=rfl;rw[this];rw[List.getElem?_eq_getElem hl]at e;exact e
    simp[execOp,Instr.index,h.ev B,h.ev C,asIntOf,A,str,F,E]
def fj_ (P:Program) (f:FuncId):Prop:=∀ args w,(callFunc f args).run P w=.ok (.enter f args) w
theorem callable {f : FuncId} {fn : Func} {c : Code} (m : P.funcs[f]? = some fn) (h : fn.body = some c) (v : (fn.name == "runtime.NumGoroutine") = false) : fj_ P f := by
  intro args w;have e : ¬ fn.name = "runtime.NumGoroutine" := by simpa using v
  simp[callFunc,run_program,m,h,e]
structure Tri (P:Program) (f:FuncId) (args:Array Value) (H:Hp) (Γ:List Fct) {ι:Type} (ret:ι→Value) (H':ι→Hp) (Γ':ι→List Fct):Prop where
  callable:fj_ P f
  run:∀ v,v.sat H→ad_ Γ v→Calls P f args v.w fun e w'=>∃ x v',e=.returned (ret x)∧v'.w=w'∧v'.sat (H' x)∧ad_ (Γ' x) v'∧v.to H v' (H' x)
def Fr.evs (fr:Fr):List Operand→Option (List Value)
  | []=>some []
  | x::r=>match Fr.ev fr x with
    | some v=>match Fr.evs fr r with
      | some vs=>some (v::vs)
      | none=>none
    | none=>none
theorem Fr.sat.evs {a:Act} (h:Fr.sat N fr a):∀ {xs:List Operand} {vs:List Value},Fr.evs fr xs=some vs→xs.map a.eval=vs
 | [],vs,e=>by simp only[Fr.evs,Option.some.injEq]at e;subst e;rfl
 | x::r,vs,e=>by
   simp only[Fr.evs]at e
   split at e
   · rename_i u v
     split at e
     · rename_i us m
       simp only[Option.some.injEq]at e;subst e;rw[List.map_cons,h.ev v,h.evs m]
     · cases e
   · cases e
theorem qq_ {y:Op} {f:FuncId} {vs:List Value} {ι:Type} {Hc F:Hp} {B:List Fct} {m:ι→Value} {H':ι→Hp} {Γ':ι→List Fct}
    (V:Tri P f vs.toArray Hc B m H' Γ') (I:∀ a v,Fr.sat N fr a→(execOp a.eval ⟨some d,y,ty,ps,af,none⟩).run P v=.ok (.enter f vs.toArray) v)
    (G:H.Perm (Hc++F)) (L:∀ v,v.sat H→ad_ Γ v→ad_ B v) (O:Nat.blt d N.n=true)
    (Q:∀ x,Ops P R N v0 H0 ops l K ((d,m x)::fr) (H' x++F) (Γ' x++Γ)):Ops P R N v0 H0 ops (⟨some d,y,ty,ps,af,none⟩::l) K fr H Γ :=
  cR_ rfl fun a v A C U E=>by
    unfold Oper.wp;rw[I a v.w A];have h:=C.perm G;refine (V.run v h.sub (L v C E)).mono ?_;rintro e w' ⟨x,S,rfl,rfl,T,J,M⟩;obtain⟨k1,k2⟩:=M.frame h T;exact Q x _ S (A.put O) k1 (U.trans (k2.permL G.symm)) (fe_.2 ⟨J,aD_ (k2.le h) E⟩)
theorem f_ {f:FuncId} {xs:List Operand} {h:Array TypeId} {vs:List Value} {ι:Type} {Hc F:Hp} {m:List Fct} {e:ι→Value} {H':ι→Hp} {Γ':ι→List Fct}
    (y:Tri P f vs.toArray Hc m e H' Γ') (B:Fr.evs fr xs=some vs) (I:H.Perm (Hc++F)) (A:∀ v,v.sat H→ad_ Γ v→ad_ m v) (C:Nat.blt d N.n=true)
    (G:∀ x,Ops P R N v0 H0 ops l K ((d,e x)::fr) (H' x++F) (Γ' x++Γ)) :
    Ops P R N v0 H0 ops (⟨some d,.call ⟨.value (.func f),xs.toArray,h⟩,ty,ps,af,none⟩::l) K fr H Γ :=
  qq_ y (fun a w E=>by
    have:=E.evs B;simp[execOp,resolve,Deferred.ofValue,Act.eval,invoke,this,y.callable _ w]) I A C G
theorem an_ {f:FuncId} {xs:List Operand} {e:Array TypeId} {vs:List Value} {Hc F:Hp} {h:List Fct} {X:Bool}
    (A:Tri P f vs.toArray Hc h (fun _:Unit=>.bool X) (fun _=>Hc) (fun _=>[])) (B:Fr.evs fr xs=some vs) (C:H.Perm (Hc++F)) (y:∀ v,v.sat H→ad_ Γ v→ad_ h v) (m:Nat.blt d N.n=true)
    (x:∀ r:Bool,X=r→Ops P R N v0 H0 ops l K ((d,.bool r)::fr) (Hc++F) Γ) :
    Ops P R N v0 H0 ops (⟨some d,.call ⟨.value (.func f),xs.toArray,e⟩,ty,ps,af,none⟩::l) K fr H Γ :=
  f_ A B C y m fun _=>x X rfl
end ops
section body
variable {P:Program} {N:Nf} {fr:Fr} {H:Hp} {Γ:List Fct}
def lx_ {ι:Type} (v0:Vw) (H0:Hp) (ret:ι→Value) (H':ι→Hp) (Γ':ι→List Fct) (e:Ending) (w':World):Prop :=
  ∃ x v',e=.returned (ret x)∧v'.w=w'∧v'.sat (H' x)∧ad_ (Γ' x) v'∧v0.to H0 v' (H' x)
def lU_ (i:Nat):List Value→Fr
  | []=>[]
  | x::r=>(i,x)::lU_ (i+1) r
theorem kC_:∀ (l:List Value) (i t:Nat) (v:Value),Fr.get (lU_ i l) t=some v→i≤t∧l[t - i]? = some v
 | [],i,t,v,h=>by simp[lU_,Fr.get]at h
 | x::r,i,t,v,h=>by
   simp only[lU_,Fr.get]at h
   by_cases e:i=t
   · subst e
     simp only[Nat.beq_refl,cond_true,Option.some.injEq]at h;subst h;simp
   · have m:Nat.beq i t=false:=by
       cases m:Nat.beq i t
       · rfl
       · exact absurd (Nat.eq_of_beq_eq_true m) e
     rw[m,cond_false]at h;obtain⟨A,y⟩:=kC_ r (i+1) t v h;refine⟨by omega,?_⟩;rw[show t - i=(t - (i+1))+1 by omega];simpa using y
theorem j_ {N:Nat} {f:FuncId} {fn:Func} {c:Code} {args:List Value} {ι:Type} {e:ι→Value} {H':ι→Hp} {Γ':ι→List Fct}
    (A : P.funcs[f]? = some fn) (B : fn.body = some c) (J : (fn.name == "runtime.NumGoroutine") = false) (E : fn.ntmps = N) (hl : Nat.ble args.length N = true)
    (h:∀ v0,Run P (bodyPost P fn (lx_ v0 H e H' Γ')) N v0 H c [] (lU_ 0 args) H Γ):Tri P f args.toArray H Γ e H' Γ':=by
  refine⟨callable A B J,fun v F I=>calls_of_wp A B ?_⟩;have C:args.length≤N:=Nat.le_of_ble_eq_true hl;have:=h v ⟨args.toArray++Array.replicate (fn.ntmps - args.toArray.size) undef,[]⟩ v ⟨by simp[E];omega,rfl,fun t x G=>?_⟩ F (Vw.to.refl _ _) I
  · exact this
  · obtain⟨_,m⟩:=kC_ args 0 t x G
    simp only[Nat.sub_zero]at m;have y:=(List.getElem?_eq_some_iff.1 m).1;rw[Array.getElem?_append_left (by simpa using y)];simpa using m
theorem aa_ {N:Nat} {fn:Func} {t:Nat} {ι:Type} {v0:Vw} {H0 F:Hp} {ret:ι→Value} {H':ι→Hp} {Γ':ι→List Fct} (y:fn.results=#[.tmp t]) (x:ι) (m:Fr.get fr t=some (ret x)) (E:H.Perm (H' x++F))
    (h:∀ v,v.sat H→ad_ Γ v→ad_ (Γ' x) v):Ok N v0 H0 (bodyPost P fn (lx_ v0 H0 ret H' Γ') .ret) fr H Γ :=
  dk_ E h fun a v e A B C=>⟨e.defers,ret x,by rw[results_tmp y];have:=e.val t _ m;simp[this],x,v,rfl,rfl,A,C,B⟩
theorem fO_ {N:Nat} {fn:Func} {t s:Nat} {ι:Type} {v0:Vw} {H0 F:Hp} {ret:ι→Value} {H':ι→Hp} {Γ':ι→List Fct} {y A:Value} (I:fn.results=#[.tmp t,.tmp s]) (x:ι) (e:Fr.get fr t=some y) (m:Fr.get fr s=some A) (G:.tuple #[y,A]=ret x) (O:H.Perm (H' x++F))
    (E:∀ v,v.sat H→ad_ Γ v→ad_ (Γ' x) v):Ok N v0 H0 (bodyPost P fn (lx_ v0 H0 ret H' Γ') .ret) fr H Γ :=
  dk_ O E fun a v h J L M=>⟨h.defers,ret x,by rw[results_tmp2 I,← G];have B:=h.val t _ e;have C:=h.val s _ m;simp[B,C],x,v,rfl,rfl,J,M,L⟩
theorem s_ {t:Nat} {x y:Bool} (h:Fr.get fr t=some (.bool x)) (e:x=y):Fr.get fr t=some (.bool y):=e▸h
theorem be_ {t:Nat} {k:IntKind} {x y:Int} (h:Fr.get fr t=some (.int k x)) (e:x=y):Fr.get fr t=some (.int k y):=e▸h
theorem gg_ {t:Nat} {x y:List UInt8} (h:Fr.get fr t=some (str x)) (e:x=y):Fr.get fr t=some (str y):=e▸h
theorem ea_ {t:Nat} {x y:Value} (h:Fr.get fr t=some x) (e:x=y):Fr.get fr t=some y:=e▸h
abbrev Fn0 (P:Program) (f:FuncId) (args:Array Value) (ret:Value):Prop:=Tri P f args [] [] (fun _:Unit=>ret) (fun _=>[]) (fun _=>[])
end body
section cut
variable {P:Program} {N:Nf} {v0:Vw} {H0:Hp} {R:Exit→Act→World→Prop} {K:List Kt} {fr:Fr} {H:Hp} {Γ:List Fct}
def Mid (N:Nf) (v0:Vw) (H0:Hp) {ι:Type} (frs:ι→Fr) (Hs:ι→Hp) (Γs:ι→List Fct) (e:Exit) (a:Act) (w:World):Prop :=
  e=.normal∧∃ i v,v.w=w∧Fr.sat N (frs i) a∧v.sat (Hs i)∧v0.to H0 v (Hs i)∧ad_ (Γs i) v
theorem ic_ {ι:Type} {c:Code} (h:ι→Fr) (Hs:ι→Hp) (m:ι→List Fct) (B:Run P (Mid N v0 H0 h Hs m) N v0 H0 c [] fr H Γ) (E:∀ i,Fin P R N v0 H0 K (h i) (Hs i) (m i)):Run P R N v0 H0 c K fr H Γ:=by
  intro a v I y A G;refine wp_mono (B a v I y A G) ?_;rintro e a' w' ⟨rfl,i,C,rfl,k1,k2,F,x⟩;exact E i a' C k1 k2 F x
theorem dl_ {ι:Type} {e:ι→Fr} {Hs:ι→Hp} {m:ι→List Fct} (i:ι) {F:Hp} (h:Fr.le (e i) fr) (E:H.Perm (Hs i++F)) (B:∀ v,v.sat H→ad_ Γ v→ad_ (m i) v) :
    Ok N v0 H0 (Mid N v0 H0 e Hs m .normal) fr H Γ :=
  bt_ (e i) h (dk_ E B fun _ v x y A C=>⟨rfl,i,v,rfl,x,y,A,C⟩)
end cut
end Go.Sx
namespace Go.Sx
open Go
def bY_ (v:Vw) (ad:Ao) (cs:List Value):Prop :=
  cs=[]∨∃ b off arr T fz,ad=some ⟨b,off,none⟩∧v.im b∧v.w.heap[b]? = some (.cells arr T fz)∧∀ j x,cs[j]? = some x→arr[off+j]? = some x
def X_ (ad:Ao) (cs:List Value):Fct where
 p:=fun v=>bY_ v ad cs
 mono:=fun v v' h hp=>by
   rcases hp with hp|⟨b,off,arr,T,fz,h1,h2,h3,h4⟩
   · exact .inl hp
   · exact .inr ⟨b,off,arr,T,fz,h1,h.imUp b h2,by rw[h.block b h2];exact h3,h4⟩
def bas (ad:Ao):Addr:=ad.getD ⟨0,0,none⟩
def rad (ad:Ao) (k:Nat):Addr:=⟨(bas ad).block,(bas ad).off+k,none⟩
theorem bY_.addr {v:Vw} {ad:Ao} {cs:List Value} (h:bY_ v ad cs) (x:cs≠[]):∃ b off,ad=some ⟨b,off,none⟩:=by
 rcases h with h|⟨b,off,m,T,fz,e,_⟩
 ·exact absurd h x
 exact⟨b,off,e⟩
theorem bY_.cell {v:Vw} {ad:Ao} {cs:List Value} {k:Nat} {x:Value} (h:bY_ v ad cs) (e:cs[k]? = some x):v.w.cell? (rad ad k)=some x:=by
 rcases h with h|⟨b,off,m,T,fz,rfl,_,y,A⟩
 ·subst h;simp at e
 simp[rad,bas,World.cell?,y,A k x e]
theorem bY_.drop {v:Vw} {ad:Ao} {cs:List Value} (h:bY_ v ad cs) (n:Nat) (e:List Value) (y:∀ j x,e[j]? = some x→cs[n+j]? = some x):bY_ v (ad.map (·.add n)) e:=by
 rcases h with h|⟨b,off,m,T,fz,rfl,A,B,E⟩
 ·subst h
  left
  cases e with
  | nil=>rfl
  | cons d e=>have:=y 0 d rfl;simp at this
 exact .inr ⟨b,off+n,m,T,fz,by simp[cK_],A,B,fun j x C=>by rw[Nat.add_assoc];exact E _ _ (y j x C)⟩
theorem kD_ {α:Type} (f:α→List Value) (n:Nat) (e:∀ x,(f x).length=n):∀ (l:List α) (i j:Nat) (x:α),l[i]? = some x→j<n→(l.flatMap f)[i*n+j]? = (f x)[j]?
  | [],i,j,x,h,_=>by simp at h
  | y::l,0,j,x,h,hj=>by
    simp only[List.getElem?_cons_zero,Option.some.injEq]at h;subst h;simp only[List.flatMap_cons,Nat.zero_mul,Nat.zero_add];rw[List.getElem?_append_left (by rw[e];exact hj)]
  | y::l,i+1,j,x,h,hj=>by
    simp only[List.flatMap_cons];rw[List.getElem?_append_right (by rw[e,Nat.add_mul];omega),e,show (i+1)*n+j - n=i*n+j by rw[Nat.add_mul];omega];exact kD_ f n e l i j x zaB_ hj
theorem dU_ {α:Type} (f:α→List Value) (n:Nat) (e:∀ x,(f x).length=n):∀ (l:List α),(l.flatMap f).length=l.length*n
  | []=>by simp
  | y::l=>by simp only[List.flatMap_cons,List.length_append,e,List.length_cons,dU_ f n e l,Nat.add_mul];omega
section ops
variable {P:Program} {N:Nf} {v0:Vw} {H0:Hp} {R:Exit→Act→World→Prop} {K:List Kt} {fr:Fr} {H:Hp} {Γ:List Fct}
variable {ops:Array Oper} {l:List Oper} {d:Nat} {ty:TypeId} {ps:String} {af:Array Edge}
theorem U_ {t e:TypeId} {x y:Operand} {ad:Ao} {len cap n:Nat} {k:IntKind} {i:Int} (m:∀ w,(underlying t).run P w=.ok (.slice e) w) (B:∀ w,(sizeOf e).run P w=.ok n w)
    (A:Fr.ev fr x=some (.slice ad len cap)) (C:Fr.ev fr y=some (.int k i)) (G:∀ v,v.sat H→ad_ Γ v→∃ b off,ad=some ⟨b,off,none⟩) (I:0≤i) (hl:i<len) :
    Yld P N fr H Γ (.indexAddr t x y) ty (.pointer (some (rad ad (i.toNat*n)))) :=
  fun a v h E F _ _ _=>by
    obtain⟨b,off,rfl⟩:=G v E F;simp[execOp,h.ev A,h.ev C,Instr.indexAt,m,asIntOf,B,cK_,I,hl,rad,bas]
theorem nW_ {s:TypeId} {x:Operand} {f k o:Nat} {ad:Ao} {h:Array Field} {e:Field} {n:Nat} (A:∀ w,(underlying s).run P w=.ok (.struct h) w) (B:Fr.ev fr x=some (.pointer (some (rad ad k)))) (y:h[f]? = some e) (m:e.offset=o)
    (C:∀ w,(sizeOf e.type).run P w=.ok (n+1) w) :
    Yld P N fr H Γ (.fieldAddr s x f) ty (.pointer (some (rad ad (k+o)))) :=
  fun a v E F _ _ _ _=>by simp[execOp,E.ev B,Instr.fieldAt,A,y,Instr.sureAddr,fieldPlace,C,rad,cK_,m,Nat.add_assoc]
theorem bP_ {t:TypeId} {x:Operand} {ad:Ao} {k:Nat} {cs:List Value} {u:Value} (y:∀ w,(isAgg t).run P w=.ok false w) (B:Fr.ev fr x=some (.pointer (some (rad ad k))))
    (e:∀ v,v.sat H→ad_ Γ v→bY_ v ad cs) (A:cs[k]? = some u):Yld P N fr H Γ (.load t x) ty u :=
  hp_ B (fun v h m=>cd_ y ((e v h m).cell A))
theorem al_ {t:TypeId} {x:Operand} {ad:Ao} {k n:Nat} {cs us:List Value} (F:∀ w,(isAgg t).run P w=.ok true w) (m:∀ w,(sizeOf t).run P w=.ok n w) (h:Fr.ev fr x=some (.pointer (some (rad ad k))))
    (A:∀ v,v.sat H→ad_ Γ v→bY_ v ad cs) (G:us.length=n) (e:∀ j y,us[j]? = some y→cs[k+j]? = some y):Yld P N fr H Γ (.load t x) ty (.agg us.toArray) :=
  hp_ h (fun v B E=>dL_ F m G (fun j y C=>by
    have:=(A v B E).cell (e j y C);simpa [rad,Nat.add_assoc] using this))
theorem en_ {k:Act→World→Prop} {b:Nat} {o:Obj} {F:Hp} (f:Fct) (G:H.Perm ((b,o)::F)) (M:∀ v:Vw,v.im b→v.w.heap[b]? = some o→ad_ Γ v→f.p v) (h:Ok N v0 H0 k fr F (f::Γ)):Ok N v0 H0 k fr H Γ:=by
 intro a v O J m L;have g:=J.perm G;have I:=g.own (b,o) (List.mem_cons_self);have E:b<v.w.heap.size:=(Array.getElem?_eq_some_iff.1 I.1).1;have y:=g.nodup;rw[List.map_cons,List.nodup_cons]at y;have A:v.le ⟨fun x=>v.im x∨x=b,v.w,v.sl⟩:=⟨fun x e=>.inl e,fun _ _=>rfl,rfl⟩;have B:b∈H.map Prod.fst:=(G.map Prod.fst).mem_iff.2 zaf_;refine h a ⟨fun x=>v.im x∨x=b,v.w,v.sl⟩ O ⟨fun p C=>⟨(g.own p (List.mem_cons_of_mem _ C)).1,fun hi=>?_⟩,y.2,fun x e=>?_⟩ ?_ ⟨M _ (.inr rfl) I.1 (aD_ A L),aD_ A L⟩
 ·rcases hi with hi|hi
  ·exact (g.own p (List.mem_cons_of_mem _ C)).2 hi
  exact y.1 (by have:=List.mem_map_of_mem (f:=Prod.fst) C;rw[hi]at this;exact this)
 ·rcases e with e|e
  ·exact J.lt x e
  exact e▸E
 refine⟨m.os,m.tape,m.output,m.size,m.block,fun x e=>.inl (m.imUp x e),fun x e=>?_,fun x e=>m.hNew x ((G.map Prod.fst).mem_iff.2 (by rw[List.map_cons];exact List.mem_cons_of_mem _ e)),m.sl,m.dr⟩;rcases e with e|e
 ·exact m.imNew x e
 exact .inr (e▸m.hNew b B)
def az_ (e:TypeId) (sz:Nat) (sv:Value) (n:Nat) (xs:List Value) (Hr:Hp):Prop :=
  xs.length=n*sz∧((sv=.slice none 0 0∧n=0∧Hr=[]) ∨
    ∃ g cap cur,sv=.slice (some ⟨g,0,none⟩) n cap∧Hr=[(g,.cells cur e (0,0))]∧n≤cap∧cap≤maxLen∧cur.size=cap*sz∧cur.toList.take (n*sz)=xs)
theorem az_.nil (e:TypeId) (sz:Nat):az_ e sz (.slice none 0 0) 0 [] []:=⟨by simp,.inl ⟨rfl,rfl,rfl⟩⟩
theorem az_.owns {e:TypeId} {sz n:Nat} {sv:Value} {xs:List Value} {Hr F:Hp} {v:Vw} (h:az_ e sz sv n xs Hr) (A:v.sat (Hr++F)):v.w.ownsRow 0 e sz sv n xs:=by
 refine⟨h.1,?_⟩;rcases h.2 with⟨m,B,_⟩|⟨g,cap,cur,m,rfl,C,E,y,x⟩
 ·exact .inl ⟨m,B⟩
 exact .inr ⟨g,cap,cur,m,Nat.zero_le _,(A.own (g,.cells cur e (0,0)) zaf_).1,C,E,y,x⟩
theorem qG_ {e:TypeId} {sz n U:Nat} {sv L:Value} {xs ys:List Value} {Hr F:Hp} {v:Vw} {w':World} (h:az_ e sz sv n xs Hr) (J:v.sat (Hr++F)) (T:w'.ownsRow 0 e sz L U ys) (G:v.w.grownBy w' sv.ownBlock) (hd:v.w.drawn≤w'.drawn)
    (M:∀ g,L.ownBlock=some g→sv.ownBlock=some g∨v.w.heap.size≤g) :
    ∃ y,az_ e sz L U ys y∧(⟨v.im,w',v.sl⟩:Vw).sat (y++F)∧v.to (Hr++F) ⟨v.im,w',v.sl⟩ (y++F):=by
  have Q:∀ p,p∈Hr++F→p.1<v.w.heap.size:=fun p x=>(Array.getElem?_eq_some_iff.1 (J.own p x).1).1
  have C:∀ b,sv.ownBlock=some b→b∈Hr.map Prod.fst:=fun b A=>by
    rcases h.2 with⟨rfl,_,_⟩|⟨g,cap,cur,rfl,rfl,_⟩
    · simp[Value.ownBlock]at A
    · simp[Value.ownBlock]at A;simp[A]
  have B:=J.nodup;rw[List.map_append,List.nodup_append]at B;have hF:∀ p,p∈F→some p.1≠sv.ownBlock:=fun p x e=>B.2.2 _ (C p.1 e.symm) _ (List.mem_map_of_mem x) rfl
  have E:∀ p,p∈F→w'.heap[p.1]? = some p.2∧¬ v.im p.1:=fun p x=>by
    have:=J.own p (List.mem_append_right _ x);exact⟨by rw[G.block _ (Q p (List.mem_append_right _ x)) (hF p x)];exact this.1,this.2⟩
  have O:∀ y:Hp,(∀ b,b∈y.map Prod.fst→b∈Hr.map Prod.fst∨v.w.heap.size≤b)→v.to (Hr++F) ⟨v.im,w',v.sl⟩ (y++F):=fun y hh=>by
    refine⟨G.os,G.tape,G.output,G.size,fun b A X=>G.block b A (fun e=>X ?_),fun _ h=>h,fun _ h=>.inl h,fun b A=>?_,rfl,.inr hd⟩
    · rw[List.map_append];exact List.mem_append_left _ (C b e.symm)
    · rw[List.map_append]at A ⊢
      rcases List.mem_append.1 A with I|I
      · exact (hh b I).imp (List.mem_append_left _) id
      · exact .inl (List.mem_append_right _ I)
  rcases T.2 with⟨I,h2⟩|⟨g,cap,cur,I,_,h3,W,Z,Y,V⟩
  · refine⟨[],⟨T.1,.inl ⟨I,h2,rfl⟩⟩,⟨fun p x=>E p (by simpa using x),by simpa using B.2.1,fun b A=>Nat.lt_of_lt_of_le (J.lt b A) G.size⟩,O [] zaf_⟩
  · have m:g∈Hr.map Prod.fst∨v.w.heap.size≤g:=(M g (by rw[I];rfl)).imp (C g) id
    refine⟨[(g,.cells cur e (0,0))],⟨T.1,.inr ⟨g,cap,cur,I,rfl,W,Z,Y,V⟩⟩,⟨fun p x=>?_,?_,fun b A=>Nat.lt_of_lt_of_le (J.lt b A) G.size⟩,O _ zau_⟩
    · rcases List.mem_append.1 x with x|x
      · simp only[List.mem_singleton]at x
        subst x;refine⟨h3,fun hi=>?_⟩;rcases m with m|m
        · obtain⟨q,S,rfl⟩:=List.mem_map.1 m
          exact (J.own q (List.mem_append_left _ S)).2 hi
        · have:=J.lt _ hi;omega
      · exact E p x
    · simp only[List.map_append,List.map_cons,List.map_nil,List.singleton_append,List.nodup_cons]
      refine⟨fun hm=>?_,B.2.1⟩;obtain⟨q,S,e⟩:=List.mem_map.1 hm;rcases m with m|m
      · exact B.2.2 _ m _ (List.mem_map_of_mem S) e.symm
      · have:=Q q (List.mem_append_right _ S);omega
theorem lv_ (w:World) {t v e:TypeId} {i:TypeInfo} {z:Value} {n m c sz:Nat} {sv O:Value} {w':World} {xs news:List Value} {ad:Addr} (E:P.underlying t=some (.slice e)) (hi:P.info? e=some i) (Q:i.zero=some z)
    (G:i.size=sz) (y:w.ownsRow 0 e sz sv n xs) (hl:news.length=m*sz) (h:∀ j u,news[j]? = some u→w.cell? (ad.add j)=some u) (U:∀ u∈news,u.oneCell'=true) (L:n+m≤maxLen) (S:(n+m)*i.bytes≤140737488355328)
    (A:(Builtin.append_ #[t,t] v #[sv,.slice (some ad) m c]).run P w=.ok O w'):w.drawn≤w'.drawn∧∀ g,O.ownBlock=some g→sv.ownBlock=some g∨w.heap.size≤g:=by
  subst G;have F:n+m≤9223372036854775807:=by simp only[maxLen]at L;omega
  rcases y.2 with⟨rfl,rfl⟩|⟨b,cap,cur,rfl,_,M,V,_,I,J⟩
  · by_cases hm:m=0
    · subst hm
      have T:news=[]:=List.eq_nil_of_length_eq_zero (by simpa using hl);subst T
      have:(Builtin.append_ #[t,t] v #[.slice none 0 0,.slice (some ad) 0 c]).run P w=.ok (.slice none 0 0) w:=by
        simp[Builtin.append_,run_underlying E,sizeOf,typeInfo,hi,Builtin.lenOf,Builtin.firstCells,loadCells,loadCellsFrom]
      rw[this]at A;cases A;exact⟨Nat.le_refl _,fun g B=>by simp[Value.ownBlock]at B⟩
    · have:=run_append_nil (P:=P) w t v e i z E hi Q ad m c news hl h zaa_ zaa_ (by simp only[Nat.zero_add]at S;omega)
      rw[this]at A;cases A;refine⟨by simp,fun g B=>?_⟩;simp only[Value.ownBlock,Option.some.injEq]at B;exact .inr zaa_
  · by_cases x:n+m≤cap
    · have C:n*i.size+news.length≤cur.size:=by rw[hl,I,← Nat.add_mul];exact Nat.mul_le_mul_right _ x
      have:=run_append_room (P:=P) w t v e i E hi b n cap cur M ad m c news hl h U x C;rw[this]at A;cases A;exact⟨by simp,fun g B=>.inl B⟩
    · have ad_:∀ j u,xs[j]? = some u→w.cell? ((⟨b,0,none⟩:Addr).add j)=some u:=y.cells (g:=b) rfl
      have:=run_append_grow (P:=P) w t v e i z E hi Q ⟨b,0,none⟩ n cap xs y.1 ad_ ad m c news hl h zaa_ zaa_ (growslice_fits zaa_ S);rw[this]at A;cases A;refine⟨by simp,fun g B=>?_⟩;simp only[Value.ownBlock,Option.some.injEq]at B;exact .inr zaa_
structure Elt (P:Program) (t e:TypeId) (sz by':Nat):Prop where
  und:P.underlying t=some (.slice e)
  info:∃ i z,P.info? e=some i∧i.zero=some z∧i.size=sz∧i.bytes=by'∧z.cells.size=sz
  pos:0<sz
theorem aO_ {x y:Operand} {t e:TypeId} {sz by' n m c:Nat} {sv:Value} {xs news:List Value} {Hr F:Hp} {ad:Addr} (G:Elt P t e sz by') (A:az_ e sz sv n xs Hr)
    (hx:Fr.ev fr x=some sv) (hy:Fr.ev fr y=some (.slice (some ad) m c)) (L:H.Perm (Hr++F)) (hl:news.length=m*sz) (B:∀ v,v.sat H→ad_ Γ v→∀ j u,news[j]? = some u→v.w.cell? (ad.add j)=some u) (E:∀ u∈news,u.oneCell'=true)
    (C:n+m≤maxLen) (V:(n+m)*by'≤140737488355328) (hN:Nat.blt d N.n=true)
    (Y:∀ sv' h,az_ e sz sv' (n+m) (xs++news) h→Ops P R N v0 H0 ops l K ((d,sv')::fr) (h++F) Γ) :
    Ops P R N v0 H0 ops (⟨some d,.call ⟨.builtin .append,#[x,y],#[t,t]⟩,ty,ps,af,none⟩::l) K fr H Γ :=
  cR_ rfl fun a v I J h3 S=>by
    obtain⟨i,z,hi,U,es,O,ez⟩:=G.info;have g:=J.perm L;have T:=B v J S;have M:=A.owns g;obtain⟨Z,w',Q,X,q2,_⟩:=run_append_own (P:=P) v.w 0 t ty e i z sz by' G.und hi U es O ez G.pos sv n xs M ad m c news hl T E C V (Nat.zero_le _)
    obtain⟨a1,a2⟩:=lv_ v.w G.und hi U es M hl T E C (by rw[O];exact V) Q;obtain⟨h,k1,k2,W⟩:=qG_ A g X q2 a1 a2;unfold Oper.wp execOp;simp only[resolve,invoke,builtin,Sem.run_bind,Sem.run_pure,Result.andThen_ok,List.map_toArray,List.map_cons,List.map_nil,I.ev hx,I.ev hy,Q];exact Y Z h k1 _ ⟨v.im,w',v.sl⟩ (I.put hN) k2 (h3.trans (W.permL L.symm)) (aD_ ((W.permL L.symm).le J) S)
theorem pT_ {t:TypeId} {parts:Array (Nat×Operand)} {u:Value} (h:∀ a:Act,Fr.sat N fr a→∀ w,(Instr.build t (parts.map fun (i,x)=>(i,a.eval x))).run P w=.ok u w) :
    Yld P N fr H Γ (.build t parts) ty (u) :=
  fun a v e m y _ _ _=>by
    have:=h a e v.w;simp only[execOp,Sem.run_bind,this,Result.andThen_ok,Sem.run_pure]
def Fr.evp (fr:Fr):List (Nat×Operand)→Option (List (Nat×Value))
  | []=>some []
  | (i,x)::r=>match Fr.ev fr x with
    | some v=>match Fr.evp fr r with
      | some vs=>some ((i,v)::vs)
      | none=>none
    | none=>none
theorem Fr.sat.evp {a:Act} (h:Fr.sat N fr a):∀ {xs:List (Nat×Operand)} {vs:List (Nat×Value)},Fr.evp fr xs=some vs→xs.map (fun (i,x)=>(i,a.eval x))=vs
 | [],vs,e=>by simp only[Fr.evp,Option.some.injEq]at e;subst e;rfl
 | (i,x)::r,vs,e=>by
   simp only[Fr.evp]at e
   split at e
   · rename_i u v
     split at e
     · rename_i us m
       simp only[Option.some.injEq]at e;subst e;show (i,a.eval x)::_=_
       rw[h.ev v];exact congrArg _ (h.evp m)
     · cases e
   · cases e
def lP_:List Value→Nat→List Value→List Value
  | cs,0,[]=>cs
  | _::cs,0,v::vs=>v::lP_ cs 0 vs
  | c::cs,n+1,vs=>c::lP_ cs n vs
  | [],_,_=>[]
theorem tl_:∀ (cs:List Value) (n:Nat),lP_ cs n []=cs
  | [],0=>rfl
  | [],n+1=>rfl
  | c::cs,0=>rfl
  | c::cs,n+1=>by simp only[lP_];rw[tl_ cs n]
theorem qx_:∀ (cs:List Value) (n:Nat) (v:Value) (vs:List Value),lP_ cs n (v::vs)=lP_ (cs.set n v) (n+1) vs
  | [],0,v,vs=>by simp[lP_]
  | [],n+1,v,vs=>by simp[lP_]
  | c::cs,0,v,vs=>by simp[lP_]
  | c::cs,n+1,v,vs=>by simp only[lP_,List.set_cons_succ];rw[qx_ cs n v vs]
theorem qJ_ (off:Nat):∀ (vs:List Value) (k:Nat) (cs:List Value),
    (vs.zipIdx k).foldl (fun (cs:Array Value) (p:Value×Nat)=>cs.setIfInBounds (off+p.2) p.1) cs.toArray=(lP_ cs (off+k) vs).toArray
  | [],k,cs=>by simp[tl_]
  | v::vs,k,cs=>by
    simp only[List.zipIdx_cons,List.foldl_cons];rw[qx_,show cs.toArray.setIfInBounds (off+k) v=(cs.set (off+k) v).toArray by simp,qJ_ off vs (k+1)];rfl
def ng_ (place:Nat→Option (Nat×Nat)):List Value→List (Nat×Value)→Option (List Value)
  | cells,[]=>some cells
  | cells,(i,v)::rest=>match place i with
    | none=>none
    | some (off,size)=>bif Nat.beq v.cells.toList.length size&&Nat.ble (off+size) cells.length then ng_ place (lP_ cells off v.cells.toList) rest else none
theorem je_ (e:Nat→Option (Nat×Nat)):∀ (vs:List (Nat×Value)) (cells cs:List Value),ng_ e cells vs=some cs→Instr.fill e cells.toArray vs=some cs.toArray
  | [],cells,cs,h=>by simp only[ng_,Option.some.injEq]at h;subst h;rfl
  | (i,v)::rest,cells,cs,h=>by
    simp only[ng_]at h;cases hp:e i with
    | none=>rw[hp]at h;cases h
    | some q =>
      obtain⟨off,size⟩:=q;rw[hp]at h;simp only at h;cases hb:(Nat.beq v.cells.toList.length size&&Nat.ble (off+size) cells.length) with
      | false=>rw[hb]at h;cases h
      | true =>
        rw[hb,cond_true]at h;simp only[Bool.and_eq_true]at hb;have y:v.cells.size=size:=by simpa using Nat.eq_of_beq_eq_true hb.1
        have B:off+size≤cells.length:=Nat.le_of_ble_eq_true hb.2;have A:=je_ e rest _ _ h;have x:=qJ_ off v.cells.toList 0 cells;simp only[Nat.add_zero]at x
        have m:v.cells.zipIdx.foldl (fun (cs:Array Value) (p:Value×Nat)=>cs.setIfInBounds (off+p.2) p.1) cells.toArray=(lP_ cells off v.cells.toList).toArray:=by
          rw[← x,← Array.foldl_toList];simp[Array.toList_zipIdx]
        simp only[Instr.fill,hp];rw[if_neg (by simp[y];omega)];exact m▸A
def gQ_ (P:Program) (t:TypeId) (pl:List (Nat×Nat)) (z:List Value):Prop :=
  ∃ fs:Array Field,(∀ w,(zeroValue t).run P w=.ok (.agg z.toArray) w)∧(∀ w,(underlying t).run P w=.ok (.struct fs) w)∧(∀ w,(fs.mapM (fun (f:Field)=>(do pure (f.offset,← sizeOf f.type):Sem (Nat×Nat)))).run P w=.ok pl.toArray w)
theorem u_ {t:TypeId} {parts:List (Nat×Operand)} {vs:List (Nat×Value)} {pl:List (Nat×Nat)} {z cs:List Value} (y:gQ_ P t pl z) (x:Fr.evp fr parts=some vs) (v:ng_ (fun i=>pl[i]?) z vs=some cs) :
    Yld P N fr H Γ (.build t parts.toArray) ty (.agg cs.toArray) :=
  pT_ (fun a A w=>by
    obtain⟨E,h,m,C⟩:=y;have:=A.evp x;rw[List.map_toArray,this];have e:=je_ _ _ _ _ v;have B:Instr.fill (fun i=>pl.toArray[i]?) z.toArray vs=some cs.toArray:=by simpa using e
    simp only[Instr.build,Sem.run_bind,h,Result.andThen_ok,m,C,Value.cells,B,Sem.run_pure])
def jO_ (z:List Value):Nat→List Value
  | 0=>[]
  | n+1=>z++jO_ z n
theorem se_ (z:List Value) (e:0<z.length):∀ (n i:Nat),i<n*z.length→(jO_ z n)[i]? = z[i%z.length]?
 | 0,i,h=>by simp at h
 | n+1,i,h=>by
   simp only[jO_]
   by_cases hi:i<z.length
   · rw[List.getElem?_append_left hi,Nat.mod_eq_of_lt hi]
   · rw[List.getElem?_append_right zaa_,se_ z e n (i - z.length) (by rw[Nat.add_mul]at h;omega)]
     rw[← Nat.mod_eq_sub_mod zaa_]
theorem iK_ (z:List Value):∀ n,(jO_ z n).length=n*z.length
  | 0=>by simp[jO_]
  | n+1=>by simp only[jO_,List.length_append,iK_ z n,Nat.add_mul];omega
theorem kt_ (z:List Value) (e:0<z.length) (n:Nat):(Array.range (n*z.length)).map (fun i=>z.toArray[i%z.toArray.size]!)=(jO_ z n).toArray:=by
 apply Array.ext'
 apply List.ext_getElem?
 intro i;simp only[Array.toList_map,Array.toList_range,List.getElem?_map]
 by_cases hi:i<n*z.length
 ·rw[se_ z e n i hi,List.getElem?_range hi]
  have hm:i%z.length<z.length:=Nat.mod_lt _ e;simp[hm]
 rw[List.getElem?_eq_none (by simpa using hi),List.getElem?_eq_none (by rw[iK_];omega)];rfl
theorem G_ {t e:TypeId} {len sz:Nat} {parts:List (Nat×Operand)} {vs:List (Nat×Value)} {y:Value} {cs:List Value} (L:∀ w,(underlying t).run P w=.ok (.slice e) w) (O:∀ w,(sizeOf e).run P w=.ok sz w) (J:∀ w,(zeroValue e).run P w=.ok y w)
    (E:y.cells.toList.length=sz) (T:Nat.blt 0 (len*sz)=true) (A:Nat.ble (len*sz) 16777216=true) (M:Fr.evp fr parts=some vs) (I:ng_ (fun i=>some (i*sz,sz)) (jO_ y.cells.toList len) vs=some cs) (Q:Nat.blt d N.n=true)
    (U:∀ b,Ops P R N v0 H0 ops l K ((d,.slice (some ⟨b,0,none⟩) len len)::fr) ((b,.cells cs.toArray e (0,0))::H) Γ):Ops P R N v0 H0 ops (⟨some d,.buildSlice t len parts.toArray,ty,ps,af,none⟩::l) K fr H Γ :=
  hb_ (x:=fun b=>.slice (some ⟨b,0,none⟩) len len) Q (fun a v S V W=>by
    have B:=S.evp M;have h:=je_ _ _ _ _ I;have m:0<len*sz:=by simpa [Nat.blt_eq] using T
    have F:0<sz:=Nat.pos_of_mul_pos_left m;have G:len*sz≤16777216:=Nat.le_of_ble_eq_true A;have C:=kt_ y.cells.toList zaa_ len;rw[E]at C;simp only[Array.toArray_toList]at C;rw[← C]at h;simp only[execOp,Instr.buildSlice,Sem.run_bind,L,Result.andThen_ok,O,List.map_toArray,B];rw[if_neg zaa_,if_neg zaa_];simp only[Sem.run_bind,Sem.run_pure,J,Result.andThen_ok,h];rfl) U
end ops
end Go.Sx
namespace Go.Sx
open Go
section ops
variable {P:Program} {N:Nf} {v0:Vw} {H0:Hp} {R:Exit→Act→World→Prop} {K:List Kt} {fr:Fr} {H:Hp} {Γ:List Fct}
variable {ops:Array Oper} {l:List Oper} {d:Nat} {ty:TypeId} {ps:String} {af:Array Edge}
theorem sS_ (h:Array Obj) (o:Obj) (f:Obj→Obj):(h.push o).modify h.size f=h.push (f o):=by
 apply Array.ext_getElem?
 intro i;rw[Array.getElem?_modify]
 by_cases e:h.size=i
 ·subst e;simp
 rw[if_neg e,Array.getElem?_push,Array.getElem?_push,if_neg (fun h=>e h.symm),if_neg (fun h=>e h.symm)]
def bytesV (m:List UInt8):List Value:=m.map fun c=>.int .u8 (c.toNat:Int)
theorem BN_ {x:Operand} {s t e:TypeId} {m:List UInt8} (J:∀ w,(underlying s).run P w=.ok .string w) (S:∀ w,(underlying t).run P w=.ok (.slice e) w) (F:∀ w,(underlying e).run P w=.ok (.int .u8) w)
    (I:Fr.ev fr x=some (str m)) (M:Nat.blt d N.n=true)
    (Q:∀ cap b,m.length≤cap→Ops P R N v0 H0 ops l K ((d,.slice (some ⟨b,0,none⟩) m.length cap)::fr) ((b,.cells (bytesV m++List.replicate (cap - m.length) (Value.int .u8 0)).toArray e (cap,cap+1))::H) Γ) :
    Ops P R N v0 H0 ops (⟨some d,.convert s t x,ty,ps,af,none⟩::l) K fr H Γ :=
  oH_ (β:=Nat) (x:=fun cap b=>.slice (some ⟨b,0,none⟩) m.length cap) (o:=fun cap=>.cells (bytesV m++List.replicate (cap - m.length) (Value.int .u8 0)).toArray e (cap,cap+1)) (fun cap=>m.length≤cap) M
    (fun a v O T U=>by
      have y:m.length≤(Question.appendCap m.length 0 e).cut (v.w.tape v.w.drawn (.appendCap m.length 0 e)):=by simp[Question.cut]
      generalize G:(Question.appendCap m.length 0 e).cut (v.w.tape v.w.drawn (.appendCap m.length 0 e))=cap at y
      have h:(bytesV m++List.replicate (cap - m.length) (Value.int .u8 0)).length=cap:=by simp[bytesV];omega
      have E:(⟨m.toArray⟩:ByteArray).size=m.length:=by simp[ByteArray.size]
      have C:(Array.map (fun (b:UInt8)=>Value.int .u8 (b.toNat:Int)) m.toArray++Array.replicate (cap - m.length) (Value.int .u8 0))=(bytesV m++List.replicate (cap - m.length) (Value.int .u8 0)).toArray:=by simp[bytesV]
      refine⟨cap,{ v.w with heap:=v.w.heap.push (.cells (bytesV m++List.replicate (cap - m.length) (Value.int .u8 0)).toArray e (cap,cap+1)),drawn:=v.w.drawn+1 },y,?_,rfl,rfl,rfl,rfl,Nat.le_succ _⟩
      have B:(Conv.stringToBytes e ⟨m.toArray⟩).run P v.w=.ok (.slice (some ⟨v.w.heap.size,0,none⟩) m.length cap) { v.w with heap:=v.w.heap.push (.cells (bytesV m++List.replicate (cap - m.length) (Value.int .u8 0)).toArray e (cap,cap+1)),drawn:=v.w.drawn+1 }:=by
        generalize bytesV m++List.replicate (cap - m.length) (Value.int .u8 0)=cs at h C ⊢
        simp only[Conv.stringToBytes,E];show Sem.run P (choose _ >>= _) v.w=_
        rw[Sem.run_bind]
        have A:(choose (.appendCap m.length 0 e)).run P v.w=.ok cap { v.w with drawn:=v.w.drawn+1 }:=by
          simp[choose,Sem.run,Question.forced,G]
        rw[A,Result.andThen_ok,C];simp only[newRow,Sem.run_bind,newObj,markStringish,shape,freeze];simp only[Sem.run,Result.andThen_ok,World.shape?,Array.getElem?_push_size,List.size_toArray,h,World.freeze,Nat.one_ne_zero,if_false,Sem.run_pure];rw[sS_];simp
      simp only[execOp,Sem.run_bind,convert,J,S,F,Result.andThen_ok,O.ev I,str,B,Sem.run_pure])
    (fun cap b L=>Q cap b L)
theorem eI_ {t:TypeId} {x:Operand} {lo hi:Option Operand} {m:List UInt8} {i j:Nat} {kl kh:IntKind} (G:∀ w,(underlying t).run P w=.ok .string w) (F:Fr.ev fr x=some (str m))
    (h:match lo with|some y=>Fr.ev fr y=some (.int kl (i:Int))|none=>i=0) (e:match hi with|some y=>Fr.ev fr y=some (.int kh (j:Int))|none=>j=m.length) (B:i≤j) (I:j≤m.length) :
    Yld P N fr H Γ (.slice t x lo hi none) ty (str ((m.drop i).take (j - i))) :=
  fun a v A J L _ _ _=>by
    have C:(⟨m.toArray⟩:ByteArray).size=m.length:=by simp[ByteArray.size]
    have E:=ByteArray.extract_mk m i j;cases lo<;>cases hi<;>simp only at h e
    · subst h e;simp[execOp,Instr.sliceAt,Instr.slice,G,A.ev F,str,Instr.sliceBounds,C,E]
    · subst h;simp[execOp,Instr.sliceAt,Instr.slice,G,A.ev F,A.ev e,str,Instr.sliceBounds,Instr.sliceBound,asIntOf,C,E,I]
    · subst e;simp[execOp,Instr.sliceAt,Instr.slice,G,A.ev F,A.ev h,str,Instr.sliceBounds,Instr.sliceBound,asIntOf,C,E,B]
    · simp[execOp,Instr.sliceAt,Instr.slice,G,A.ev F,A.ev h,A.ev e,str,Instr.sliceBounds,Instr.sliceBound,asIntOf,C,E,B,I]
def sad (ad:Ao) (cap i n:Nat):Ao:=if cap=i then ad else ad.map (·.add (i*n))
theorem dH_ {t e:TypeId} {x:Operand} {lo hi:Option Operand} {ad:Ao} {len cap i j n:Nat} {kl kh:IntKind} (C:∀ w,(underlying t).run P w=.ok (.slice e) w) (E:∀ w,(sizeOf e).run P w=.ok n w) (F:Fr.ev fr x=some (.slice ad len cap))
    (m:match lo with|some y=>Fr.ev fr y=some (.int kl (i:Int))|none=>i=0) (h:match hi with|some y=>Fr.ev fr y=some (.int kh (j:Int))|none=>j=len) (B:i≤j) (G:j≤cap) :
    Yld P N fr H Γ (.slice t x lo hi none) ty (.slice (sad ad cap i n) (j - i) (cap - i)) :=
  fun a v A I J _ _ _=>by
    cases lo<;>cases hi<;>simp only at m h
    · subst m h;simp[execOp,Instr.sliceAt,Instr.slice,C,E,A.ev F,Instr.sliceBounds,sad]
    · subst m;simp[execOp,Instr.sliceAt,Instr.slice,C,E,A.ev F,A.ev h,Instr.sliceBounds,Instr.sliceBound,asIntOf,G,sad]
    · subst h;simp[execOp,Instr.sliceAt,Instr.slice,C,E,A.ev F,A.ev m,Instr.sliceBounds,Instr.sliceBound,asIntOf,B,sad]
    · simp[execOp,Instr.sliceAt,Instr.slice,C,E,A.ev F,A.ev m,A.ev h,Instr.sliceBounds,Instr.sliceBound,asIntOf,B,G,sad]
theorem bY_.sad {v:Vw} {ad:Ao} {cs:List Value} {cap i n:Nat} (h:bY_ v ad cs) (e:List Value) (y:∀ j x,e[j]? = some x→cs[i*n+j]? = some x) (A:cs.length≤cap*n):bY_ v (sad ad cap i n) e:=by
 unfold Sx.sad
 split
 ·rename_i m
  subst m;left
  cases e with
  | nil=>rfl
  | cons d e =>
    have:=y 0 d rfl;rw[List.getElem?_eq_none zaa_]at this;cases this
 exact h.drop (i*n) e y
theorem bm_ {fn:Fn} {xs ys:List Operand} {us vs:List Value} (y:Fr.evs fr xs=some us) (m:Fr.evs fr ys=some vs):Yld P N fr H Γ (.makeFunc fn xs.toArray ys.toArray) ty (.func fn us.toArray vs.toArray) :=
  fun a v e A B _ _ _=>by
    have h:=e.evs y;have x:=e.evs m;simp[execOp,Instr.makeFunc,h,x]
theorem Z_ {f:FuncId} {g:Operand} {first cap:List Value} {xs:List Operand} {h:Array TypeId} {vs:List Value} {ι:Type} {Hc F:Hp} {y:List Fct} {e:ι→Value} {H':ι→Hp} {Γ':ι→List Fct}
    (A:Tri P f (first++vs++cap).toArray Hc y e H' Γ') (L:Fr.ev fr g=some (.func (.func f) first.toArray cap.toArray)) (G:Fr.evs fr xs=some vs) (M:H.Perm (Hc++F)) (E:∀ v,v.sat H→ad_ Γ v→ad_ y v) (I:Nat.blt d N.n=true)
    (J:∀ x,Ops P R N v0 H0 ops l K ((d,e x)::fr) (H' x++F) (Γ' x++Γ)) :
    Ops P R N v0 H0 ops (⟨some d,.call ⟨.value g,xs.toArray,h⟩,ty,ps,af,none⟩::l) K fr H Γ :=
  qq_ A (fun a w m=>by
    have B:=m.evs G;have C:=A.callable (first++vs++cap).toArray w;simp only[execOp,resolve,Deferred.ofValue,m.ev L,invoke,List.map_toArray,B,Sem.run_bind,Sem.run_pure,Result.andThen_ok,List.append_toArray,C]) M E I J
end ops
end Go.Sx
namespace Go.Sx
open Go
class NoPan (R:Exit→Act→World→Prop):Prop where
  st:∀ c a d x w,R (.panic c) (a.put d x) w→R (.panic c) a w
instance {P:Program} {fn:Func} {ι:Type} {v0:Vw} {H0:Hp} {ret:ι→Value} {H':ι→Hp} {Γ':ι→List Fct}:NoPan (bodyPost P fn (lx_ v0 H0 ret H' Γ')) :=
  ⟨fun c a d x w h=>by obtain⟨_,y,v',e,_⟩:=h;cases e⟩
instance {N:Nf} {v0:Vw} {H0:Hp} {ι:Type} {frs:ι→Fr} {Hs:ι→Hp} {Γs:ι→List Fct}:NoPan (Mid N v0 H0 frs Hs Γs) :=
  ⟨fun c a d x w h=>by cases h.1⟩
theorem kV_ {P:Program} {R:Exit→Act→World→Prop} [hR:NoPan R] {c:List PanicEntry} {a:Act} {d:Option Tmp} {x:Value} {w:World}:∀ (K:List Kt),post P R K (.panic c) (a.put d x) w→post P R K (.panic c) a w
  | [],h=>hR.st c a d x w h
  | .seq _::K,h=>kV_ K h
  | .inv _::K,h=>kV_ K h
  | .blk _::K,h=>kV_ K h
def SW (Hs:Hp) (Γs:List Fct) (w:World):Prop:=∃ v:Vw,v.w=w∧v.sat Hs∧ad_ Γs v
section any
variable {P:Program} {N:Nf} {v0:Vw} {H0:Hp} {R:Exit→Act→World→Prop} {K:List Kt} {fr:Fr} {H Hs:Hp} {Γ Γs:List Fct}
variable {ops:Array Oper} {d:Nat} {ty:TypeId} {ps:String} {af:Array Edge} {fuel:Nat} {listed:Array Bool}
abbrev Any (P:Program) (R:Exit→Act→World→Prop) (N:Nf) (v0:Vw) (H0:Hp) (ops:Array Oper) (Hs:Hp) (Γs:List Fct) (fuel:Nat) (listed:Array Bool) (K:List Kt) (fr:Fr) (H:Hp) (Γ:List Fct):Prop :=
  Ok N v0 H0 (wpAnyH P .any ops (post P R K) (SW Hs Γs) fuel listed) fr H Γ
theorem sG_ {A:Nat} (Hs:Hp) (Γs:List Fct) (hm:P.follows .mixedOrders=true) (h:Any P R N v0 H0 ops Hs Γs ops.size (Array.replicate ops.size false) K fr H Γ):Run P R N v0 H0 (.region A ops true) K fr H Γ :=
  fun a v y m e B=>wp_region_held hm (by
    have x:v.le ⟨v.im,{ v.w with drawn:=v.w.drawn+1 },v.sl⟩:=⟨fun _ h=>h,fun _ _=>rfl,rfl⟩;exact h a ⟨v.im,{ v.w with drawn:=v.w.drawn+1 },v.sl⟩ y ⟨m.own,m.nodup,m.lt⟩ ⟨e.os,e.tape,e.output,e.size,e.block,e.imUp,e.imNew,e.hNew,e.sl,e.dr.imp (fun h=>h) fun h=>Nat.le_succ_of_le h⟩ (aD_ x B))
theorem wZ_ {e:Nat} (hm:P.follows .mixedOrders=true) (h:Any P R N v0 H0 ops H Γ ops.size (Array.replicate ops.size false) K fr H Γ):Run P R N v0 H0 (.region e ops true) K fr H Γ:=sG_ H Γ hm h
theorem Vw.sat.tail {v:Vw} {p:Nat×Obj} (h:v.sat (p::H)):v.sat H :=
  ⟨fun x e=>h.own x (List.mem_cons_of_mem _ e),by have:=h.nodup;rw[List.map_cons,List.nodup_cons]at this;exact this.2,h.lt⟩
theorem sa_ [NoPan R] (i:Nat) {e:Oper} {x:Value} (hi:ops[i]? = some e) (L:Region.noSelect ops=true) (B:Region.free .any ops listed i=true) (I:(Region.ready .any ops listed).contains i=true)
    (J:e.dst=some d) (F:Nat.blt d N.n=true) (G:∀ a,Fr.sat N fr a→YieldsIf P ops (SW Hs Γs) e x a) (C:∀ v,v.sat H→ad_ Γ v→v.sat Hs∧ad_ Γs v)
    (h:Any P R N v0 H0 ops Hs Γs fuel (listed.setIfInBounds i true) K ((d,x)::fr) H Γ):Any P R N v0 H0 ops Hs Γs (fuel+1) listed K fr H Γ :=
  fun a v m y M A=>wpAnyH_take hi L B I (fun c a w E=>kV_ K E) (G a m) ⟨v,rfl,C v y A⟩ (by
    rw[J];exact h _ v (m.put F) y M A)
theorem AM_ [NoPan R] (i:Nat) {m:Op} {x:Value} (hi:ops[i]? = some ⟨some d,m,ty,ps,af,none⟩) (F:Region.noSelect ops=true) (E:Region.free .any ops listed i=true) (C:(Region.ready .any ops listed).contains i=true)
    (B:Yld P N fr Hs Γs m ty x) (y:Nat.blt d N.n=true) (G:∀ v,v.sat H→ad_ Γ v→v.sat Hs∧ad_ Γs v)
    (h:Any P R N v0 H0 ops Hs Γs fuel (listed.setIfInBounds i true) K ((d,x)::fr) H Γ):Any P R N v0 H0 ops Hs Γs (fuel+1) listed K fr H Γ :=
  sa_ i hi F E C rfl y (fun a A=>.inl ⟨rfl,fun w ⟨v,e,k1,k2⟩=>by subst e;exact B a v A k1 k2 (some d) ps af⟩) G h
theorem yt_ [NoPan R] (i:Nat) {y:Op} {x:Value} {j t:Nat} {m:Bool} (hi:ops[i]? = some ⟨some d,y,ty,ps,af,some (j,m)⟩) (L:Region.noSelect ops=true) (C:Region.free .any ops listed i=true) (I:(Region.ready .any ops listed).contains i=true)
    (J:hF_ ops j=some t) (E:Fr.get fr t=some (.bool m)) (B:Yld P N fr Hs Γs y ty x) (G:Nat.blt d N.n=true) (F:∀ v,v.sat H→ad_ Γ v→v.sat Hs∧ad_ Γs v)
    (h:Any P R N v0 H0 ops Hs Γs fuel (listed.setIfInBounds i true) K ((d,x)::fr) H Γ):Any P R N v0 H0 ops Hs Γs (fuel+1) listed K fr H Γ :=
  sa_ i hi L C I rfl G (fun a A=>.inl ⟨by simp[Region.wanted,fp_ A J E],fun w ⟨v,e,k1,k2⟩=>by subst e;exact B a v A k1 k2 (some d) ps af⟩) F h
theorem any_no [NoPan R] (i:Nat) {m:Op} {x:Value} {j t:Nat} {e:Bool} (hi:ops[i]? = some ⟨some d,m,ty,ps,af,some (j,e)⟩) (I:Region.noSelect ops=true) (y:Region.free .any ops listed i=true) (F:(Region.ready .any ops listed).contains i=true)
    (G:hF_ ops j=some t) (A:Fr.get fr t=some x) (J:(match x with|.bool b=>Bool.xor b e|_=>true)=true) (C:Nat.blt d N.n=true) (B:∀ v,v.sat H→ad_ Γ v→v.sat Hs∧ad_ Γs v)
    (h:Any P R N v0 H0 ops Hs Γs fuel (listed.setIfInBounds i true) K ((d,undef)::fr) H Γ):Any P R N v0 H0 ops Hs Γs (fuel+1) listed K fr H Γ :=
  sa_ i hi I y F rfl C (fun a E=>.inr ⟨by
    simp only[Region.wanted,fp_ E G A];cases x<;>first|rfl|(rename_i b;cases b<;>cases e<;>simp_all),rfl⟩) B h
def jz_ (ops:Array Oper):Array Bool→List Nat→Bool
  | _,[]=>true
  | listed,i::is=>Region.free .any ops listed i&&((Region.ready .any ops listed).contains i&&jz_ ops (listed.setIfInBounds i true) is)
def Sq (P:Program) (R:Exit→Act→World→Prop) (N:Nf) (v0:Vw) (H0:Hp) (ops:Array Oper) (Hs:Hp) (Γs:List Fct) (is:List Nat) (fuel:Nat) (listed:Array Bool) (K:List Kt) (fr:Fr) (H:Hp) (Γ:List Fct):Prop :=
  (Region.noSelect ops&&jz_ ops listed is)=true→(∀ v,v.sat H→ad_ Γ v→v.sat Hs∧ad_ Γs v)→Any P R N v0 H0 ops Hs Γs (fuel+is.length) listed K fr H Γ
theorem D_ (fuel:Nat) (e:List Nat) (x:(Region.noSelect ops&&jz_ ops listed e)=true) (m:∀ v,v.sat H→ad_ Γ v→v.sat Hs∧ad_ Γs v) (h:Sq P R N v0 H0 ops Hs Γs e fuel listed K fr H Γ):Any P R N v0 H0 ops Hs Γs (fuel+e.length) listed K fr H Γ:=h x m
theorem bV_ (h:Any P R N v0 H0 ops Hs Γs fuel listed K fr H Γ):Sq P R N v0 H0 ops Hs Γs [] fuel listed K fr H Γ:=fun _ _=>h
theorem oq_ {i:Nat} {e:List Nat} (h:(Region.noSelect ops&&jz_ ops listed (i::e))=true):Region.noSelect ops=true∧Region.free .any ops listed i=true∧(Region.ready .any ops listed).contains i=true∧(Region.noSelect ops&&jz_ ops (listed.setIfInBounds i true) e)=true:=by
  simp only[jz_,Bool.and_eq_true]at h ⊢;exact⟨h.1,h.2.1,h.2.2.1,h.1,h.2.2.2⟩
theorem T_ [NoPan R] {i:Nat} {m:List Nat} {e:Op} {x:Value} (hi:ops[i]? = some ⟨some d,e,ty,ps,af,none⟩) (C:Yld P N fr Hs Γs e ty x) (y:Nat.blt d N.n=true)
    (h:Sq P R N v0 H0 ops Hs Γs m fuel (listed.setIfInBounds i true) K ((d,x)::fr) H Γ):Sq P R N v0 H0 ops Hs Γs (i::m) fuel listed K fr H Γ:=fun G v=>by
  obtain⟨E,B,A,F⟩:=oq_ G;exact AM_ i hi E B A C y v (h F v)
theorem gc_ [NoPan R] {i:Nat} {m:List Nat} {e:Op} {X:Bool} (hi:ops[i]? = some ⟨some d,e,ty,ps,af,none⟩) (x:Yld P N fr Hs Γs e ty (.bool X)) (v:Nat.blt d N.n=true)
    (h:∀ r:Bool,X=r→Sq P R N v0 H0 ops Hs Γs m fuel (listed.setIfInBounds i true) K ((d,.bool r)::fr) H Γ):Sq P R N v0 H0 ops Hs Γs (i::m) fuel listed K fr H Γ:=T_ hi x v (h X rfl)
theorem hZ_ [NoPan R] {i:Nat} {y:List Nat} {m:Op} {x:Value} {j t:Nat} {e:Bool} (hi:ops[i]? = some ⟨some d,m,ty,ps,af,some (j,e)⟩) (I:hF_ ops j=some t) (E:Fr.get fr t=some (.bool e)) (B:Yld P N fr Hs Γs m ty x) (G:Nat.blt d N.n=true)
    (h:Sq P R N v0 H0 ops Hs Γs y fuel (listed.setIfInBounds i true) K ((d,x)::fr) H Γ):Sq P R N v0 H0 ops Hs Γs (i::y) fuel listed K fr H Γ:=fun F v=>by
  obtain⟨C,L,A,J⟩:=oq_ F;exact yt_ i hi C L A I E B G v (h J v)
theorem iS_ [NoPan R] {i:Nat} {v:List Nat} {m:Op} {X:Bool} {j t:Nat} {e:Bool} (hi:ops[i]? = some ⟨some d,m,ty,ps,af,some (j,e)⟩) (A:hF_ ops j=some t) (B:Fr.get fr t=some (.bool e)) (y:Yld P N fr Hs Γs m ty (.bool X)) (x:Nat.blt d N.n=true)
    (h:∀ r:Bool,X=r→Sq P R N v0 H0 ops Hs Γs v fuel (listed.setIfInBounds i true) K ((d,.bool r)::fr) H Γ):Sq P R N v0 H0 ops Hs Γs (i::v) fuel listed K fr H Γ:=hZ_ hi A B y x (h X rfl)
theorem sq_no [NoPan R] {i:Nat} {y:List Nat} {B:Op} {x:Value} {j t:Nat} {e:Bool} (hi:ops[i]? = some ⟨some d,B,ty,ps,af,some (j,e)⟩) (I:hF_ ops j=some t) (E:Fr.get fr t=some x) (m:(match x with|.bool b=>Bool.xor b e|_=>true)=true) (G:Nat.blt d N.n=true)
    (h:Sq P R N v0 H0 ops Hs Γs y fuel (listed.setIfInBounds i true) K ((d,undef)::fr) H Γ):Sq P R N v0 H0 ops Hs Γs (i::y) fuel listed K fr H Γ:=fun F v=>by
  obtain⟨C,L,A,J⟩:=oq_ F;exact any_no i hi C L A I E m G v (h J v)
def Nx (P:Program) (R:Exit→Act→World→Prop) (ops:Array Oper) (Hs:Hp) (Γs:List Fct) (fuel:Nat) (listed:Array Bool) (K:List Kt) (a:Act) (w:World):Prop :=
  SW Hs Γs w∧wpAnyH P .any ops (post P R K) (SW Hs Γs) fuel listed a w
theorem p_ (i:Nat) {o:Oper} (hi:ops[i]? = some o) (A:Region.ready .any ops listed=[i]) (h:Ops P R N v0 H0 ops [o] (.inv (Nx P R ops Hs Γs fuel (listed.setIfInBounds i true) K)::K) fr H Γ):Any P R N v0 H0 ops Hs Γs (fuel+1) listed K fr H Γ:=by
 intro a v y B C E;refine wpAnyH_all A zaf_ fun j m=>?_;simp only[List.mem_singleton]at m;subst m;have:=h a v y B C E;unfold wpOp;simp only[hi];unfold wpList at this
 split
 ·rename_i e
  rw[if_pos e]at this;rcases this with q|q
  ·left
   unfold Oper.wp at q ⊢;generalize (execOp a.eval o).run P v.w=r at q ⊢
   cases r with
   | ok n w' =>
     cases n<;>simp only[Oper.upon]at q ⊢<;>exact q
   | halt x w' =>
     cases x<;>simp only[Oper.upon]at q ⊢
     case panic u=>exact q
  exact .inr q
 rename_i e
 rw[if_neg e]at this;exact this
theorem Q_ (A:∀ v,v.sat H→ad_ Γ v→v.sat Hs∧ad_ Γs v) (h:Any P R N v0 H0 ops Hs Γs fuel listed K fr H Γ):Ok N v0 H0 (Nx P R ops Hs Γs fuel listed K) fr H Γ :=
  fun a v x e y m=>⟨⟨v,rfl,A v e m⟩,h a v x e y m⟩
theorem pA_ (m:Region.ready .any ops listed=[]) (h:Fin P R N v0 H0 K fr H Γ):Any P R N v0 H0 ops Hs Γs fuel listed K fr H Γ :=
  fun a v e x y A=>wpAnyH_done m (h a v e x y A) fuel
theorem eo_ {α:Type} [BEq α] [LawfulBEq α] {a b:α} (h:(a != b)=true):a≠b:=by simpa using h
theorem er_ {α:Type} [BEq α] [LawfulBEq α] {a b:α} (h:(a != b)=false):a=b:=by simpa using h
theorem xi_ {N:Nat} {fn:Func} {t s u:Nat} {ι:Type} {F:Hp} {ret:ι→Value} {H':ι→Hp} {Γ':ι→List Fct} {A C B:Value} (L:fn.results=#[.tmp t,.tmp s,.tmp u]) (x:ι) (h:Fr.get fr t=some A) (y:Fr.get fr s=some C) (m:Fr.get fr u=some B) (J:.tuple #[A,C,B]=ret x) (S:H.Perm (H' x++F))
    (I:∀ v,v.sat H→ad_ Γ v→ad_ (Γ' x) v):Ok N v0 H0 (bodyPost P fn (lx_ v0 H0 ret H' Γ') .ret) fr H Γ :=
  dk_ S I fun a v e M O Q=>⟨e.defers,ret x,by rw[← J];have E:=e.val t _ h;have G:=e.val s _ y;have T:=e.val u _ m;simp[results,L,E,G,T],x,v,rfl,rfl,M,Q,O⟩
theorem ii_ {f:FuncId} {args:Array Value} {r:Value} (y:fj_ P f) (h:∀ w,Calls P f args w fun e w'=>e=.returned r∧w'.heap=w.heap∧w'.os=w.os∧w'.tape=w.tape∧w'.output=w.output∧w.drawn≤w'.drawn):Fn0 P f args r :=
  ⟨y,fun v C _=>(h v.w).mono fun e w' ⟨A,m,x,G,E,F⟩=>⟨(),⟨v.im,w',v.sl⟩,A,rfl,⟨by simp,by simp,fun b B=>by show b<w'.heap.size;rw[m];exact C.lt b B⟩,trivial,
    ⟨x,G,E,by simp[m],fun b _ _=>by show w'.heap[b]? = _;rw[m],fun _ h=>h,fun _ h=>.inl h,fun _ h=>by simp at h,rfl,.inr F⟩⟩⟩
theorem bS_ {f:FuncId} {g:Operand} {first cap:List Value} {l:List Oper} {xs:List Operand} {e:Array TypeId} {vs:List Value} {Hc F:Hp} {h:List Fct} {X:Bool}
    (C:Tri P f (first++vs++cap).toArray Hc h (fun _:Unit=>.bool X) (fun _=>Hc) (fun _=>[])) (B:Fr.ev fr g=some (.func (.func f) first.toArray cap.toArray)) (x:Fr.evs fr xs=some vs) (E:H.Perm (Hc++F)) (m:∀ v,v.sat H→ad_ Γ v→ad_ h v) (y:Nat.blt d N.n=true)
    (A:∀ r:Bool,X=r→Ops P R N v0 H0 ops l K ((d,.bool r)::fr) (Hc++F) Γ) :
    Ops P R N v0 H0 ops (⟨some d,.call ⟨.value g,xs.toArray,e⟩,ty,ps,af,none⟩::l) K fr H Γ :=
  Z_ C B x E m y fun _=>A X rfl
theorem A_ {k:Act→World→Prop} {H':Hp} (e:H.Perm H') (h:Ok N v0 H0 k fr H' Γ):Ok N v0 H0 k fr H Γ :=
  fun a v m y A B=>h a v m (y.perm e) (A.subR fun b x=>(e.map Prod.fst).mem_iff.2 x) B
theorem gf_:∀ {H:Hp} {i:Nat} {p:Nat×Obj},H[i]? = some p→H.Perm (p::H.eraseIdx i)
  | [],i,p,h=>by simp at h
  | x::H,0,p,h=>by simp at h;subst h;exact .refl _
  | x::H,i+1,p,h=>by
    have:=gf_ (H:=H) (i:=i) (p:=p) zaB_;exact (List.Perm.cons x this).trans (List.Perm.swap p x _)
theorem sY_:∀ {H:Hp} {i:Nat} {p q:Nat×Obj},H[i]? = some p→(q::H.eraseIdx i).Perm (H.set i q)
  | [],i,p,q,h=>by simp at h
  | x::H,0,p,q,h=>by exact .refl _
  | x::H,i+1,p,q,h=>by
    have:=sY_ (H:=H) (i:=i) (p:=p) (q:=q) zaB_;exact (List.Perm.swap x q _).trans (List.Perm.cons x this)
theorem xC_ {f:FuncId} {l:List Oper} {xs:List Operand} {e:Array TypeId} {vs:List Value} (i:Nat) {b:Nat} {o o':Obj} {h:List Fct} {r:Value}
    (B:Tri P f vs.toArray [(b,o)] h (fun _:Unit=>r) (fun _=>[(b,o')]) (fun _=>[])) (x:Fr.evs fr xs=some vs) (hi:H[i]? = some (b,o)) (m:∀ v,v.sat H→ad_ Γ v→ad_ h v) (y:Nat.blt d N.n=true)
    (A:Ops P R N v0 H0 ops l K ((d,r)::fr) (H.set i (b,o')) Γ) :
    Ops P R N v0 H0 ops (⟨some d,.call ⟨.value (.func f),xs.toArray,e⟩,ty,ps,af,none⟩::l) K fr H Γ :=
  f_ B x (gf_ hi) m y fun _=>A_ (sY_ hi) A
theorem oJ_ {f:FuncId} {l:List Oper} {xs:List Operand} {e:Array TypeId} {vs:List Value} (i:Nat) {b:Nat} {o o':Obj} {h:List Fct} {X:Bool}
    (B:Tri P f vs.toArray [(b,o)] h (fun _:Unit=>.bool X) (fun _=>[(b,o')]) (fun _=>[])) (x:Fr.evs fr xs=some vs) (hi:H[i]? = some (b,o)) (m:∀ v,v.sat H→ad_ Γ v→ad_ h v) (y:Nat.blt d N.n=true)
    (A:∀ r:Bool,X=r→Ops P R N v0 H0 ops l K ((d,.bool r)::fr) (H.set i (b,o')) Γ) :
    Ops P R N v0 H0 ops (⟨some d,.call ⟨.value (.func f),xs.toArray,e⟩,ty,ps,af,none⟩::l) K fr H Γ :=
  xC_ i B x hi m y (A X rfl)
end any
end Go.Sx
namespace Go.Sx
open Go
structure Opn (F:Fence):Prop where
  fn:∀ f,F.fn f
  depth:F.depth=none
theorem aM_:Opn Fence.wide:=⟨fun _=>trivial,rfl⟩
theorem J_ (l:Nat):Opn (Fence.wide.inRound l):=⟨fun _=>trivial,rfl⟩
theorem lt_ {F:Fence} {n:Nat} {P:Program} {f:FuncId} {args:Array Value} {w:World} {R:Ending→World→Prop} (h:Calls P f args w R) (l:Nat):CallsIn (Fence.wide.inRound l) n P f args w R :=
  (callsIn_wide (n:=n)).2 h
structure SatD (N:Nat) (D:List Deferred) (fr:Fr) (a:Act):Prop where
  sat:Fr.sat N fr ⟨a.tmps,[]⟩
  defers:a.defers=D
theorem SatD.put {N:Nat} {D:List Deferred} {fr:Fr} {a:Act} {d:Nat} {x:Value} (h:SatD N D fr a) (e:Nat.blt d N=true):SatD N D ((d,x)::fr) (a.put (some d) x) :=
  ⟨h.sat.put e,h.defers⟩
def OkD (N:Nat) (D:List Deferred) (v0:Vw) (H0:Hp) (k:Act→World→Prop) (fr:Fr) (H:Hp) (Γ:List Fct):Prop :=
  ∀ a v,SatD N D fr a→v.sat H→v0.to H0 v H→ad_ Γ v→k a v.w
def et_ (F:Fence) (n:Nat) (P:Program) (R:Exit→Act→World→Prop):List Kt→Exit→Act→World→Prop
  | [],e,a,w=>R e a w
  | .seq c::K,.normal,a,w=>c.wpIn F n P (et_ F n P R K) a w
  | .seq _::K,e,a,w=>et_ F n P R K e a w
  | .inv J::_,.normal,a,w=>J a w
  | .inv _::K,e,a,w=>et_ F n P R K e a w
  | .blk id::K,.exit id',a,w=>if id'=id then et_ F n P R K .normal a w else et_ F n P R K (.exit id') a w
  | .blk _::K,e,a,w=>et_ F n P R K e a w
section code
variable {F:Fence} {n:Nat} {P:Program} {N:Nat} {D:List Deferred} {v0:Vw} {H0:Hp} {R:Exit→Act→World→Prop} {K:List Kt} {fr:Fr} {H:Hp} {Γ:List Fct}
theorem qm_ (K:List Kt) (a:Act) (w:World) (h:R .ret a w):et_ F n P R K .ret a w:=by
  induction K with
  | nil=>exact h
  | cons x K ih=>cases x<;>exact ih
theorem oA_ {c:Code} {e:List Kt} {a:Act} {w:World}:∀ {K:List Kt},nxt K=some (c,e)→c.wpIn F n P (et_ F n P R e) a w→et_ F n P R K .normal a w
  | [],h,_=>by simp[nxt]at h
  | .seq _::K,h,hp=>by simp only[nxt,Option.some.injEq,Prod.mk.injEq]at h;obtain⟨rfl,rfl⟩:=h;exact hp
  | .blk _::K,h,hp=>oA_ (K:=K) (by simpa [nxt] using h) hp
  | .inv _::K,h,_=>by simp[nxt]at h
theorem lJ_ {a:Act} {w:World}:∀ {K:List Kt},fV_ K=true→R .normal a w→et_ F n P R K .normal a w
  | [],_,hp=>hp
  | .inv _::K,h,_=>by simp[fV_]at h
  | .blk _::K,h,hp=>lJ_ (K:=K) (by simpa [fV_] using h) hp
  | .seq _::K,h,_=>by simp[fV_]at h
abbrev it_ (F:Fence) (n:Nat) (P:Program) (R:Exit→Act→World→Prop) (N:Nat) (D:List Deferred) (v0:Vw) (H0:Hp) (c:Code) (K:List Kt) (fr:Fr) (H:Hp) (Γ:List Fct):Prop :=
  OkD N D v0 H0 (c.wpIn F n P (et_ F n P R K)) fr H Γ
abbrev vB_ (F:Fence) (n:Nat) (P:Program) (R:Exit→Act→World→Prop) (N:Nat) (D:List Deferred) (v0:Vw) (H0:Hp) (K:List Kt) (fr:Fr) (H:Hp) (Γ:List Fct):Prop :=
  OkD N D v0 H0 (et_ F n P R K .normal) fr H Γ
abbrev fi_ (F:Fence) (n:Nat) (P:Program) (R:Exit→Act→World→Prop) (N:Nat) (D:List Deferred) (v0:Vw) (H0:Hp) (ops:Array Oper) (l:List Oper) (K:List Kt) (fr:Fr) (H:Hp) (Γ:List Fct):Prop :=
  OkD N D v0 H0 (wpListIn F n P ops (et_ F n P R K) l) fr H Γ
theorem cw_ {x y:Code} (h:it_ F n P R N D v0 H0 x (.seq y::K) fr H Γ):it_ F n P R N D v0 H0 (.seq x y) K fr H Γ :=
  fun a v m A B C=>wpIn_seq (wpIn_mono (h a v m A B C) fun e a w E=>by cases e<;>exact E)
theorem dp_ {m:Nat} {c:Code} (h:it_ F n P R N D v0 H0 c (.blk m::K) fr H Γ):it_ F n P R N D v0 H0 (.block m c) K fr H Γ :=
  fun a v x y A B=>wpIn_block (wpIn_mono (h a v x y A B) fun e a w C=>by cases e<;>exact C)
theorem lF_ (h:vB_ F n P R N D v0 H0 K fr H Γ):it_ F n P R N D v0 H0 .skip K fr H Γ :=
  fun a v e m x y=>wpIn_skip (h a v e m x y)
theorem hv_ (h:OkD N D v0 H0 (R .ret) fr H Γ):it_ F n P R N D v0 H0 .ret K fr H Γ :=
  fun a v e m x y=>wpIn_ret (qm_ K a v.w (h a v e m x y))
theorem bF_ {c:Code} {e:List Kt} (B:nxt K=some (c,e)) (h:it_ F n P R N D v0 H0 c e fr H Γ):vB_ F n P R N D v0 H0 K fr H Γ :=
  fun a v m x y A=>oA_ B (h a v m x y A)
theorem cg_ (A:fV_ K=true) (h:OkD N D v0 H0 (R .normal) fr H Γ):vB_ F n P R N D v0 H0 K fr H Γ :=
  fun a v e m x y=>lJ_ A (h a v e m x y)
theorem av_ {m:Nat} {l:List Oper} (h:fi_ F n P R N D v0 H0 l.toArray l K fr H Γ):it_ F n P R N D v0 H0 (.region m l.toArray false) K fr H Γ :=
  fun a v e x y A=>wpIn_region_lit (h a v e x y A)
theorem bh_ {ops:Array Oper} (h:vB_ F n P R N D v0 H0 K fr H Γ):fi_ F n P R N D v0 H0 ops [] K fr H Γ :=
  fun a v e m x y=>wpListIn_nil (h a v e m x y)
theorem fN_ {c:Operand} {x y:Code} (h:Fr.ev fr c=some (.bool true)) (C:it_ F n P R N D v0 H0 x K fr H Γ):it_ F n P R N D v0 H0 (.cond c x y) K fr H Γ :=
  fun a v e m A B=>wpIn_cond_true (e.sat.ev h) (C a v e m A B)
theorem mU_ {c:Operand} {x y:Code} (m:Fr.ev fr c=some (.bool false)) (h:it_ F n P R N D v0 H0 y K fr H Γ):it_ F n P R N D v0 H0 (.cond c x y) K fr H Γ :=
  fun a v e A B C=>wpIn_cond_false (e.sat.ev m) (h a v e A B C)
def gG_:Op→Bool
  | .defer _=>false
  | _=>true
theorem semAt_eq {o:Oper} (h:gG_ o.op=true) (ro:Option Nat) (ρ:Operand→Value):o.semAt ro ρ=execOp ρ o :=
  Oper.semAt_eq ro ρ o (fun c e=>by rw[e]at h;cases h)
variable {ops:Array Oper} {l:List Oper} {d:Nat} {ty:TypeId} {ps:String} {af:Array Edge}
theorem uk_ {o:Oper} {a:Act} {w:World} {C E:Act→World→Prop} {Q:Exit→Act→World→Prop} (B:∀ a w,C a w→E a w) (h:o.wpIn F n P a w C Q):o.wpIn F n P a w E Q:=by
  refine⟨h.1,?_⟩;have m:=h.2;generalize (o.semAt F.round a.eval).run P w=r at m ⊢
  cases r with
  | ok nx w' =>
    cases nx<;>simp only[Oper.uponIn]at m ⊢<;>first|exact B _ _ m|exact m|skip
    case enter f args=>exact⟨m.1,m.2.mono fun e A y=>by cases e<;>first|exact B _ _ y|exact y⟩
    case row row args=>exact⟨m.1,m.2.mono fun v A y=>B _ _ y⟩
    case round l f tmps assign body=>exact⟨m.1,m.2.mono fun e A y=>by cases e<;>first|exact B _ _ y|exact y⟩
  | halt x w'=>cases x<;>simp only[Oper.uponIn]at m ⊢<;>exact m
theorem eg_ {o:Oper} (B:o.guard=none) (h:∀ a v,SatD N D fr a→v.sat H→v0.to H0 v H→ad_ Γ v→o.wpIn F n P a v.w (wpListIn F n P ops (et_ F n P R K) l) (et_ F n P R K)) :
    fi_ F n P R N D v0 H0 ops (o::l) K fr H Γ :=
  fun a v e x y A=>wpListIn_plain B fun C m=>uk_ m (h a v e x y A)
theorem I_ {e:Op} {x:Value} (G:Opn F) (E:Yld P N fr H Γ e ty x) (h:gG_ e=true) (B:Nat.blt d N=true)
    (C:fi_ F n P R N D v0 H0 ops l K ((d,x)::fr) H Γ):fi_ F n P R N D v0 H0 ops (⟨some d,e,ty,ps,af,none⟩::l) K fr H Γ :=
  eg_ rfl fun a v m y I A=>by
    refine⟨fun f _=>G.fn f,?_⟩;rw[semAt_eq h];have:=E ⟨a.tmps,[]⟩ v m.sat y A (some d) ps af;rw[show a.eval=Act.eval ⟨a.tmps,[]⟩ from rfl,this];exact C _ v (m.put B) y I A
theorem qr_ {e:Op} {X:Bool} (y:Opn F) (x:Yld P N fr H Γ e ty (.bool X)) (h:gG_ e=true) (m:Nat.blt d N=true)
    (v:∀ r:Bool,X=r→fi_ F n P R N D v0 H0 ops l K ((d,.bool r)::fr) H Γ):fi_ F n P R N D v0 H0 ops (⟨some d,e,ty,ps,af,none⟩::l) K fr H Γ :=
  I_ y x h m (v X rfl)
theorem oK_ {t:TypeId} {z:Value} (B:Opn F) (G:∀ w,(zeroValue t).run P w=.ok z w) (x:Nat.blt d N=true)
    (A:∀ b,fi_ F n P R N D v0 H0 ops l K ((d,.pointer (some ⟨b,0,none⟩))::fr) ((b,.cells z.cells t (0,0))::H) Γ):fi_ F n P R N D v0 H0 ops (⟨some d,.alloc t,ty,ps,af,none⟩::l) K fr H Γ :=
  eg_ rfl fun a v y h C E=>by
    refine⟨fun f _=>B.fn f,?_⟩;rw[semAt_eq rfl]
    have m:(execOp a.eval ⟨some d,.alloc t,ty,ps,af,none⟩).run P v.w=.ok (.value (.pointer (some ⟨v.w.heap.size,0,none⟩))) (v.w.alloc (.cells z.cells t (0,0))):=by
      simp[execOp,G,Instr.alloc,newVar,newRow,newObj];rfl
    rw[m];obtain⟨I,e⟩:=gd_ (w':=v.w.alloc (.cells z.cells t (0,0))) (o:=.cells z.cells t (0,0)) h rfl rfl rfl rfl (Nat.le_refl _);exact A v.w.heap.size _ ⟨v.im,_,v.sl⟩ (y.put x) I (C.trans e) (aD_ (e.le h) E)
theorem ef_ {t:TypeId} {x y:Operand} {b off m:Nat} (Y:Opn F) (i:Nat) {cur:Array Value} {T:TypeId} {u:Value} (L:∀ w,(sizeOf t).run P w=.ok m w)
    (W:Fr.ev fr x=some (.pointer (some ⟨b,off,none⟩))) (X:Fr.ev fr y=some u) (hi:H[i]? = some (b,.cells cur T (0,0))) (E:u.cells.size=m) (V:Nat.ble (off+m) cur.size=true) (C:u.cells.toList.all Value.oneCell'=true)
    (h:fi_ F n P R N D v0 H0 ops l K fr (H.set i (b,.cells (cur.toList.take off++u.cells.toList++cur.toList.drop (off+m)).toArray T (0,0))) Γ) :
    fi_ F n P R N D v0 H0 ops (⟨none,.store t x y,ty,ps,af,none⟩::l) K fr H Γ :=
  eg_ rfl fun a v A B Z M=>by
    refine⟨fun f _=>Y.fn f,?_⟩;rw[semAt_eq rfl];have I:=(B.own _ (List.mem_of_getElem? hi)).1;have e:=run_storeCells_at P b off T u.cells.toList 0 cur v.w I (by simp[E];exact Nat.le_of_ble_eq_true V) (fun c S=>List.all_eq_true.1 C c S)
    have U:(execOp a.eval ⟨none,.store t x y,ty,ps,af,none⟩).run P v.w=.ok .skip (v.w.setRow b (cur.toList.take off++u.cells.toList++cur.toList.drop (off+m)).toArray):=by
      simp only[Nat.add_zero,Array.length_toList,E]at e;have J:a.eval x=.pointer (some ⟨b,off,none⟩):=A.sat.ev W;have Q:a.eval y=u:=A.sat.ev X;simp[execOp,J,Q,Instr.storeAt,Instr.sureAddr,storeVar,L,E,e]
    rw[U];obtain⟨O,G⟩:=eY_ (w':=v.w.setRow b (cur.toList.take off++u.cells.toList++cur.toList.drop (off+m)).toArray) B hi rfl rfl rfl (Nat.le_refl _) zaf_ (setRow_heap _ _ _ _ _ _ I) (fun k h=>setRow_other _ _ _ _ h);exact h a _ A O (Z.trans G) (aD_ (G.le B) M)
theorem xD_ {r:Nat} {f:FuncId} {xs:List Operand} {A:Array TypeId} {vs:List Value} {ι:Type} {Hc G:Hp} {B:List Fct} {y:ι→Value} {H':ι→Hp} {Γ':ι→List Fct}
    (E:Tri P f vs.toArray Hc B y H' Γ') (X:Fr.evs fr xs=some vs) (L:H.Perm (Hc++G)) (V:∀ v,v.sat H→ad_ Γ v→ad_ B v) (Y:Nat.blt d N=true)
    (Q:∀ x,fi_ (Fence.wide.inRound r) n P R N D v0 H0 ops l K ((d,y x)::fr) (H' x++G) (Γ' x++Γ)) :
    fi_ (Fence.wide.inRound r) n P R N D v0 H0 ops (⟨some d,.call ⟨.value (.func f),xs.toArray,A⟩,ty,ps,af,none⟩::l) K fr H Γ :=
  eg_ rfl fun a v I J Z C=>by
    refine⟨fun f _=>trivial,?_⟩;rw[semAt_eq rfl]
    have U:(execOp a.eval ⟨some d,.call ⟨.value (.func f),xs.toArray,A⟩,ty,ps,af,none⟩).run P v.w=.ok (.enter f vs.toArray) v.w:=by
      have M:xs.map a.eval=vs:=I.sat.evs X;simp[execOp,resolve,Deferred.ofValue,Act.eval,invoke,M,E.callable _ v.w]
    rw[U];have m:=J.perm L;refine⟨fun h=>(by cases h),(lt_ (F:=Fence.wide) (E.run v m.sub (V v J C)) r).mono ?_⟩;rintro e w' ⟨x,S,rfl,rfl,T,O,W⟩;obtain⟨k1,k2⟩:=W.frame m T;exact Q x _ S (I.put Y) k1 (Z.trans (k2.permL L.symm)) (fe_.2 ⟨O,aD_ (k2.le m) C⟩)
def jr_ (P:Program) (l:Nat) (x:Value) (H:Hp) (Γ:List Fct) {ι:Type} (ret:ι→Value) (H':ι→Hp) (Γ':ι→List Fct):Prop :=
  ∀ v,v.sat H→ad_ Γ v→∃ fn tmps assign body,(Instr.yield l #[x]).run P v.w=.ok (.round l fn tmps assign body) v.w ∧
    ∀ n,RoundIn Fence.wide n P l fn tmps assign body v.w fun e w'=>∃ x v',e=.returned (ret x)∧v'.w=w'∧v'.sat (H' x)∧ad_ (Γ' x) v'∧v.to H v' (H' x)
theorem gC_ {r:Nat} {g y:Operand} {I:Array TypeId} {u:Value} {ι:Type} {Hc G:Hp} {M:List Fct} {C:ι→Value} {H':ι→Hp} {Γ':ι→List Fct}
    (Y:jr_ P r u Hc M C H' Γ') (X:Fr.ev fr g=some (.func (.yield r) #[] #[])) (hy:Fr.ev fr y=some u) (S:H.Perm (Hc++G)) (hΓ:∀ v,v.sat H→ad_ Γ v→ad_ M v) (hN:Nat.blt d N=true)
    (V:∀ x,fi_ Fence.wide n P R N D v0 H0 ops l K ((d,C x)::fr) (H' x++G) (Γ' x++Γ)) :
    fi_ Fence.wide n P R N D v0 H0 ops (⟨some d,.call ⟨.value g,#[y],I⟩,ty,ps,af,none⟩::l) K fr H Γ :=
  eg_ rfl fun a v L Q h3 O=>by
    refine⟨fun f _=>trivial,?_⟩;rw[semAt_eq rfl];have A:=Q.perm S;obtain⟨fn,E,m,B,J,Z⟩:=Y v A.sub (hΓ v Q O)
    have he:(execOp a.eval ⟨some d,.call ⟨.value g,#[y],I⟩,ty,ps,af,none⟩).run P v.w=.ok (.round r fn E m B) v.w:=by
      have T:a.eval g=.func (.yield r) #[] #[]:=L.sat.ev X;have e2:a.eval y=u:=L.sat.ev hy;simp[execOp,resolve,Deferred.ofValue,T,e2,invoke,J]
    rw[he];refine⟨fun h=>(by cases h),(Z _).mono ?_⟩;rintro e w' ⟨x,W,rfl,rfl,g1,U,g3⟩;obtain⟨k1,k2⟩:=g3.frame A g1;exact V x _ W (L.put hN) k1 (h3.trans (k2.permL S.symm)) (fe_.2 ⟨U,aD_ (k2.le A) O⟩)
theorem dA_ {k:Act→World→Prop}:OkD N [] v0 H0 k fr H Γ↔Ok N v0 H0 k fr H Γ :=
  ⟨fun h a v e m x y=>h a v ⟨⟨e.size,rfl,e.val⟩,e.defers⟩ m x y,fun h a v e m x y=>h a v ⟨e.sat.size,e.defers,e.sat.val⟩ m x y⟩
end code
end Go.Sx
namespace Go.Sx
open Go
section
variable {F:Fence} {n:Nat} {P:Program} {N:Nat} {D:List Deferred} {v0:Vw} {H0:Hp} {R:Exit→Act→World→Prop} {K:List Kt} {fr:Fr} {H:Hp} {Γ:List Fct}
variable {ops:Array Oper} {l:List Oper} {d:Nat} {ty:TypeId} {ps:String} {af:Array Edge}
theorem gD_ (M:Opn F) {y:Op} {x:Option Nat} {j t:Nat} {m:Bool} (G:hF_ ops j=some t) (L:Fr.get fr t=some (.bool m))
    (h:fi_ F n P R N D v0 H0 ops (⟨x,y,ty,ps,af,none⟩::l) K fr H Γ):fi_ F n P R N D v0 H0 ops (⟨x,y,ty,ps,af,some (j,m)⟩::l) K fr H Γ :=
  fun a v B E I J=>by
    have C:Region.wanted (⟨x,y,ty,ps,af,some (j,m)⟩:Oper) (yielded ops a.tmps)=true:=by
      have e:=fp_ (a:=⟨a.tmps,[]⟩) B.sat G L;simp only at e;simp[Region.wanted,e]
    have A:Region.wanted (⟨x,y,ty,ps,af,none⟩:Oper) (yielded ops a.tmps)=true:=rfl;have:=h a v B E I J;unfold wpListIn at this ⊢;rw[if_pos A]at this;rw[if_pos C];exact this
theorem rs_ (J:Opn F) {y:Op} {j t:Nat} {m:Bool} {x:Value} (I:hF_ ops j=some t) (B:Fr.get fr t=some x) (O:(match x with|.bool b=>Bool.xor b m|_=>true)=true) (C:Nat.blt d N=true)
    (h:fi_ F n P R N D v0 H0 ops l K ((d,undef)::fr) H Γ):fi_ F n P R N D v0 H0 ops (⟨some d,y,ty,ps,af,some (j,m)⟩::l) K fr H Γ :=
  fun a v A G L M=>by
    have E:Region.wanted (⟨some d,y,ty,ps,af,some (j,m)⟩:Oper) (yielded ops a.tmps)=false:=by
      have e:=fp_ (a:=⟨a.tmps,[]⟩) A.sat I B;simp only at e;simp only[Region.wanted,e];cases x<;>first|rfl|(rename_i b;cases b<;>cases m<;>simp_all)
    unfold wpListIn;rw[if_neg (by rw[E];exact Bool.false_ne_true)];exact⟨fun f _=>J.fn f,h _ v (A.put C) G L M⟩
end
end Go.Sx
