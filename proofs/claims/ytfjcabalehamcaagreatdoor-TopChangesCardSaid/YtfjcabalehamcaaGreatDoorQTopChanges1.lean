/-
  Lemmas for the law TopChanges (no condition).
-/
import Derived.Test.YtfjcabalehamcaaGreatDoorQTopChanges0
import Derived.WalkKit
import Derived.OrdersHeld
import Derived.Deep.LoopGhost
import Derived.RangeFuncIn
import Derived.RangeFuncLeaves
import Derived.TacticsIn
set_option linter.unusedVariables false
set_option linter.unusedSimpArgs false
set_option linter.unusedSectionVars false
set_option maxHeartbeats 1000000
namespace Go.Sx
open Go
structure Vw where
  im:Nat->Prop
  w:World
  sl:Prop
abbrev Fr:=List (Nat×Value)
abbrev Hp:=List (Nat×Obj)
def Fr.get:Fr->Nat->Option Value
  | [],_=>none
  | (t,v)::r,n=>bif Nat.beq t n then some v else Fr.get r n
structure Nf where
  n:Nat
  D:List Deferred
instance:Coe Nat Nf:=⟨λn=>⟨n,[]⟩⟩
structure Fr.sat (N:Nf) (fr:Fr) (a:Act):Prop where
  size:a.tmps.size=N.n
  defers:a.defers=N.D
  val:∀ t v,Fr.get fr t=some v->a.tmps[t]? = some v
structure Vw.sat (v:Vw) (H:Hp):Prop where
  own:∀ p,p∈H->v.w.heap[p.1]? = some p.2/\¬ v.im p.1
  nodup:(H.map Prod.fst).Nodup
  lt:∀ b,v.im b->b<v.w.heap.size
structure Vw.to (v:Vw) (H:Hp) (v':Vw) (H':Hp):Prop where
  os:v'.w.os=v.w.os
  tape:v'.w.tape=v.w.tape
  output:v'.w.output=v.w.output
  size:v.w.heap.size<=v'.w.heap.size
  block:∀ b,b<v.w.heap.size->b ∉ H.map Prod.fst->v'.w.heap[b]? = v.w.heap[b]?
  imUp:∀ b,v.im b->v'.im b
  imNew:∀ b,v'.im b->v.im b\/b∈H.map Prod.fst\/v.w.heap.size<=b
  hNew:∀ b,b∈H'.map Prod.fst->b∈H.map Prod.fst\/v.w.heap.size<=b
  sl:v'.sl=v.sl
  dr:v.sl\/v.w.drawn<=v'.w.drawn
structure Vw.le (v v':Vw):Prop where
  imUp:∀ b,v.im b->v'.im b
  block:∀ b,v.im b->v'.w.heap[b]? = v.w.heap[b]?
  sl:v'.sl=v.sl
structure Fct where
  p:Vw->Prop
  mono:∀ v v',v.le v'->p v->p v'
def Z_:List Fct->Vw->Prop
  | [],_=>True
  | f::l,v=>f.p v/\Z_ l v
theorem dP_ {a b:List Fct} {v:Vw}:Z_ (a++b) v↔Z_ a v/\Z_ b v:=by
  induction a with
  | nil=>simp[Z_]
  | cons f l ih=>simp[Z_,ih,and_assoc]
theorem aB_ {l:List Fct} {v d:Vw} (h:v.le d):Z_ l v->Z_ l d:=by
  induction l with
  | nil=>exact λ_=>trivial
  | cons f l ih=>exact λ⟨a,b⟩=>⟨f.mono _ _ h a,ih b⟩
theorem Vw.to.le {v d:Vw} {H H':Hp} (x:v.sat H) (h:v.to H d H'):v.le d :=
  ⟨h.imUp,λb m=>h.block b (x.lt b m) (λhm=>by
    obtain⟨p,y,rfl⟩:=yas_.1 hm;exact (x.own p y).2 m),h.sl⟩
theorem Vw.to.refl (v:Vw) (H:Hp):v.to H v H :=
  ⟨rfl,rfl,rfl,yae_ _,λ_ _ _=>rfl,λ_ h=>h,λ_ h=>.inl h,λ_ h=>.inl h,rfl,.inr (yae_ _)⟩
theorem Vw.to.trans {a b c:Vw} {y A Hc:Hp} (h:a.to y b A) (k:b.to A c Hc):a.to y c Hc where
 os:=k.os.trans h.os
 tape:=k.tape.trans h.tape
 output:=k.output.trans h.output
 size:=ybv_ h.size k.size
 block:=λx m B=>by
   rw[k.block x (ycs_ m h.size) (λhm=>(h.hNew x hm).elim B (λhl=>by omega))];exact h.block x m B
 imUp:=λx m=>k.imUp x (h.imUp x m)
 imNew:=λx m=>by
   rcases k.imNew x m with d|d|d
   . exact h.imNew x d
   . exact .inr (h.hNew x d)
   . exact .inr (.inr (ybv_ h.size d))
 hNew:=λx m=>by
   rcases k.hNew x m with d|d
   . exact h.hNew x d
   . exact .inr (ybv_ h.size d)
 sl:=k.sl.trans h.sl
 dr:=by
   rcases h.dr with d|d
   . exact .inl d
   . rcases k.dr with v|v
     . exact .inl (by rw[<-h.sl];exact v)
     . exact .inr (ybv_ d v)
theorem Vw.to.frame {v J:Vw} {H H' F:Hp} (M:v.sat (H++F)) (B:J.sat H') (h:v.to H J H') :
    J.sat (H'++F)/\v.to (H++F) J (H'++F):=by
  have C:=M.nodup;rw[yaw_,yaY_]at C;have hF:∀ p,p∈F->p.1 ∉ H.map Prod.fst:=λp m hm=>C.2.2 _ hm _ (yaI_ m) rfl
  have A:∀ p,p∈F->p.1<v.w.heap.size:=λp m=>by
    have:=(M.own p (yay_ _ m)).1;exact (yaD_.1 this).1
  have I:∀ p,p∈F->p.1 ∉ H'.map Prod.fst:=λp m hm=>by
    rcases h.hNew _ hm with d|d
    . exact hF p m d
    . have:=A p m;omega
  refine⟨⟨λp m=>?_,?_,B.lt⟩,?_⟩
  . rcases yag_.1 m with d|d
    . exact B.own p d
    . have E:=M.own p (yay_ _ d)
      refine⟨by rw[h.block _ (A p d) (hF p d)];exact E.1,λhi=>?_⟩;rcases h.imNew _ hi with L|L|L
      . exact E.2 L
      . exact hF p d L
      . have:=A p d;omega
  . rw[yaw_,yaY_]
    refine⟨B.nodup,C.2.1,λx Q y O e=>?_⟩;subst e;obtain⟨p,m,rfl⟩:=yas_.1 O;exact I p m Q
  . refine⟨h.os,h.tape,h.output,h.size,λb G S=>h.block b G (λhm=>S ?_),h.imUp,λb G=>?_,λb G=>?_,h.sl,h.dr⟩
    . rw[yaw_];exact yal_ _ hm
    . rcases h.imNew b G with d|d|d
      . exact .inl d
      . exact .inr (.inl (by rw[yaw_];exact yal_ _ d))
      . exact .inr (.inr d)
    . rw[yaw_]at G ⊢
      rcases yag_.1 G with d|d
      . rcases h.hNew b d with E|E
        . exact .inl (yal_ _ E)
        . exact .inr E
      . exact .inl (yay_ _ d)
theorem Vw.sat.perm {v:Vw} {H H':Hp} (h:v.sat H) (p:H.Perm H'):v.sat H' :=
  ⟨λx d=>h.own x (p.mem_iff.2 d),(p.map _).nodup_iff.1 h.nodup,h.lt⟩
theorem Vw.sat.sub {v:Vw} {H F:Hp} (h:v.sat (H++F)):v.sat H :=
  ⟨λx d=>h.own x (yal_ _ d),by have:=h.nodup;rw[yaw_,yaY_]at this;exact this.1,h.lt⟩
theorem Vw.to.permL {v m:Vw} {H K H':Hp} (h:v.to H m H') (p:H.Perm K):v.to K m H':=by
  have e:∀ b,b∈H.map Prod.fst↔b∈K.map Prod.fst:=λb=>(p.map _).mem_iff
  exact⟨h.os,h.tape,h.output,h.size,λb d x=>h.block b d (λhm=>x ((e b).1 hm)),h.imUp,
    λb d=>(h.imNew b d).imp id (Or.imp (e b).1 id),λb d=>(h.hNew b d).imp (e b).1 id,h.sl,h.dr⟩
theorem Vw.to.subR {v d:Vw} {H H' K:Hp} (h:v.to H d H') (p:∀ b,b∈K.map Prod.fst->b∈H'.map Prod.fst):v.to H d K :=
  ⟨h.os,h.tape,h.output,h.size,h.block,h.imUp,h.imNew,λb m=>h.hNew b (p b m),h.sl,h.dr⟩
def Ok (N:Nf) (v0:Vw) (H0:Hp) (k:Act->World->Prop) (fr:Fr) (H:Hp) (Γ:List Fct):Prop :=
  ∀ a v,Fr.sat N fr a->v.sat H->v0.to H0 v H->Z_ Γ v->k a v.w
inductive Kt where
  | seq (c:Code)
  | blk (id:Nat)
  | inv (J:Act->World->Prop)
def post (P:Program) (R:Exit->Act->World->Prop):List Kt->Exit->Act->World->Prop
  | [],e,a,w=>R e a w
  | .seq c::K,.normal,a,w=>c.wp P (post P R K) a w
  | .seq _::K,e,a,w=>post P R K e a w
  | .inv J::_,.normal,a,w=>J a w
  | .inv _::K,e,a,w=>post P R K e a w
  | .blk id::K,.exit id',a,w=>if id'=id then post P R K .normal a w else post P R K (.exit id') a w
  | .blk _::K,e,a,w=>post P R K e a w
theorem wT_ (P:Program) (R:Exit->Act->World->Prop) (K:List Kt) (a:Act) (w:World) (h:R .ret a w):post P R K .ret a w:=by
  induction K with
  | nil=>exact h
  | cons x K ih=>cases x<;>exact ih
def unw (id:Nat):List Kt->Option (List Kt)
  | []=>none
  | .blk i::K=>bif Nat.beq id i then some K else unw id K
  | .seq _::K=>unw id K
  | .inv _::K=>unw id K
theorem iL_ {P:Program} {R:Exit->Act->World->Prop} {d:Nat} {m:List Kt} {a:Act} {w:World} :
    ∀ {K:List Kt},unw d K=some m->post P R m .normal a w->post P R K (.exit d) a w
  | [],h,_=>by simp[unw]at h
  | .seq _::K,h,hp=>iL_ (K:=K) (by simpa [unw] using h) hp
  | .inv _::K,h,hp=>iL_ (K:=K) (by simpa [unw] using h) hp
  | .blk i::K,h,hp=>by
    simp only[unw]at h
    by_cases e:d=i
    . subst e
      simp only[ydB_,cond_true,yam_]at h;subst h;simp only[post,yck_];exact hp
    . have:Nat.beq d i=false:=by
        cases hb:Nat.beq d i
        . rfl
        . exact absurd (ycd_ hb) e
      rw[this,cond_false]at h;simp only[post,e,yca_];exact iL_ h hp
def nxt:List Kt->Option (Code×List Kt)
  | .seq c::K=>some (c,K)
  | .blk _::K=>nxt K
  | _=>none
theorem oy_ {P:Program} {R:Exit->Act->World->Prop} {c:Code} {d:List Kt} {a:Act} {w:World} :
    ∀ {K:List Kt},nxt K=some (c,d)->c.wp P (post P R d) a w->post P R K .normal a w
  | [],h,_=>by simp[nxt]at h
  | .seq _::K,h,hp=>by simp only[nxt,yam_,ybD_]at h;obtain⟨rfl,rfl⟩:=h;exact hp
  | .blk _::K,h,hp=>oy_ (K:=K) (by simpa [nxt] using h) hp
  | .inv _::K,h,_=>by simp[nxt]at h
def jw_:List Kt->Option (Act->World->Prop)
  | .inv J::_=>some J
  | .blk _::K=>jw_ K
  | _=>none
theorem ra_ {P:Program} {R:Exit->Act->World->Prop} {J:Act->World->Prop} {a:Act} {w:World} :
    ∀ {K:List Kt},jw_ K=some J->J a w->post P R K .normal a w
  | [],h,_=>by simp[jw_]at h
  | .inv _::K,h,hp=>by simp only[jw_,yam_]at h;subst h;exact hp
  | .blk _::K,h,hp=>ra_ (K:=K) (by simpa [jw_] using h) hp
  | .seq _::K,h,_=>by simp[jw_]at h
def ga_:List Kt->Bool
  | []=>true
  | .blk _::K=>ga_ K
  | _=>false
theorem rb_ {P:Program} {R:Exit->Act->World->Prop} {a:Act} {w:World} :
    ∀ {K:List Kt},ga_ K=true->R .normal a w->post P R K .normal a w
  | [],_,hp=>hp
  | .inv _::K,h,_=>by simp[ga_]at h
  | .blk _::K,h,hp=>rb_ (K:=K) (by simpa [ga_] using h) hp
  | .seq _::K,h,_=>by simp[ga_]at h
section code
variable {P:Program} {N:Nf} {v0:Vw} {H0:Hp} {R:Exit->Act->World->Prop} {K:List Kt} {fr:Fr} {H:Hp} {Γ:List Fct}
abbrev Run (P:Program) (R:Exit->Act->World->Prop) (N:Nf) (v0:Vw) (H0:Hp) (c:Code) (K:List Kt) (fr:Fr) (H:Hp) (Γ:List Fct):Prop :=
  Ok N v0 H0 (c.wp P (post P R K)) fr H Γ
abbrev Fin (P:Program) (R:Exit->Act->World->Prop) (N:Nf) (v0:Vw) (H0:Hp) (K:List Kt) (fr:Fr) (H:Hp) (Γ:List Fct):Prop :=
  Ok N v0 H0 (post P R K .normal) fr H Γ
abbrev Ops (P:Program) (R:Exit->Act->World->Prop) (N:Nf) (v0:Vw) (H0:Hp) (ops:Array Oper) (l:List Oper) (K:List Kt) (fr:Fr) (H:Hp) (Γ:List Fct):Prop :=
  Ok N v0 H0 (wpList P ops (post P R K) l) fr H Γ
theorem bb_ {x y:Code} (h:Run P R N v0 H0 x (.seq y::K) fr H Γ):Run P R N v0 H0 (.seq x y) K fr H Γ :=
  λa v B m C A=>wp_seq (wp_mono (h a v B m C A) λe a w d=>by cases e<;>exact d)
theorem gP_ {d:Nat} {c:Code} (h:Run P R N v0 H0 c (.blk d::K) fr H Γ):Run P R N v0 H0 (.block d c) K fr H Γ :=
  λa v A x B y=>wp_block (wp_mono (h a v A x B y) λe a w m=>by cases e<;>exact m)
theorem gO_ (h:Fin P R N v0 H0 K fr H Γ):Run P R N v0 H0 .skip K fr H Γ :=
  λa v d x m y=>wp_skip (h a v d x m y)
theorem mV_ {d:Nat} {m:List Kt} (B:unw d K=some m) (h:Fin P R N v0 H0 m fr H Γ):Run P R N v0 H0 (.exit d) K fr H Γ :=
  λa v A x C y=>wp_exit (iL_ B (h a v A x C y))
theorem jU_ (h:Ok N v0 H0 (R .ret) fr H Γ):Run P R N v0 H0 .ret K fr H Γ :=
  λa v d x m y=>wp_ret (wT_ P R K a v.w (h a v d x m y))
theorem bp_ {c:Code} {d:List Kt} (B:nxt K=some (c,d)) (h:Run P R N v0 H0 c d fr H Γ):Fin P R N v0 H0 K fr H Γ :=
  λa v y m A x=>oy_ B (h a v y m A x)
theorem pR_ {J:Act->World->Prop} (A:jw_ K=some J) (h:Ok N v0 H0 J fr H Γ):Fin P R N v0 H0 K fr H Γ :=
  λa v x d y m=>ra_ A (h a v x d y m)
theorem Al_ (A:ga_ K=true) (h:Ok N v0 H0 (R .normal) fr H Γ):Fin P R N v0 H0 K fr H Γ :=
  λa v x d y m=>rb_ A (h a v x d y m)
theorem aQ_ {d:Nat} {l:List Oper} (h:Ops P R N v0 H0 l.toArray l K fr H Γ):Run P R N v0 H0 (.region d l.toArray false) K fr H Γ :=
  λa v y m A x=>wp_region_lit (h a v y m A x)
theorem cb_ {d:Array Oper} (h:Fin P R N v0 H0 K fr H Γ):Ops P R N v0 H0 d [] K fr H Γ :=
  λa v y m A x=>wpList_nil (h a v y m A x)
def Fr.ev (fr:Fr):Operand->Option Value
  | .tmp t=>Fr.get fr t
  | .const v=>some v
  | .global g=>some (.pointer (some ⟨g,0,none⟩))
  | .func f=>some (.func (.func f) #[] #[])
theorem Fr.sat.ev {a:Act} {x:Operand} {v:Value} (h:Fr.sat N fr a) (d:Fr.ev fr x=some v):a.eval x=v:=by
  cases x with
  | tmp t=>have:=h.val t v d;simp[Act.eval,this]
  | const c=>simpa [Fr.ev,Act.eval] using d
  | global g=>simpa [Fr.ev,Act.eval] using d
  | func f=>simpa [Fr.ev,Act.eval] using d
theorem Fr.sat.put {a:Act} {d:Nat} {x:Value} (h:Fr.sat N fr a) (B:Nat.blt d N.n=true):Fr.sat N ((d,x)::fr) (a.put (some d) x):=by
 have y:d<N.n:=by simpa [Nat.blt_eq] using B
 refine⟨by simp[Act.put,h.size],h.defers,λt v m=>?_⟩;simp only[Fr.get]at m
 by_cases e:d=t
 .subst e
  simp only[ydB_,cond_true,yam_]at m;subst m;simp[Act.put,Array.getElem?_setIfInBounds,h.size,y]
 have A:Nat.beq d t=false:=by
   cases A:Nat.beq d t
   . rfl
   . exact absurd (ycd_ A) e
 rw[A,cond_false]at m;simp only[Act.put];rw[ycV_ e];exact h.val t v m
theorem zG_ {k:Act->World->Prop} (d:Fr) (C:∀ t v,Fr.get d t=some v->Fr.get fr t=some v) (h:Ok N v0 H0 k d H Γ):Ok N v0 H0 k fr H Γ :=
  λa v m y B A=>h a v ⟨m.size,m.defers,λt x E=>m.val t x (C t x E)⟩ y B A
def Fr.le:Fr->Fr->Prop
  | [],_=>True
  | (t,v)::r,fr=>Fr.get fr t=some v/\Fr.le r fr
theorem Fr.le_get {m fr:Fr} (h:Fr.le m fr):∀ t v,Fr.get m t=some v->Fr.get fr t=some v:=by
 induction m with
 | nil=>intro t v d;simp[Fr.get]at d
 | cons p r ih =>
   obtain⟨s,u⟩:=p;intro t v d;simp only[Fr.get]at d
   by_cases e:s=t
   . subst e
     simp only[ydB_,cond_true,yam_]at d;subst d;exact h.1
   . have x:Nat.beq s t=false:=by
       cases x:Nat.beq s t
       . rfl
       . exact absurd (ycd_ x) e
     rw[x,cond_false]at d;exact ih h.2 t v d
theorem bh_ {k:Act->World->Prop} (d:Fr) (m:Fr.le d fr) (h:Ok N v0 H0 k d H Γ):Ok N v0 H0 k fr H Γ :=
  zG_ d (Fr.le_get m) h
theorem dO_ {k:Act->World->Prop} {H' F:Hp} {Γ':List Fct} (m:H.Perm (H'++F)) (x:∀ v,v.sat H->Z_ Γ v->Z_ Γ' v) (h:Ok N v0 H0 k fr H' Γ'):Ok N v0 H0 k fr H Γ :=
  λa v A d B y=>h a v A (d.perm m).sub (B.subR λb C=>by
    have:b∈(H'++F).map Prod.fst:=by rw[yaw_];exact yal_ _ C
    exact (m.map Prod.fst).mem_iff.2 this) (x v d y)
theorem gS_ {k:Act->World->Prop} {Γ':List Fct} (m:∀ v,v.sat H->Z_ Γ v->Z_ Γ' v) (h:Ok N v0 H0 k fr H Γ'):Ok N v0 H0 k fr H Γ :=
  λa v y d A x=>h a v y d A (m v d x)
theorem xg_ {k:Act->World->Prop} {p:Prop} (x:∀ v,v.sat H->Z_ Γ v->p) (h:p->Ok N v0 H0 k fr H Γ):Ok N v0 H0 k fr H Γ :=
  λa v y d A m=>h (x v d m) a v y d A m
theorem qK_ {c:Operand} {x y:Code} {t:Bool} (E:Fr.ev fr c=some (.bool t)) (F:t=true->Run P R N v0 H0 x K fr H Γ) (C:t=false->Run P R N v0 H0 y K fr H Γ) :
    Run P R N v0 H0 (.cond c x y) K fr H Γ :=
  λa v d m B A=>wp_cond_split (d.ev E) (λe=>F e a v d m B A) (λe=>C e a v d m B A)
theorem bG_ {c:Operand} {x y:Code} (d:Fr.ev fr c=some (.bool true)) (m:Run P R N v0 H0 x K fr H Γ):Run P R N v0 H0 (.cond c x y) K fr H Γ :=
  qK_ d (λ_=>m) (λe=>by cases e)
theorem ei_ {c:Operand} {x y:Code} (d:Fr.ev fr c=some (.bool false)) (m:Run P R N v0 H0 y K fr H Γ):Run P R N v0 H0 (.cond c x y) K fr H Γ :=
  qK_ d (λe=>by cases e) (λ_=>m)
def yD_ {ι:Type} (N:Nf) (v0:Vw) (H0:Hp) (frs:ι->Fr) (Hs:ι->Hp) (Γs:ι->List Fct) (μ:ι->Nat) (n:Nat) (a:Act) (w:World):Prop :=
  ∃ j v,v.w=w/\Fr.sat N (frs j) a/\v.sat (Hs j)/\v0.to H0 v (Hs j)/\Z_ (Γs j) v/\μ j<n
theorem bF_ {ι:Type} {c:Code} (d:ι->Fr) (Hs:ι->Hp) (A:ι->List Fct) (μ:ι->Nat) (y:ι)
    (m:∀ i,Run P R N v0 H0 c (.inv (yD_ N v0 H0 d Hs A μ (μ i))::K) (d i) (Hs i) (A i)) :
    Run P R N v0 H0 (.loop c) K (d y) (Hs y) (A y):=by
  intro a v J E O I;refine wp_loop_ghost (λn a w=>∃ i v,v.w=w/\Fr.sat N (d i) a/\v.sat (Hs i)/\v0.to H0 v (Hs i)/\Z_ (A i) v/\μ i=n) (μ y) ⟨y,v,rfl,J,E,O,I,rfl⟩ ?_;rintro n a w ⟨i,v,rfl,M,F,T,L,rfl⟩;refine wp_mono (m i a v M F T L) λe U w' x=>?_;cases e with
  | normal =>
    obtain⟨j,C,Q,k1,k2,G,S,B⟩:=x;exact⟨μ j,B,j,C,Q,k1,k2,G,S,rfl⟩
  | exit id=>exact x
  | goto l=>exact x
  | ret=>exact x
  | panic ch=>exact x
  | outgrown=>exact x
theorem I_ {ι:Type} {c:Code} (d:ι->Fr) (Hs:ι->Hp) (y:ι->List Fct) (μ:ι->Nat) (x:ι) {F:Hp} (A:Fr.le (d x) fr) (C:H.Perm (Hs x++F)) (B:∀ v,v.sat H->Z_ Γ v->Z_ (y x) v)
    (m:∀ i,Run P R N v0 H0 c (.inv (yD_ N v0 H0 d Hs y μ (μ i))::K) (d i) (Hs i) (y i)):Run P R N v0 H0 (.loop c) K fr H Γ :=
  bh_ _ A (dO_ C B (bF_ d Hs y μ x m))
theorem C_ {ι:Type} {d:ι->Fr} {Hs:ι->Hp} {x:ι->List Fct} {μ:ι->Nat} {n:Nat} (j:ι) {F:Hp} (y:μ j<n) (m:Fr.le (d j) fr) (C:H.Perm (Hs j++F))
    (A:∀ v,v.sat H->Z_ Γ v->Z_ (x j) v):Ok N v0 H0 (yD_ N v0 H0 d Hs x μ n) fr H Γ :=
  bh_ (d j) m (dO_ C A λ_ v G B I E=>⟨j,v,rfl,G,B,I,E,y⟩)
end code
end Go.Sx
namespace Go.Sx
open Go
section ops
variable {P:Program} {N:Nf} {v0:Vw} {H0:Hp} {R:Exit->Act->World->Prop} {K:List Kt} {fr:Fr} {H:Hp} {Γ:List Fct}
variable {ops:Array Oper} {l:List Oper} {d:Nat} {ty:TypeId} {ps:String} {af:Array Edge}
theorem cN_ {o:Oper} (C:o.guard=none) (h:∀ a v,Fr.sat N fr a->v.sat H->v0.to H0 v H->Z_ Γ v->o.wp P a v.w (wpList P ops (post P R K) l) (post P R K)) :
    Ops P R N v0 H0 ops (o::l) K fr H Γ :=
  λa v y m B x=>wpList_plain C λE A=>Oper.wp_mono A (h a v y m B x)
def Yld (P:Program) (N:Nf) (fr:Fr) (H:Hp) (Γ:List Fct) (op:Op) (ty:TypeId) (x:Value):Prop :=
  ∀ a v,Fr.sat N fr a->v.sat H->Z_ Γ v->∀ d ps af,(execOp a.eval ⟨d,op,ty,ps,af,none⟩).run P v.w=.ok (.value x) v.w
theorem e_ {m:Op} {x:Value} (E:Yld P N fr H Γ m ty x) (G:Nat.blt d N.n=true)
    (C:Ops P R N v0 H0 ops l K ((d,x)::fr) H Γ):Ops P R N v0 H0 ops (⟨some d,m,ty,ps,af,none⟩::l) K fr H Γ :=
  cN_ rfl λa v B y F A=>by
    unfold Oper.wp;rw[E a v B y A (some d) ps af];exact C _ v (B.put G) y F A
theorem P_ {m:Op} {X:Bool} (x:Yld P N fr H Γ m ty (.bool X)) (y:Nat.blt d N.n=true)
    (v:∀ r:Bool,X=r->Ops P R N v0 H0 ops l K ((d,.bool r)::fr) H Γ):Ops P R N v0 H0 ops (⟨some d,m,ty,ps,af,none⟩::l) K fr H Γ :=
  e_ x y (v X rfl)
def iv_ (ops:Array Oper) (j:Nat):Option Nat:=(ops[j]?).bind (·.dst)
theorem hl_ {a:Act} {j t:Nat} {x:Value} (h:Fr.sat N fr a) (m:iv_ ops j=some t) (v:Fr.get fr t=some x) :
    yielded ops a.tmps j=match x with|.bool b=>some b|_=>none:=by
  have e:((ops[j]?).bind (·.dst)).bind (a.tmps[·]?)=some x:=by
    show (iv_ ops j).bind _=_
    rw[m];exact h.val t x v
  unfold yielded;rw[e];cases x<;>rfl
theorem aP_ {y:Op} {x:Option Nat} {j t:Nat} {m:Bool} (E:iv_ ops j=some t) (J:Fr.get fr t=some (.bool m))
    (h:Ops P R N v0 H0 ops (⟨x,y,ty,ps,af,none⟩::l) K fr H Γ):Ops P R N v0 H0 ops (⟨x,y,ty,ps,af,some (j,m)⟩::l) K fr H Γ :=
  λa v B F I G=>by
    have C:Region.wanted (⟨x,y,ty,ps,af,some (j,m)⟩:Oper) (yielded ops a.tmps)=true:=by
      simp[Region.wanted,hl_ B E J]
    have A:Region.wanted (⟨x,y,ty,ps,af,none⟩:Oper) (yielded ops a.tmps)=true:=rfl;have:=h a v B F I G;unfold wpList at this ⊢;rw[yaq_ A]at this;rw[yaq_ C];exact this
theorem ops_no {y:Op} {j t:Nat} {m:Bool} {x:Value} (C:iv_ ops j=some t) (L:Fr.get fr t=some x) (E:(match x with|.bool b=>Bool.xor b m|_=>true)=true) (J:Nat.blt d N.n=true)
    (h:Ops P R N v0 H0 ops l K ((d,undef)::fr) H Γ):Ops P R N v0 H0 ops (⟨some d,y,ty,ps,af,some (j,m)⟩::l) K fr H Γ :=
  λa v A F I G=>by
    have B:Region.wanted (⟨some d,y,ty,ps,af,some (j,m)⟩:Oper) (yielded ops a.tmps)=false:=by
      simp only[Region.wanted,hl_ A C L];cases x<;>first|rfl|(rename_i b;cases b<;>cases m<;>simp_all)
    exact wpList_skip B (h _ v (A.put J) F I G)
theorem aV_ {x:Operand} {u:Value} (y:Fr.ev fr x=some u) :
    Yld P N fr H Γ (.move x) ty (u) :=
  λa v m _ _ _ _ _=>by rw[<-m.ev y];rfl
theorem bs_ {x:Operand} {u:Value} (y:Fr.ev fr x=some u) :
    Yld P N fr H Γ (.assign x) ty (u) :=
  λa v m _ _ _ _ _=>by rw[<-m.ev y];rfl
theorem sd_ {c x y:Operand} {u:Value} (A:Fr.ev fr c=some (.bool true)) (B:Fr.ev fr x=some u) :
    Yld P N fr H Γ (.pick c x y) ty (u) :=
  λa v m _ _ _ _ _=>by simp[execOp,m.ev A,m.ev B,asBool]
theorem se_ {c x y:Operand} {u:Value} (A:Fr.ev fr c=some (.bool false)) (B:Fr.ev fr y=some u) :
    Yld P N fr H Γ (.pick c x y) ty (u) :=
  λa v m _ _ _ _ _=>by simp[execOp,m.ev A,m.ev B,asBool]
theorem by_ {t C:TypeId} {x y:Operand} {k:IntKind} {m n:Int} (E:Fr.ev fr x=some (.int k m)) (B:Fr.ev fr y=some (.int k n)) :
    Yld P N fr H Γ (.binOp .eql t x y C) ty (.bool ((m==n))) :=
  λa v A _ _ _ _ _=>by simp[execOp,A.ev E,A.ev B,eqGuard,binOp,Op.intCmp]
theorem aM_ {t C:TypeId} {x y:Operand} {k:IntKind} {m n:Int} (E:Fr.ev fr x=some (.int k m)) (B:Fr.ev fr y=some (.int k n)) :
    Yld P N fr H Γ (.binOp .neq t x y C) ty (.bool ((m != n))) :=
  λa v A _ _ _ _ _=>by simp[execOp,A.ev E,A.ev B,eqGuard,binOp,Op.intCmp]
theorem cB_ {t C:TypeId} {x y:Operand} {k:IntKind} {m n:Int} (E:Fr.ev fr x=some (.int k m)) (B:Fr.ev fr y=some (.int k n)) :
    Yld P N fr H Γ (.binOp .lss t x y C) ty (.bool (decide (m<n))) :=
  λa v A _ _ _ _ _=>by simp[execOp,A.ev E,A.ev B,eqGuard,binOp,Op.intCmp]
theorem dj_ {t C:TypeId} {x y:Operand} {k:IntKind} {m n:Int} (E:Fr.ev fr x=some (.int k m)) (B:Fr.ev fr y=some (.int k n)) :
    Yld P N fr H Γ (.binOp .leq t x y C) ty (.bool (decide (m<=n))) :=
  λa v A _ _ _ _ _=>by simp[execOp,A.ev E,A.ev B,eqGuard,binOp,Op.intCmp]
theorem cP_ {t C:TypeId} {x y:Operand} {k:IntKind} {m n:Int} (E:Fr.ev fr x=some (.int k m)) (B:Fr.ev fr y=some (.int k n)) :
    Yld P N fr H Γ (.binOp .gtr t x y C) ty (.bool (decide (n<m))) :=
  λa v A _ _ _ _ _=>by simp[execOp,A.ev E,A.ev B,eqGuard,binOp,Op.intCmp]
theorem fa_ {t C:TypeId} {x y:Operand} {k:IntKind} {m n:Int} (E:Fr.ev fr x=some (.int k m)) (B:Fr.ev fr y=some (.int k n)) :
    Yld P N fr H Γ (.binOp .geq t x y C) ty (.bool (decide (n<=m))) :=
  λa v A _ _ _ _ _=>by simp[execOp,A.ev E,A.ev B,eqGuard,binOp,Op.intCmp]
def xN_:BinOp->Int->Int->Option Int
  | .add,a,b=>some (a+b)
  | .sub,a,b=>some (a - b)
  | .mul,a,b=>some (a*b)
  | _,_,_=>none
theorem bf_ {A:BinOp} {t G:TypeId} {x y:Operand} {k:IntKind} {m n r:Int} (I:Fr.ev fr x=some (.int k m)) (F:Fr.ev fr y=some (.int k n)) (B:xN_ A m n=some r) (E:k.wrap r=r) :
    Yld P N fr H Γ (.binOp A t x y G) ty (.int k r) :=
  λa v C _ _ _ _ _=>by
    cases A<;>simp only[xN_,yam_,reduceCtorEq]at B<;>subst B <;>
      simp[execOp,C.ev I,C.ev F,eqGuard,binOp,Op.intArith,E]
theorem bW_ {r:Int} (m:-9223372036854775808<=r) (v:r<=9223372036854775807):IntKind.wrap .i64 r=r:=by
  exact IntWalk.i64_in r ⟨m,v⟩
theorem aH_ {x:Operand} {t:TypeId} {b:Bool} (y:Fr.ev fr x=some (.bool b)) :
    Yld P N fr H Γ (.unOp .not t x) ty (.bool !b) :=
  λa v m _ _ _ _ _=>by simp[execOp,m.ev y,Op.unary]
def lg:List Value->Nat->Option Value
  | [],_=>none
  | x::_,0=>some x
  | _::r,n+1=>lg r n
theorem lg_eq:∀ (c:List Value) (i:Nat),lg c i=c[i]?
  | [],i=>by simp[lg]
  | x::r,0=>rfl
  | x::r,n+1=>by simpa [lg] using lg_eq r n
def pD_:List Value->Nat->Nat->Option (List Value)
  | _,_,0=>some []
  | c,off,n+1=>match lg c off with
    | some x=>match pD_ c (off+1) n with
      | some r=>some (x::r)
      | none=>none
    | none=>none
theorem oM_:∀ (n off:Nat) (c r:List Value),pD_ c off n=some r->r.length=n/\∀ j v,r[j]? = some v->c[off+j]? = some v
 | 0,off,c,r,h=>by simp only[pD_,yam_]at h;subst h;exact⟨rfl,by simp⟩
 | n+1,off,c,r,h=>by
   simp only[pD_]at h
   split at h
   . rename_i x C
     split at h
     . rename_i q y
       simp only[yam_]at h;subst h;obtain⟨B,A⟩:=oM_ n (off+1) c q y;refine⟨by simp[B],λj v m=>?_⟩;cases j with
       | zero=>simp only[ybc_,yam_]at m;subst m;rw[<-lg_eq];exact C
       | succ j=>rw[show off+(j+1)=off+1+j by omega];exact A j v zaY_
     . cases h
   . cases h
theorem de_ (b off n:Nat):(⟨b,off,none⟩:Addr).add n=⟨b,off+n,none⟩:=by unfold Addr.add;split<;>simp_all
theorem bQ_ {t:TypeId} {w:World} {ad:Addr} {x:Value} (v:∀ w,(isAgg t).run P w=.ok false w) (m:w.cell? ad=some x):(loadVar t ad).run P w=.ok x w:=by
  simp[loadVar,v,m]
theorem cy_ {t:TypeId} {w:World} {b off n:Nat} {cs:List Value} (m:∀ w,(isAgg t).run P w=.ok true w) (y:∀ w,(sizeOf t).run P w=.ok n w) (B:cs.length=n)
    (A:∀ j v,cs[j]? = some v->w.cell? ⟨b,off+j,none⟩=some v):(loadVar t ⟨b,off,none⟩).run P w=.ok (.agg cs.toArray) w:=by
  have:=run_loadCells_list (P:=P) w ⟨b,off,none⟩ cs (λj v x=>by rw[de_];exact A j v x);rw[B]at this;simp[loadVar,m,y,this]
theorem fm_ {v:Vw} {i b:Nat} {cur:Array Value} {T:TypeId} {fz:Nat×Nat} (h:v.sat H) (hi:H[i]? = some (b,.cells cur T fz)) (j:Nat):v.w.cell? ⟨b,j,none⟩=cur.toList[j]? := by
  have:=(h.own _ (yac_ hi)).1;simp[World.cell?,this]
theorem cc_ {t:TypeId} {x:Operand} {b off:Nat} (i:Nat) {cur:Array Value} {T:TypeId} {fz:Nat×Nat} {u:Value} (m:∀ w,(isAgg t).run P w=.ok false w)
    (C:Fr.ev fr x=some (.pointer (some ⟨b,off,none⟩))) (hi:H[i]? = some (b,.cells cur T fz)) (B:lg cur.toList off=some u) :
    Yld P N fr H Γ (.load t x) ty (u) :=
  λa v A y _ _ _ _=>by
    have:=bQ_ (P:=P) (w:=v.w) m (show v.w.cell? ⟨b,off,none⟩=some u by rw[fm_ y hi,<-lg_eq];exact B);simp[execOp,A.ev C,Instr.loadAt,Instr.sureAddr,this]
theorem cZ_ {t:TypeId} {x:Operand} {b off n:Nat} (i:Nat) {cur:Array Value} {T:TypeId} {fz:Nat×Nat} {us:List Value} (G:∀ w,(isAgg t).run P w=.ok true w) (B:∀ w,(sizeOf t).run P w=.ok n w)
    (C:Fr.ev fr x=some (.pointer (some ⟨b,off,none⟩))) (hi:H[i]? = some (b,.cells cur T fz)) (A:pD_ cur.toList off n=some us) :
    Yld P N fr H Γ (.load t x) ty (.agg us.toArray) :=
  λa v I m _ _ _ _=>by
    obtain⟨E,J⟩:=oM_ n off _ _ A;have:=cy_ (P:=P) (w:=v.w) (b:=b) (off:=off) G B E (λj y F=>by rw[fm_ m hi];exact J j y F);simp[execOp,I.ev C,Instr.loadAt,Instr.sureAddr,this]
theorem eN_ {t:TypeId} {x:Operand} {ad:Addr} {u:Value} (C:Fr.ev fr x=some (.pointer (some ad))) (B:∀ v,v.sat H->Z_ Γ v->(loadVar t ad).run P v.w=.ok u v.w) :
    Yld P N fr H Γ (.load t x) ty (u) :=
  λa v A m y _ _ _=>by simp[execOp,A.ev C,Instr.loadAt,Instr.sureAddr,B v m y]
theorem hs_ {v:Vw} {w':World} {o:Obj} (h:v.sat H) (A:w'.heap=v.w.heap.push o) (F:w'.os=v.w.os) (I:w'.tape=v.w.tape) (G:w'.output=v.w.output) (E:v.w.drawn<=w'.drawn) :
    (⟨v.im,w',v.sl⟩:Vw).sat ((v.w.heap.size,o)::H)/\v.to H ⟨v.im,w',v.sl⟩ ((v.w.heap.size,o)::H):=by
  have C:∀ k,k<v.w.heap.size->w'.heap[k]? = v.w.heap[k]? := λk J=>by rw[A,ycy_,yaf_ zaa_]
  have y:∀ p,p∈H->p.1<v.w.heap.size:=λp m=>(yaD_.1 (h.own p m).1).1
  refine⟨⟨λp m=>?_,?_,λb x=>?_⟩,F,I,G,by simp[A],λb B _=>C b B,λ_ h=>h,λ_ h=>.inl h,λb x=>?_,rfl,.inr E⟩
  . rcases yan_.1 m with rfl|m
    . refine⟨by show w'.heap[v.w.heap.size]? = some o;rw[A];simp,λhi=>?_⟩
      have:=h.lt _ hi;simp at this
    . exact⟨by show w'.heap[p.1]? = _;rw[C _ (y p m)];exact (h.own p m).1,(h.own p m).2⟩
  . rw[yaF_,ybr_]
    refine⟨λhm=>?_,h.nodup⟩;obtain⟨p,m,e⟩:=yas_.1 hm;have:=y p m;simp at e;omega
  . have:=h.lt b x
    show b<w'.heap.size
    simp[A];omega
  . rw[yaF_]at x
    rcases yan_.1 x with rfl|B
    . exact .inr (yae_ _)
    . exact .inl B
theorem ni_ {A:Op} {β:Type} {x:β->Nat->Value} {o:β->Obj} (q:β->Prop) (U:Nat.blt d N.n=true)
    (S:∀ a v,Fr.sat N fr a->v.sat H->Z_ Γ v->∃ y w',q y/\(execOp a.eval ⟨some d,A,ty,ps,af,none⟩).run P v.w=.ok (.value (x y v.w.heap.size)) w'/\w'.heap=v.w.heap.push (o y)/\w'.os=v.w.os/\w'.tape=v.w.tape/\w'.output=v.w.output/\v.w.drawn<=w'.drawn)
    (M:∀ y b,q y->Ops P R N v0 H0 ops l K ((d,x y b)::fr) ((b,o y)::H) Γ):Ops P R N v0 H0 ops (⟨some d,A,ty,ps,af,none⟩::l) K fr H Γ :=
  cN_ rfl λa v E m J C=>by
    obtain⟨y,w',Q,I,F,O,V,T,L⟩:=S a v E m C;unfold Oper.wp;rw[I];obtain⟨G,B⟩:=hs_ m F O V T L;exact M y v.w.heap.size Q _ ⟨v.im,w',v.sl⟩ (E.put U) G (J.trans B) (aB_ (B.le m) C)
theorem fd_ {m:Op} {x:Nat->Value} {o:Obj} (F:Nat.blt d N.n=true)
    (A:∀ a v,Fr.sat N fr a->v.sat H->Z_ Γ v->(execOp a.eval ⟨some d,m,ty,ps,af,none⟩).run P v.w=.ok (.value (x v.w.heap.size)) (v.w.alloc o))
    (y:∀ b,Ops P R N v0 H0 ops l K ((d,x b)::fr) ((b,o)::H) Γ):Ops P R N v0 H0 ops (⟨some d,m,ty,ps,af,none⟩::l) K fr H Γ :=
  ni_ (β:=Unit) (x:=λ_ b=>x b) (o:=λ_=>o) (λ_=>True) F (λa v E B C=>⟨(),v.w.alloc o,trivial,A a v E B C,rfl,rfl,rfl,rfl,yae_ _⟩) (λ_ b _=>y b)
theorem F_ {t:TypeId} {x:Operand} {u:Value} (B:Fr.ev fr x=some u) (A:Nat.blt d N.n=true)
    (m:∀ b,Ops P R N v0 H0 ops l K ((d,.pointer (some ⟨b,0,none⟩))::fr) ((b,.cells u.cells t (0,0))::H) Γ):Ops P R N v0 H0 ops (⟨some d,.box t x,ty,ps,af,none⟩::l) K fr H Γ :=
  fd_ (x:=λb=>.pointer (some ⟨b,0,none⟩)) A (λa v y _ _=>by simp[execOp,y.ev B,Instr.box,newVar,newRow,newObj];rfl) m
theorem u_ {t:TypeId} {z:Value} (A:∀ w,(zeroValue t).run P w=.ok z w) (y:Nat.blt d N.n=true)
    (m:∀ b,Ops P R N v0 H0 ops l K ((d,.pointer (some ⟨b,0,none⟩))::fr) ((b,.cells z.cells t (0,0))::H) Γ):Ops P R N v0 H0 ops (⟨some d,.alloc t,ty,ps,af,none⟩::l) K fr H Γ :=
  fd_ (x:=λb=>.pointer (some ⟨b,0,none⟩)) y (λa v B _ _=>by simp[execOp,A,Instr.alloc,newVar,newRow,newObj];rfl) m
theorem gu_ {v:Vw} {i b:Nat} {o o':Obj} {w':World} (h:v.sat H) (hi:H[i]? = some (b,o)) (V:w'.os=v.w.os) (O:w'.tape=v.w.tape) (W:w'.output=v.w.output) (T:v.w.drawn<=w'.drawn) (I:w'.heap.size=v.w.heap.size)
    (J:w'.heap[b]? = some o') (G:∀ k,k≠b->w'.heap[k]? = v.w.heap[k]?):(⟨v.im,w',v.sl⟩:Vw).sat (H.set i (b,o'))/\v.to H ⟨v.im,w',v.sl⟩ (H.set i (b,o')):=by
  have hm:=yac_ hi
  have y:(H.set i (b,o')).map Prod.fst=H.map Prod.fst:=by
    rw[List.map_set]
    apply ybx_
    intro j;rw[ybm_]
    split
    . rename_i m;subst m;rw[yaH_,hi];simp[(yab_.1 hi).1]
    . rfl
  refine⟨⟨λp Q=>?_,by rw[y];exact h.nodup,λx C=>?_⟩,V,O,W,by simp[I],λx _ U=>G x (λe=>U ?_),λ_ h=>h,λ_ h=>.inl h,λx C=>.inl (by rw[y]at C;exact C),rfl,.inr T⟩
  . obtain⟨j,m⟩:=yaU_ Q
    rw[ybm_]at m
    split at m
    . rename_i A
      subst A
      split at m
      . simp only[yam_]at m;subst m
        exact⟨J,(h.own _ hm).2⟩
      . cases m
    . rename_i A
      have B:=yac_ m
      have E:p.1≠b:=λe=>by
        have F:=h.nodup;have S:(H.map Prod.fst)[i]? = some b:=by simp[hi]
        have L:(H.map Prod.fst)[j]? = some b:=by simp[m,e]
        obtain⟨Y,M⟩:=yab_.1 S;obtain⟨Z,X⟩:=yab_.1 L;exact A ((List.getElem_inj F).1 (M.trans X.symm))
      exact⟨by show w'.heap[p.1]? = _;rw[G _ E];exact (h.own p B).1,(h.own p B).2⟩
  . show x<w'.heap.size
    rw[I];exact h.lt x C
  . subst e;exact yas_.2 ⟨_,hm,rfl⟩
theorem n_ {t:TypeId} {x y:Operand} {b off n:Nat} (i:Nat) {cur:Array Value} {T:TypeId} {u:Value} (Q:∀ w,(sizeOf t).run P w=.ok n w)
    (S:Fr.ev fr x=some (.pointer (some ⟨b,off,none⟩))) (M:Fr.ev fr y=some u) (hi:H[i]? = some (b,.cells cur T (0,0))) (C:u.cells.size=n) (J:Nat.ble (off+n) cur.size=true) (A:u.cells.toList.all Value.oneCell'=true)
    (E:Ops P R N v0 H0 ops l K fr (H.set i (b,.cells (cur.toList.take off++u.cells.toList++cur.toList.drop (off+n)).toArray T (0,0))) Γ) :
    Ops P R N v0 H0 ops (⟨none,.store t x y,ty,ps,af,none⟩::l) K fr H Γ :=
  cN_ rfl λa v F B O V=>by
    have G:=(B.own _ (yac_ hi)).1;have m:=run_storeCells_at P b off T u.cells.toList 0 cur v.w G (by simp[C];exact ybj_ J) (λc W=>yaQ_.1 A c W)
    have U:(execOp a.eval ⟨none,.store t x y,ty,ps,af,none⟩).run P v.w=.ok .skip (v.w.setRow b (cur.toList.take off++u.cells.toList++cur.toList.drop (off+n)).toArray):=by
      simp only[ycc_,ybU_,C]at m;simp[execOp,F.ev S,F.ev M,Instr.storeAt,Instr.sureAddr,storeVar,Q,C,m]
    unfold Oper.wp;rw[U];obtain⟨L,I⟩:=gu_ (w':=v.w.setRow b (cur.toList.take off++u.cells.toList++cur.toList.drop (off+n)).toArray) B hi rfl rfl rfl (yae_ _) zai_ (setRow_heap _ _ _ _ _ _ G) (λk E=>setRow_other _ _ _ _ E);exact E a _ F L (O.trans I) (aB_ (I.le B) V)
theorem iJ_ {s:TypeId} {x:Operand} {f b off o:Nat} {y:Array Field} {m:Field} {n:Nat} (C:∀ w,(underlying s).run P w=.ok (.struct y) w) (F:Fr.ev fr x=some (.pointer (some ⟨b,off,none⟩))) (A:y[f]? = some m) (B:m.offset=o)
    (E:∀ w,(sizeOf m.type).run P w=.ok (n+1) w) :
    Yld P N fr H Γ (.fieldAddr s x f) ty (.pointer (some ⟨b,off+o,none⟩)) :=
  λa v G I _ _ _ _=>by simp[execOp,G.ev F,Instr.fieldAt,C,A,Instr.sureAddr,fieldPlace,E,de_,B]
theorem gL_ {t e:TypeId} {x y:Operand} {b off len cap n:Nat} {k:IntKind} {i:Int} (B:∀ w,(underlying t).run P w=.ok (.slice e) w) (E:∀ w,(sizeOf e).run P w=.ok n w)
    (F:Fr.ev fr x=some (.slice (some ⟨b,off,none⟩) len cap)) (A:Fr.ev fr y=some (.int k i)) (C:0<=i) (hl:i<len) :
    Yld P N fr H Γ (.indexAddr t x y) ty (.pointer (some ⟨b,off+i.toNat*n,none⟩)) :=
  λa v m G _ _ _ _=>by simp[execOp,m.ev F,m.ev A,Instr.indexAt,B,asIntOf,E,de_,C,hl]
theorem dk_ {t e:TypeId} {x y:Operand} {b off len n:Nat} {k:IntKind} {i:Int} (B:∀ w,(underlying t).run P w=.ok (.array len e) w) (E:∀ w,(sizeOf e).run P w=.ok n w)
    (F:Fr.ev fr x=some (.pointer (some ⟨b,off,none⟩))) (A:Fr.ev fr y=some (.int k i)) (C:0<=i) (hl:i<len) :
    Yld P N fr H Γ (.indexAddr t x y) ty (.pointer (some ⟨b,off+i.toNat*n,none⟩)) :=
  λa v m G _ _ _ _=>by simp[execOp,m.ev F,m.ev A,Instr.indexAt,B,asIntOf,E,Instr.sureAddr,de_,C,hl]
theorem kD_ {x:Operand} {ad:Addr} (y:Fr.ev fr x=some (.pointer (some ad))) :
    Yld P N fr H Γ (.nilCheck x) ty (.pointer (some ad)) :=
  λa v m A _ _ _ _=>by simp[execOp,m.ev y]
theorem fS_ {x:Operand} {t e:TypeId} {ad:Ao} {len cap:Nat} (y:∀ w,(underlying t).run P w=.ok (.slice e) w) (A:Fr.ev fr x=some (.slice ad len cap)) :
    Yld P N fr H Γ (.call ⟨.builtin .len,#[x],#[t]⟩) ty (.int .i64 (len:Int)) :=
  λa v m B _ _ _ _=>by simp[execOp,resolve,invoke,builtin,Builtin.len_,m.ev A,y,goInt]
theorem qp_ {x:Operand} {i:Nat} {vs:Array Value} {u:Value} (A:Fr.ev fr x=some (.tuple vs)) (m:lg vs.toList i=some u) :
    Yld P N fr H Γ (.extract x i) ty (u) :=
  λa v y B _ _ _ _=>by
    rw[lg_eq,ybe_]at m;simp[execOp,y.ev A,Instr.extract,m]
def str (l:List UInt8):Value:=.string ⟨l.toArray⟩
theorem str_of (s:ByteArray):Value.string s=str s.data.toList:=rfl
theorem dp_ {t C:TypeId} {x y:Operand} {m n:List UInt8} (E:Fr.ev fr x=some (str m)) (B:Fr.ev fr y=some (str n)) :
    Yld P N fr H Γ (.binOp .eql t x y C) ty (.bool ((m==n))) :=
  λa v A _ _ _ _ _=>by simp[execOp,A.ev E,A.ev B,str,eqGuard,binOp,Op.stringOp]
theorem dD_ {t C:TypeId} {x y:Operand} {m n:List UInt8} (E:Fr.ev fr x=some (str m)) (B:Fr.ev fr y=some (str n)) :
    Yld P N fr H Γ (.binOp .neq t x y C) ty (.bool ((m != n))) :=
  λa v A _ _ _ _ _=>by simp[execOp,A.ev E,A.ev B,str,eqGuard,binOp,Op.stringOp,bne]
theorem ct_ {t C:TypeId} {x y:Operand} {m n:List UInt8} (E:Fr.ev fr x=some (str m)) (B:Fr.ev fr y=some (str n)) (hl:m.length+n.length<=9223372036854775807) :
    Yld P N fr H Γ (.binOp .add t x y C) ty (str (m++n)) :=
  λa v A _ _ _ _ _=>by
    have h:=run_string_add_sum (P:=P) v.w ⟨m.toArray⟩ ⟨n.toArray⟩ zbm_;rw[ByteArray.mk_append_mk]at h;simp[execOp,A.ev E,A.ev B,str,eqGuard,binOp_string_add,h]
theorem cO_ {x:Operand} {t:TypeId} {m:List UInt8} (A:∀ w,(underlying t).run P w=.ok .string w) (B:Fr.ev fr x=some (str m)) :
    Yld P N fr H Γ (.call ⟨.builtin .len,#[x],#[t]⟩) ty (.int .i64 (m.length:Int)) :=
  λa v y C _ _ _ _=>by simp[execOp,resolve,invoke,builtin,Builtin.len_,y.ev B,A,goInt,str];rfl
theorem bV_ {x y:Operand} {t:TypeId} {m:List UInt8} {k:IntKind} {i:Int} {c:UInt8} (E:∀ w,(underlying t).run P w=.ok .string w) (I:Fr.ev fr x=some (str m)) (C:Fr.ev fr y=some (.int k i)) (F:0<=i) (A:m[i.toNat]? = some c) :
    Yld P N fr H Γ (.index t x y) ty (.int .u8 (c.toNat:Int)) :=
  λa v B J _ _ _ _=>by
    have hl:i.toNat<m.length:=(yab_.1 A).1
    have G:(⟨m.toArray⟩:ByteArray)[i.toNat]? = some c:=by
      rw[ByteArray.getElem?_lt' _ _ zbm_];have:(⟨m.toArray⟩:ByteArray)[i.toNat]'zbm_=m[i.toNat]:=rfl;rw[this];rw[yaa_ hl]at A;exact A
    simp[execOp,Instr.index,B.ev I,B.ev C,asIntOf,E,str,F,G]
def gj_ (P:Program) (f:FuncId):Prop:=∀ args w,(callFunc f args).run P w=.ok (.enter f args) w
theorem callable {f : FuncId} {fn : Func} {c : Code} (v : P.funcs[f]? = some fn) (x : fn.body = some c) (y : (fn.name == "runtime.NumGoroutine") = false) : gj_ P f := by
  intro args w;have m : ¬ fn.name = "runtime.NumGoroutine" := by simpa using y
  simp[callFunc,run_program,v,x,m]
structure Tri (P:Program) (f:FuncId) (args:Array Value) (H:Hp) (Γ:List Fct) {ι:Type} (ret:ι->Value) (H':ι->Hp) (Γ':ι->List Fct):Prop where
  callable:gj_ P f
  run:∀ v,v.sat H->Z_ Γ v->Calls P f args v.w λe w'=>∃ x v',e=.returned (ret x)/\v'.w=w'/\v'.sat (H' x)/\Z_ (Γ' x) v'/\v.to H v' (H' x)
def Fr.evs (fr:Fr):List Operand->Option (List Value)
  | []=>some []
  | x::r=>match Fr.ev fr x with
    | some v=>match Fr.evs fr r with
      | some vs=>some (v::vs)
      | none=>none
    | none=>none
theorem Fr.sat.evs {a:Act} (h:Fr.sat N fr a):∀ {xs:List Operand} {vs:List Value},Fr.evs fr xs=some vs->xs.map a.eval=vs
 | [],vs,e=>by simp only[Fr.evs,yam_]at e;subst e;rfl
 | x::r,vs,e=>by
   simp only[Fr.evs]at e
   split at e
   . rename_i u v
     split at e
     . rename_i us m
       simp only[yam_]at e;subst e;rw[yaF_,h.ev v,h.evs m]
     . cases e
   . cases e
theorem oE_ {C:Op} {f:FuncId} {vs:List Value} {ι:Type} {Hc F:Hp} {I:List Fct} {y:ι->Value} {H':ι->Hp} {Γ':ι->List Fct}
    (U:Tri P f vs.toArray Hc I y H' Γ') (T:∀ a v,Fr.sat N fr a->(execOp a.eval ⟨some d,C,ty,ps,af,none⟩).run P v=.ok (.enter f vs.toArray) v)
    (B:H.Perm (Hc++F)) (L:∀ v,v.sat H->Z_ Γ v->Z_ I v) (V:Nat.blt d N.n=true)
    (Q:∀ x,Ops P R N v0 H0 ops l K ((d,y x)::fr) (H' x++F) (Γ' x++Γ)):Ops P R N v0 H0 ops (⟨some d,C,ty,ps,af,none⟩::l) K fr H Γ :=
  cN_ rfl λa v G A O E=>by
    unfold Oper.wp;rw[T a v.w G];have m:=A.perm B;refine (U.run v m.sub (L v A E)).mono ?_;rintro e w' ⟨x,M,rfl,rfl,J,S,W⟩;obtain⟨k1,k2⟩:=W.frame m J;exact Q x _ M (G.put V) k1 (O.trans (k2.permL B.symm)) (dP_.2 ⟨S,aB_ (k2.le m) E⟩)
theorem f_ {f:FuncId} {xs:List Operand} {y:Array TypeId} {vs:List Value} {ι:Type} {Hc F:Hp} {B:List Fct} {m:ι->Value} {H':ι->Hp} {Γ':ι->List Fct}
    (A:Tri P f vs.toArray Hc B m H' Γ') (G:Fr.evs fr xs=some vs) (E:H.Perm (Hc++F)) (C:∀ v,v.sat H->Z_ Γ v->Z_ B v) (L:Nat.blt d N.n=true)
    (I:∀ x,Ops P R N v0 H0 ops l K ((d,m x)::fr) (H' x++F) (Γ' x++Γ)) :
    Ops P R N v0 H0 ops (⟨some d,.call ⟨.value (.func f),xs.toArray,y⟩,ty,ps,af,none⟩::l) K fr H Γ :=
  oE_ A (λa w J=>by
    have:=J.evs G;simp[execOp,resolve,Deferred.ofValue,Act.eval,invoke,this,A.callable _ w]) E C L I
theorem aa_ {f:FuncId} {xs:List Operand} {m:Array TypeId} {vs:List Value} {Hc F:Hp} {x:List Fct} {X:Bool}
    (B:Tri P f vs.toArray Hc x (λ_:Unit=>.bool X) (λ_=>Hc) (λ_=>[])) (G:Fr.evs fr xs=some vs) (C:H.Perm (Hc++F)) (A:∀ v,v.sat H->Z_ Γ v->Z_ x v) (E:Nat.blt d N.n=true)
    (y:∀ r:Bool,X=r->Ops P R N v0 H0 ops l K ((d,.bool r)::fr) (Hc++F) Γ) :
    Ops P R N v0 H0 ops (⟨some d,.call ⟨.value (.func f),xs.toArray,m⟩,ty,ps,af,none⟩::l) K fr H Γ :=
  f_ B G C A E λ_=>y X rfl
end ops
section body
variable {P:Program} {N:Nf} {fr:Fr} {H:Hp} {Γ:List Fct}
def jb_ {ι:Type} (v0:Vw) (H0:Hp) (ret:ι->Value) (H':ι->Hp) (Γ':ι->List Fct) (e:Ending) (w':World):Prop :=
  ∃ x v',e=.returned (ret x)/\v'.w=w'/\v'.sat (H' x)/\Z_ (Γ' x) v'/\v0.to H0 v' (H' x)
def jz_ (i:Nat):List Value->Fr
  | []=>[]
  | x::r=>(i,x)::jz_ (i+1) r
theorem hA_:∀ (l:List Value) (i t:Nat) (v:Value),Fr.get (jz_ i l) t=some v->i<=t/\l[t - i]? = some v
 | [],i,t,v,h=>by simp[jz_,Fr.get]at h
 | x::r,i,t,v,h=>by
   simp only[jz_,Fr.get]at h
   by_cases e:i=t
   . subst e
     simp only[ydB_,cond_true,yam_]at h;subst h;simp
   . have m:Nat.beq i t=false:=by
       cases m:Nat.beq i t
       . rfl
       . exact absurd (ycd_ m) e
     rw[m,cond_false]at h;obtain⟨A,y⟩:=hA_ r (i+1) t v h;refine⟨by omega,?_⟩;rw[show t - i=(t - (i+1))+1 by omega];simpa using y
theorem g_ {N:Nat} {f:FuncId} {fn:Func} {c:Code} {args:List Value} {ι:Type} {m:ι->Value} {H':ι->Hp} {Γ':ι->List Fct}
    (B : P.funcs[f]? = some fn) (C : fn.body = some c) (I : (fn.name == "runtime.NumGoroutine") = false) (L : fn.ntmps = N) (hl : Nat.ble args.length N = true)
    (h:∀ v0,Run P (bodyPost P fn (jb_ v0 H m H' Γ')) N v0 H c [] (jz_ 0 args) H Γ):Tri P f args.toArray H Γ m H' Γ':=by
  refine⟨callable B C I,λv J E=>calls_of_wp B C ?_⟩;have F:args.length<=N:=ybj_ hl;have:=h v ⟨args.toArray++Array.replicate (fn.ntmps - args.toArray.size) undef,[]⟩ v ⟨by simp[L];omega,rfl,λt x G=>?_⟩ J (Vw.to.refl _ _) E
  . exact this
  . obtain⟨_,A⟩:=hA_ args 0 t x G
    simp only[ydj_]at A;have y:=(yab_.1 A).1;rw[ybH_ (by simpa using y)];simpa using A
theorem ac_ {N:Nat} {fn:Func} {t:Nat} {ι:Type} {v0:Vw} {H0 F:Hp} {ret:ι->Value} {H':ι->Hp} {Γ':ι->List Fct} (C:fn.results=#[.tmp t]) (x:ι) (G:Fr.get fr t=some (ret x)) (B:H.Perm (H' x++F))
    (y:∀ v,v.sat H->Z_ Γ v->Z_ (Γ' x) v):Ok N v0 H0 (bodyPost P fn (jb_ v0 H0 ret H' Γ') .ret) fr H Γ :=
  dO_ B y λa v m A E I=>⟨m.defers,ret x,by rw[results_tmp C];have:=m.val t _ G;simp[this],x,v,rfl,rfl,A,I,E⟩
theorem hQ_ {N:Nat} {fn:Func} {t s:Nat} {ι:Type} {v0:Vw} {H0 F:Hp} {ret:ι->Value} {H':ι->Hp} {Γ':ι->List Fct} {C B:Value} (J:fn.results=#[.tmp t,.tmp s]) (x:ι) (A:Fr.get fr t=some C) (m:Fr.get fr s=some B) (O:.tuple #[C,B]=ret x) (I:H.Perm (H' x++F))
    (E:∀ v,v.sat H->Z_ Γ v->Z_ (Γ' x) v):Ok N v0 H0 (bodyPost P fn (jb_ v0 H0 ret H' Γ') .ret) fr H Γ :=
  dO_ I E λa v y G M S=>⟨y.defers,ret x,by rw[results_tmp2 J,<-O];have Q:=y.val t _ A;have L:=y.val s _ m;simp[Q,L],x,v,rfl,rfl,G,S,M⟩
theorem p_ {t:Nat} {x y:Bool} (h:Fr.get fr t=some (.bool x)) (e:x=y):Fr.get fr t=some (.bool y):=e▸h
theorem bd_ {t:Nat} {k:IntKind} {x y:Int} (h:Fr.get fr t=some (.int k x)) (e:x=y):Fr.get fr t=some (.int k y):=e▸h
theorem fe_ {t:Nat} {x y:List UInt8} (h:Fr.get fr t=some (str x)) (e:x=y):Fr.get fr t=some (str y):=e▸h
theorem fE_ {t:Nat} {x y:Value} (h:Fr.get fr t=some x) (e:x=y):Fr.get fr t=some y:=e▸h
abbrev Fn0 (P:Program) (f:FuncId) (args:Array Value) (ret:Value):Prop:=Tri P f args [] [] (λ_:Unit=>ret) (λ_=>[]) (λ_=>[])
end body
section cut
variable {P:Program} {N:Nf} {v0:Vw} {H0:Hp} {R:Exit->Act->World->Prop} {K:List Kt} {fr:Fr} {H:Hp} {Γ:List Fct}
def Mid (N:Nf) (v0:Vw) (H0:Hp) {ι:Type} (frs:ι->Fr) (Hs:ι->Hp) (Γs:ι->List Fct) (e:Exit) (a:Act) (w:World):Prop :=
  e=.normal/\∃ i v,v.w=w/\Fr.sat N (frs i) a/\v.sat (Hs i)/\v0.to H0 v (Hs i)/\Z_ (Γs i) v
theorem eg_ {ι:Type} {c:Code} (m:ι->Fr) (Hs:ι->Hp) (x:ι->List Fct) (I:Run P (Mid N v0 H0 m Hs x) N v0 H0 c [] fr H Γ) (C:∀ i,Fin P R N v0 H0 K (m i) (Hs i) (x i)):Run P R N v0 H0 c K fr H Γ:=by
  intro a v A E L y;refine wp_mono (I a v A E L y) ?_;rintro e G w' ⟨rfl,i,B,rfl,k1,k2,F,J⟩;exact C i G B k1 k2 F J
theorem bS_ {ι:Type} {m:ι->Fr} {Hs:ι->Hp} {y:ι->List Fct} (i:ι) {F:Hp} (x:Fr.le (m i) fr) (C:H.Perm (Hs i++F)) (A:∀ v,v.sat H->Z_ Γ v->Z_ (y i) v) :
    Ok N v0 H0 (Mid N v0 H0 m Hs y .normal) fr H Γ :=
  bh_ (m i) x (dO_ C A λ_ v G B I E=>⟨rfl,i,v,rfl,G,B,I,E⟩)
end cut
end Go.Sx
namespace Go.Sx
open Go
def bl_ (v:Vw) (ad:Ao) (cs:List Value):Prop :=
  cs=[]\/∃ b off arr T fz,ad=some ⟨b,off,none⟩/\v.im b/\v.w.heap[b]? = some (.cells arr T fz)/\∀ j x,cs[j]? = some x->arr[off+j]? = some x
def L_ (ad:Ao) (cs:List Value):Fct where
 p:=λv=>bl_ v ad cs
 mono:=λv v' h hp=>by
   rcases hp with hp|⟨b,off,arr,T,fz,h1,h2,h3,h4⟩
   . exact .inl hp
   . exact .inr ⟨b,off,arr,T,fz,h1,h.imUp b h2,by rw[h.block b h2];exact h3,h4⟩
def bas (ad:Ao):Addr:=ad.getD ⟨0,0,none⟩
def rad (ad:Ao) (k:Nat):Addr:=⟨(bas ad).block,(bas ad).off+k,none⟩
theorem bl_.addr {v:Vw} {ad:Ao} {cs:List Value} (h:bl_ v ad cs) (y:cs≠[]):∃ b off,ad=some ⟨b,off,none⟩:=by
 rcases h with h|⟨b,off,x,T,fz,m,_⟩
 .exact absurd h y
 exact⟨b,off,m⟩
theorem bl_.cell {v:Vw} {ad:Ao} {cs:List Value} {k:Nat} {x:Value} (h:bl_ v ad cs) (m:cs[k]? = some x):v.w.cell? (rad ad k)=some x:=by
 rcases h with h|⟨b,off,A,T,fz,rfl,_,y,B⟩
 .subst h;simp at m
 simp[rad,bas,World.cell?,y,B k x m]
theorem bl_.drop {v:Vw} {ad:Ao} {cs:List Value} (h:bl_ v ad cs) (n:Nat) (ds:List Value) (y:∀ j x,ds[j]? = some x->cs[n+j]? = some x):bl_ v (ad.map (·.add n)) ds:=by
 rcases h with h|⟨b,off,m,T,fz,rfl,A,B,E⟩
 .subst h
  left
  cases ds with
  | nil=>rfl
  | cons d ds=>have:=y 0 d rfl;simp at this
 exact .inr ⟨b,off+n,m,T,fz,by simp[de_],A,B,λj x C=>by rw[ycF_];exact E _ _ (y j x C)⟩
theorem bl_.part {v:Vw} {ad:Ao} {cs ds:List Value} (h:bl_ v ad cs) (y:∀ (j:Nat) x,ds[j]? = some x->cs[j]? = some x):bl_ v ad ds:=by
 rcases h with h|⟨b,off,m,T,fz,rfl,A,B,E⟩
 .subst h
  left
  cases ds with
  | nil=>rfl
  | cons d ds=>have:=y 0 d rfl;simp at this
 exact .inr ⟨b,off,m,T,fz,rfl,A,B,λj x C=>E j x (y j x C)⟩
theorem kW_ {α:Type} (f:α->List Value) (n:Nat) (m:∀ x,(f x).length=n):∀ (l:List α) (i j:Nat) (x:α),l[i]? = some x->j<n->(l.flatMap f)[i*n+j]? = (f x)[j]?
  | [],i,j,x,h,_=>by simp at h
  | y::l,0,j,x,h,hj=>by
    simp only[ybc_,yam_]at h;subst h;simp only[yaV_,ydk_,yba_];rw[yaK_ (by rw[m];exact hj)]
  | y::l,i+1,j,x,h,hj=>by
    simp only[yaV_];rw[yaG_ (by rw[m,ycf_];omega),m,show (i+1)*n+j - n=i*n+j by rw[ycf_];omega];exact kW_ f n m l i j x zaQ_ hj
theorem cK_ {α:Type} (f:α->List Value) (n:Nat) (m:∀ x,(f x).length=n):∀ (l:List α),(l.flatMap f).length=l.length*n
  | []=>by simp
  | y::l=>by simp only[yaV_,yaj_,m,yai_,cK_ f n m l,ycf_];omega
section ops
variable {P:Program} {N:Nf} {v0:Vw} {H0:Hp} {R:Exit->Act->World->Prop} {K:List Kt} {fr:Fr} {H:Hp} {Γ:List Fct}
variable {ops:Array Oper} {l:List Oper} {d:Nat} {ty:TypeId} {ps:String} {af:Array Edge}
theorem Y_ {t e:TypeId} {x y:Operand} {ad:Ao} {len cap n:Nat} {k:IntKind} {i:Int} (C:∀ w,(underlying t).run P w=.ok (.slice e) w) (F:∀ w,(sizeOf e).run P w=.ok n w)
    (G:Fr.ev fr x=some (.slice ad len cap)) (A:Fr.ev fr y=some (.int k i)) (I:∀ v,v.sat H->Z_ Γ v->∃ b off,ad=some ⟨b,off,none⟩) (E:0<=i) (hl:i<len) :
    Yld P N fr H Γ (.indexAddr t x y) ty (.pointer (some (rad ad (i.toNat*n)))) :=
  λa v m B J _ _ _=>by
    obtain⟨b,off,rfl⟩:=I v B J;simp[execOp,m.ev G,m.ev A,Instr.indexAt,C,asIntOf,F,de_,E,hl,rad,bas]
theorem mE_ {s:TypeId} {x:Operand} {f k o:Nat} {ad:Ao} {y:Array Field} {m:Field} {n:Nat} (C:∀ w,(underlying s).run P w=.ok (.struct y) w) (F:Fr.ev fr x=some (.pointer (some (rad ad k)))) (A:y[f]? = some m) (B:m.offset=o)
    (E:∀ w,(sizeOf m.type).run P w=.ok (n+1) w) :
    Yld P N fr H Γ (.fieldAddr s x f) ty (.pointer (some (rad ad (k+o)))) :=
  λa v G I _ _ _ _=>by simp[execOp,G.ev F,Instr.fieldAt,C,A,Instr.sureAddr,fieldPlace,E,rad,de_,B,ycF_]
theorem bN_ {t:TypeId} {x:Operand} {ad:Ao} {k:Nat} {cs:List Value} {u:Value} (m:∀ w,(isAgg t).run P w=.ok false w) (E:Fr.ev fr x=some (.pointer (some (rad ad k))))
    (B:∀ v,v.sat H->Z_ Γ v->bl_ v ad cs) (C:cs[k]? = some u):Yld P N fr H Γ (.load t x) ty u :=
  eN_ E (λv y A=>bQ_ m ((B v y A).cell C))
theorem ah_ {t:TypeId} {x:Operand} {ad:Ao} {k n:Nat} {cs us:List Value} (I:∀ w,(isAgg t).run P w=.ok true w) (C:∀ w,(sizeOf t).run P w=.ok n w) (E:Fr.ev fr x=some (.pointer (some (rad ad k))))
    (A:∀ v,v.sat H->Z_ Γ v->bl_ v ad cs) (F:us.length=n) (B:∀ j y,us[j]? = some y->cs[k+j]? = some y):Yld P N fr H Γ (.load t x) ty (.agg us.toArray) :=
  eN_ E (λv m J=>cy_ I C F (λj y G=>by
    have:=(A v m J).cell (B j y G);simpa [rad,ycF_] using this))
theorem hy_ {k:Act->World->Prop} {b:Nat} {o:Obj} {F:Hp} (f:Fct) (I:H.Perm ((b,o)::F)) (O:∀ v:Vw,v.im b->v.w.heap[b]? = some o->Z_ Γ v->f.p v) (h:Ok N v0 H0 k fr F (f::Γ)):Ok N v0 H0 k fr H Γ:=by
 intro a v Q J y M;have g:=J.perm I;have L:=g.own (b,o) (yau_);have G:b<v.w.heap.size:=(yaD_.1 L.1).1;have A:=g.nodup;rw[yaF_,ybr_]at A;have C:v.le ⟨λx=>v.im x\/x=b,v.w,v.sl⟩:=⟨λx m=>.inl m,λ_ _=>rfl,rfl⟩;have B:b∈H.map Prod.fst:=(I.map Prod.fst).mem_iff.2 zai_;refine h a ⟨λx=>v.im x\/x=b,v.w,v.sl⟩ Q ⟨λp E=>⟨(g.own p (yaA_ _ E)).1,λhi=>?_⟩,A.2,λx m=>?_⟩ ?_ ⟨O _ (.inr rfl) L.1 (aB_ C M),aB_ C M⟩
 .rcases hi with hi|hi
  .exact (g.own p (yaA_ _ E)).2 hi
  exact A.1 (by have:=yaI_ (f:=Prod.fst) E;rw[hi]at this;exact this)
 .rcases m with m|m
  .exact J.lt x m
  exact m▸G
 refine⟨y.os,y.tape,y.output,y.size,y.block,λx m=>.inl (y.imUp x m),λx m=>?_,λx m=>y.hNew x ((I.map Prod.fst).mem_iff.2 (by rw[yaF_];exact yaA_ _ m)),y.sl,y.dr⟩;rcases m with m|m
 .exact y.imNew x m
 exact .inr (m▸y.hNew b B)
def ad_ (e:TypeId) (sz:Nat) (sv:Value) (n:Nat) (xs:List Value) (Hr:Hp):Prop :=
  xs.length=n*sz/\((sv=.slice none 0 0/\n=0/\Hr=[])\/
    ∃ g cap cur,sv=.slice (some ⟨g,0,none⟩) n cap/\Hr=[(g,.cells cur e (0,0))]/\n<=cap/\cap<=maxLen/\cur.size=cap*sz/\cur.toList.take (n*sz)=xs)
theorem ad_.nil (e:TypeId) (sz:Nat):ad_ e sz (.slice none 0 0) 0 [] []:=⟨by simp,.inl ⟨rfl,rfl,rfl⟩⟩
theorem ad_.owns {e:TypeId} {sz n:Nat} {sv:Value} {xs:List Value} {Hr F:Hp} {v:Vw} (h:ad_ e sz sv n xs Hr) (A:v.sat (Hr++F)):v.w.ownsRow 0 e sz sv n xs:=by
 refine⟨h.1,?_⟩;rcases h.2 with⟨m,x,_⟩|⟨g,cap,cur,m,rfl,y,C,E,B⟩
 .exact .inl ⟨m,x⟩
 exact .inr ⟨g,cap,cur,m,ycg_ _,(A.own (g,.cells cur e (0,0)) zai_).1,y,C,E,B⟩
theorem oR_ {e:TypeId} {sz n U:Nat} {sv M:Value} {xs ys:List Value} {Hr F:Hp} {v:Vw} {w':World} (h:ad_ e sz sv n xs Hr) (J:v.sat (Hr++F)) (T:w'.ownsRow 0 e sz M U ys) (G:v.w.grownBy w' sv.ownBlock) (V:v.w.drawn<=w'.drawn)
    (L:∀ g,M.ownBlock=some g->sv.ownBlock=some g\/v.w.heap.size<=g) :
    ∃ y,ad_ e sz M U ys y/\(⟨v.im,w',v.sl⟩:Vw).sat (y++F)/\v.to (Hr++F) ⟨v.im,w',v.sl⟩ (y++F):=by
  have O:∀ p,p∈Hr++F->p.1<v.w.heap.size:=λp x=>(yaD_.1 (J.own p x).1).1
  have E:∀ b,sv.ownBlock=some b->b∈Hr.map Prod.fst:=λb A=>by
    rcases h.2 with⟨rfl,_,_⟩|⟨g,cap,cur,rfl,rfl,_⟩
    . simp[Value.ownBlock]at A
    . simp[Value.ownBlock]at A;simp[A]
  have B:=J.nodup;rw[yaw_,yaY_]at B;have hF:∀ p,p∈F->some p.1≠sv.ownBlock:=λp x e=>B.2.2 _ (E p.1 e.symm) _ (yaI_ x) rfl
  have C:∀ p,p∈F->w'.heap[p.1]? = some p.2/\¬ v.im p.1:=λp x=>by
    have:=J.own p (yay_ _ x);exact⟨by rw[G.block _ (O p (yay_ _ x)) (hF p x)];exact this.1,this.2⟩
  have Q:∀ y:Hp,(∀ b,b∈y.map Prod.fst->b∈Hr.map Prod.fst\/v.w.heap.size<=b)->v.to (Hr++F) ⟨v.im,w',v.sl⟩ (y++F):=λy hh=>by
    refine⟨G.os,G.tape,G.output,G.size,λb A hn=>G.block b A (λe=>hn ?_),λ_ h=>h,λ_ h=>.inl h,λb A=>?_,rfl,.inr V⟩
    . rw[yaw_];exact yal_ _ (E b e.symm)
    . rw[yaw_]at A ⊢
      rcases yag_.1 A with I|I
      . exact (hh b I).imp (yal_ _) id
      . exact .inl (yay_ _ I)
  rcases T.2 with⟨I,W⟩|⟨g,cap,cur,I,_,h3,X,Y,h6,Z⟩
  . refine⟨[],⟨T.1,.inl ⟨I,W,rfl⟩⟩,⟨λp x=>C p (by simpa using x),by simpa using B.2.1,λb A=>ycs_ (J.lt b A) G.size⟩,Q [] zai_⟩
  . have m:g∈Hr.map Prod.fst\/v.w.heap.size<=g:=(L g (by rw[I];rfl)).imp (E g) id
    refine⟨[(g,.cells cur e (0,0))],⟨T.1,.inr ⟨g,cap,cur,I,rfl,X,Y,h6,Z⟩⟩,⟨λp x=>?_,?_,λb A=>ycs_ (J.lt b A) G.size⟩,Q _ zaY_⟩
    . rcases yag_.1 x with x|x
      . simp only[yak_]at x
        subst x;refine⟨h3,λhi=>?_⟩;rcases m with m|m
        . obtain⟨q,S,rfl⟩:=yas_.1 m
          exact (J.own q (yal_ _ S)).2 hi
        . have:=J.lt _ hi;omega
      . exact C p x
    . simp only[yaw_,yaF_,ybR_,List.singleton_append,ybr_]
      refine⟨λhm=>?_,B.2.1⟩;obtain⟨q,S,e⟩:=yas_.1 hm;rcases m with m|m
      . exact B.2.2 _ m _ (yaI_ S) e.symm
      . have:=O q (yay_ _ S);omega
theorem kA_ (w:World) {t x e:TypeId} {i:TypeInfo} {z:Value} {n m c sz:Nat} {sv Q:Value} {w':World} {xs news:List Value} {ad:Addr} (G:P.underlying t=some (.slice e)) (hi:P.info? e=some i) (T:i.zero=some z)
    (J:i.size=sz) (y:w.ownsRow 0 e sz sv n xs) (hl:news.length=m*sz) (v:∀ j u,news[j]? = some u->w.cell? (ad.add j)=some u) (U:∀ u∈news,u.oneCell'=true) (I:n+m<=maxLen) (S:(n+m)*i.bytes<=140737488355328)
    (B:(Builtin.append_ #[t,t] x #[sv,.slice (some ad) m c]).run P w=.ok Q w'):w.drawn<=w'.drawn/\∀ g,Q.ownBlock=some g->sv.ownBlock=some g\/w.heap.size<=g:=by
  subst J;have F:n+m<=9223372036854775807:=by simp only[maxLen]at I;omega
  rcases y.2 with⟨rfl,rfl⟩|⟨b,cap,cur,rfl,_,M,V,_,O,L⟩
  . by_cases hm:m=0
    . subst hm
      have W:news=[]:=yaz_ (by simpa using hl);subst W
      have:(Builtin.append_ #[t,t] x #[.slice none 0 0,.slice (some ad) 0 c]).run P w=.ok (.slice none 0 0) w:=by
        simp[Builtin.append_,run_underlying G,sizeOf,typeInfo,hi,Builtin.lenOf,Builtin.firstCells,loadCells,loadCellsFrom]
      rw[this]at B;cases B;exact⟨yae_ _,λg C=>by simp[Value.ownBlock]at C⟩
    . have:=run_append_nil (P:=P) w t x e i z G hi T ad m c news hl v zaa_ zaa_ (by simp only[yba_]at S;omega)
      rw[this]at B;cases B;refine⟨by simp,λg C=>?_⟩;simp only[Value.ownBlock,yam_]at C;exact .inr zaa_
  . by_cases A:n+m<=cap
    . have E:n*i.size+news.length<=cur.size:=by rw[hl,O,<-ycf_];exact ycI_ _ A
      have:=run_append_room (P:=P) w t x e i G hi b n cap cur M ad m c news hl v U A E;rw[this]at B;cases B;exact⟨by simp,λg C=>.inl C⟩
    . have Z_:∀ j u,xs[j]? = some u->w.cell? ((⟨b,0,none⟩:Addr).add j)=some u:=y.cells (g:=b) rfl
      have:=run_append_grow (P:=P) w t x e i z G hi T ⟨b,0,none⟩ n cap xs y.1 Z_ ad m c news hl v zaa_ zaa_ (growslice_fits zaa_ S);rw[this]at B;cases B;refine⟨by simp,λg C=>?_⟩;simp only[Value.ownBlock,yam_]at C;exact .inr zaa_
structure Elt (P:Program) (t e:TypeId) (sz by':Nat):Prop where
  und:P.underlying t=some (.slice e)
  info:∃ i z,P.info? e=some i/\i.zero=some z/\i.size=sz/\i.bytes=by'/\z.cells.size=sz
  pos:0<sz
theorem am_ {x y:Operand} {t e:TypeId} {sz by' n m c:Nat} {sv:Value} {xs news:List Value} {Hr F:Hp} {ad:Addr} (I:Elt P t e sz by') (B:ad_ e sz sv n xs Hr)
    (hx:Fr.ev fr x=some sv) (hy:Fr.ev fr y=some (.slice (some ad) m c)) (M:H.Perm (Hr++F)) (hl:news.length=m*sz) (C:∀ v,v.sat H->Z_ Γ v->∀ j u,news[j]? = some u->v.w.cell? (ad.add j)=some u) (G:∀ u∈news,u.oneCell'=true)
    (E:n+m<=maxLen) (O:(n+m)*by'<=140737488355328) (hN:Nat.blt d N.n=true)
    (Z:∀ sv' A,ad_ e sz sv' (n+m) (xs++news) A->Ops P R N v0 H0 ops l K ((d,sv')::fr) (A++F) Γ) :
    Ops P R N v0 H0 ops (⟨some d,.call ⟨.builtin .append,#[x,y],#[t,t]⟩,ty,ps,af,none⟩::l) K fr H Γ :=
  cN_ rfl λa v L J h3 S=>by
    obtain⟨i,z,hi,U,es,T,ez⟩:=I.info;have g:=J.perm M;have X:=C v J S;have V:=B.owns g;obtain⟨Y,w',W,q1,q2,_⟩:=run_append_own (P:=P) v.w 0 t ty e i z sz by' I.und hi U es T ez I.pos sv n xs V ad m c news hl X G E O (ycg_ _)
    obtain⟨a1,a2⟩:=kA_ v.w I.und hi U es V hl X G E (by rw[T];exact O) W;obtain⟨A,k1,k2,Q⟩:=oR_ B g q1 q2 a1 a2;unfold Oper.wp execOp;simp only[resolve,invoke,builtin,Sem.run_bind,Sem.run_pure,Result.andThen_ok,ybp_,yaF_,ybR_,L.ev hx,L.ev hy,W];exact Z Y A k1 _ ⟨v.im,w',v.sl⟩ (L.put hN) k2 (h3.trans (Q.permL M.symm)) (aB_ ((Q.permL M.symm).le J) S)
theorem kE_ {t:TypeId} {parts:Array (Nat×Operand)} {u:Value} (y:∀ a:Act,Fr.sat N fr a->∀ w,(Instr.build t (parts.map λ(i,x)=>(i,a.eval x))).run P w=.ok u w) :
    Yld P N fr H Γ (.build t parts) ty (u) :=
  λa v m A B _ _ _=>by
    have:=y a m v.w;simp only[execOp,Sem.run_bind,this,Result.andThen_ok,Sem.run_pure]
def Fr.evp (fr:Fr):List (Nat×Operand)->Option (List (Nat×Value))
  | []=>some []
  | (i,x)::r=>match Fr.ev fr x with
    | some v=>match Fr.evp fr r with
      | some vs=>some ((i,v)::vs)
      | none=>none
    | none=>none
theorem Fr.sat.evp {a:Act} (h:Fr.sat N fr a):∀ {xs:List (Nat×Operand)} {vs:List (Nat×Value)},Fr.evp fr xs=some vs->xs.map (λ(i,x)=>(i,a.eval x))=vs
 | [],vs,e=>by simp only[Fr.evp,yam_]at e;subst e;rfl
 | (i,x)::r,vs,e=>by
   simp only[Fr.evp]at e
   split at e
   . rename_i u v
     split at e
     . rename_i us m
       simp only[yam_]at e;subst e;show (i,a.eval x)::_=_
       rw[h.ev v];exact yah_ _ (h.evp m)
     . cases e
   . cases e
def kT_:List Value->Nat->List Value->List Value
  | cs,0,[]=>cs
  | _::cs,0,v::vs=>v::kT_ cs 0 vs
  | c::cs,n+1,vs=>c::kT_ cs n vs
  | [],_,_=>[]
theorem rt_:∀ (cs:List Value) (n:Nat),kT_ cs n []=cs
  | [],0=>rfl
  | [],n+1=>rfl
  | c::cs,0=>rfl
  | c::cs,n+1=>by simp only[kT_];rw[rt_ cs n]
theorem oK_:∀ (cs:List Value) (n:Nat) (v:Value) (vs:List Value),kT_ cs n (v::vs)=kT_ (cs.set n v) (n+1) vs
  | [],0,v,vs=>by simp[kT_]
  | [],n+1,v,vs=>by simp[kT_]
  | c::cs,0,v,vs=>by simp[kT_]
  | c::cs,n+1,v,vs=>by simp only[kT_,ydi_];rw[oK_ cs n v vs]
theorem oT_ (off:Nat):∀ (vs:List Value) (k:Nat) (cs:List Value),
    (vs.zipIdx k).foldl (λ(cs:Array Value) (p:Value×Nat)=>cs.setIfInBounds (off+p.2) p.1) cs.toArray=(kT_ cs (off+k) vs).toArray
  | [],k,cs=>by simp[rt_]
  | v::vs,k,cs=>by
    simp only[List.zipIdx_cons,ycw_];rw[oK_,show cs.toArray.setIfInBounds (off+k) v=(cs.set (off+k) v).toArray by simp,oT_ off vs (k+1)];rfl
def ko_ (place:Nat->Option (Nat×Nat)):List Value->List (Nat×Value)->Option (List Value)
  | cells,[]=>some cells
  | cells,(i,v)::rest=>match place i with
    | none=>none
    | some (off,size)=>bif Nat.beq v.cells.toList.length size&&Nat.ble (off+size) cells.length then ko_ place (kT_ cells off v.cells.toList) rest else none
theorem ha_ (place:Nat->Option (Nat×Nat)):∀ (vs:List (Nat×Value)) (cells cs:List Value),ko_ place cells vs=some cs->Instr.fill place cells.toArray vs=some cs.toArray
  | [],cells,cs,h=>by simp only[ko_,yam_]at h;subst h;rfl
  | (i,v)::rest,cells,cs,h=>by
    simp only[ko_]at h;cases hp:place i with
    | none=>rw[hp]at h;cases h
    | some q =>
      obtain⟨off,size⟩:=q;rw[hp]at h;simp only at h;cases hb:(Nat.beq v.cells.toList.length size&&Nat.ble (off+size) cells.length) with
      | false=>rw[hb]at h;cases h
      | true =>
        rw[hb,cond_true]at h;simp only[yaS_]at hb;have y:v.cells.size=size:=by simpa using ycd_ hb.1
        have B:off+size<=cells.length:=ybj_ hb.2;have A:=ha_ place rest _ _ h;have x:=oT_ off v.cells.toList 0 cells;simp only[ycc_]at x
        have m:v.cells.zipIdx.foldl (λ(cs:Array Value) (p:Value×Nat)=>cs.setIfInBounds (off+p.2) p.1) cells.toArray=(kT_ cells off v.cells.toList).toArray:=by
          rw[<-x,<-Array.foldl_toList];simp[Array.toList_zipIdx]
        simp only[Instr.fill,hp];rw[yaf_ (by simp[y];omega)];exact m▸A
def fH_ (P:Program) (t:TypeId) (pl:List (Nat×Nat)) (z:List Value):Prop :=
  ∃ fs:Array Field,(∀ w,(zeroValue t).run P w=.ok (.agg z.toArray) w)/\(∀ w,(underlying t).run P w=.ok (.struct fs) w)/\(∀ w,(fs.mapM (λ(f:Field)=>(do pure (f.offset,<-sizeOf f.type):Sem (Nat×Nat)))).run P w=.ok pl.toArray w)
theorem w_ {t:TypeId} {parts:List (Nat×Operand)} {vs:List (Nat×Value)} {pl:List (Nat×Nat)} {z cs:List Value} (y:fH_ P t pl z) (B:Fr.evp fr parts=some vs) (v:ko_ (λi=>pl[i]?) z vs=some cs) :
    Yld P N fr H Γ (.build t parts.toArray) ty (.agg cs.toArray) :=
  kE_ (λa F w=>by
    obtain⟨G,C,x,E⟩:=y;have:=F.evp B;rw[ybp_,this];have m:=ha_ _ _ _ _ v;have A:Instr.fill (λi=>pl.toArray[i]?) z.toArray vs=some cs.toArray:=by simpa using m
    simp only[Instr.build,Sem.run_bind,C,Result.andThen_ok,x,E,Value.cells,A,Sem.run_pure])
def hi_ (z:List Value):Nat->List Value
  | 0=>[]
  | n+1=>z++hi_ z n
theorem qm_ (z:List Value) (m:0<z.length):∀ (n i:Nat),i<n*z.length->(hi_ z n)[i]? = z[i%z.length]?
 | 0,i,h=>by simp at h
 | n+1,i,h=>by
   simp only[hi_]
   by_cases hi:i<z.length
   . rw[yaK_ hi,Nat.mod_eq_of_lt hi]
   . rw[yaG_ zaa_,qm_ z m n (i - z.length) (by rw[ycf_]at h;omega)]
     rw[<-Nat.mod_eq_sub_mod zaa_]
theorem gI_ (z:List Value):∀ n,(hi_ z n).length=n*z.length
  | 0=>by simp[hi_]
  | n+1=>by simp only[hi_,yaj_,gI_ z n,ycf_];omega
theorem jr_ (z:List Value) (m:0<z.length) (n:Nat):(Array.range (n*z.length)).map (λi=>z.toArray[i%z.toArray.size]!)=(hi_ z n).toArray:=by
 apply Array.ext'
 apply ybx_
 intro i;simp only[Array.toList_map,Array.toList_range,yaH_]
 by_cases hi:i<n*z.length
 .rw[qm_ z m n i hi,List.getElem?_range hi]
  have hm:i%z.length<z.length:=Nat.mod_lt _ m;simp[hm]
 rw[ybu_ (by simpa using hi),ybu_ (by rw[gI_];omega)];rfl
theorem M_ {t e:TypeId} {len sz:Nat} {parts:List (Nat×Operand)} {vs:List (Nat×Value)} {A:Value} {cs:List Value} (M:∀ w,(underlying t).run P w=.ok (.slice e) w) (O:∀ w,(sizeOf e).run P w=.ok sz w) (V:∀ w,(zeroValue e).run P w=.ok A w)
    (F:A.cells.toList.length=sz) (J:Nat.blt 0 (len*sz)=true) (E:Nat.ble (len*sz) 16777216=true) (Q:Fr.evp fr parts=some vs) (L:ko_ (λi=>some (i*sz,sz)) (hi_ A.cells.toList len) vs=some cs) (S:Nat.blt d N.n=true)
    (T:∀ b,Ops P R N v0 H0 ops l K ((d,.slice (some ⟨b,0,none⟩) len len)::fr) ((b,.cells cs.toArray e (0,0))::H) Γ):Ops P R N v0 H0 ops (⟨some d,.buildSlice t len parts.toArray,ty,ps,af,none⟩::l) K fr H Γ :=
  fd_ (x:=λb=>.slice (some ⟨b,0,none⟩) len len) S (λa v U W X=>by
    have B:=U.evp Q;have m:=ha_ _ _ _ _ L;have y:0<len*sz:=by simpa [Nat.blt_eq] using J
    have I:0<sz:=Nat.pos_of_mul_pos_left y;have G:len*sz<=16777216:=ybj_ E;have C:=jr_ A.cells.toList zaa_ len;rw[F]at C;simp only[ycG_]at C;rw[<-C]at m;simp only[execOp,Instr.buildSlice,Sem.run_bind,M,Result.andThen_ok,O,ybp_,B];rw[yaf_ zaa_,yaf_ zaa_];simp only[Sem.run_bind,Sem.run_pure,V,Result.andThen_ok,m];rfl) T
end ops
end Go.Sx
namespace Go.Sx
open Go
section ops
variable {P:Program} {N:Nf} {v0:Vw} {H0:Hp} {R:Exit->Act->World->Prop} {K:List Kt} {fr:Fr} {H:Hp} {Γ:List Fct}
variable {ops:Array Oper} {l:List Oper} {d:Nat} {ty:TypeId} {ps:String} {af:Array Edge}
theorem qU_ (h:Array Obj) (o:Obj) (f:Obj->Obj):(h.push o).modify h.size f=h.push (f o):=by
 apply yco_
 intro i;rw[yby_]
 by_cases e:h.size=i
 .subst e;simp
 rw[yaf_ e,ycy_,ycy_,yaf_ (λh=>e h.symm),yaf_ (λh=>e h.symm)]
def bytesV (m:List UInt8):List Value:=m.map λc=>.int .u8 (c.toNat:Int)
theorem zF_ {x:Operand} {s t e:TypeId} {m:List UInt8} (G:∀ w,(underlying s).run P w=.ok .string w) (F:∀ w,(underlying t).run P w=.ok (.slice e) w) (Q:∀ w,(underlying e).run P w=.ok (.int .u8) w)
    (I:Fr.ev fr x=some (str m)) (J:Nat.blt d N.n=true)
    (L:∀ cap b,m.length<=cap->Ops P R N v0 H0 ops l K ((d,.slice (some ⟨b,0,none⟩) m.length cap)::fr) ((b,.cells (bytesV m++List.replicate (cap - m.length) (Value.int .u8 0)).toArray e (cap,cap+1))::H) Γ) :
    Ops P R N v0 H0 ops (⟨some d,.convert s t x,ty,ps,af,none⟩::l) K fr H Γ :=
  ni_ (β:=Nat) (x:=λcap b=>.slice (some ⟨b,0,none⟩) m.length cap) (o:=λcap=>.cells (bytesV m++List.replicate (cap - m.length) (Value.int .u8 0)).toArray e (cap,cap+1)) (λcap=>m.length<=cap) J
    (λa v S U V=>by
      have y:m.length<=(Question.appendCap m.length 0 e).cut (v.w.tape v.w.drawn (.appendCap m.length 0 e)):=by simp[Question.cut]
      generalize T:(Question.appendCap m.length 0 e).cut (v.w.tape v.w.drawn (.appendCap m.length 0 e))=cap at y
      have A:(bytesV m++List.replicate (cap - m.length) (Value.int .u8 0)).length=cap:=by simp[bytesV];omega
      have M:(⟨m.toArray⟩:ByteArray).size=m.length:=by simp[ByteArray.size]
      have E:(Array.map (λ(b:UInt8)=>Value.int .u8 (b.toNat:Int)) m.toArray++Array.replicate (cap - m.length) (Value.int .u8 0))=(bytesV m++List.replicate (cap - m.length) (Value.int .u8 0)).toArray:=by simp[bytesV]
      refine⟨cap,{ v.w with heap:=v.w.heap.push (.cells (bytesV m++List.replicate (cap - m.length) (Value.int .u8 0)).toArray e (cap,cap+1)),drawn:=v.w.drawn+1 },y,?_,rfl,rfl,rfl,rfl,Nat.le_succ _⟩
      have B:(Conv.stringToBytes e ⟨m.toArray⟩).run P v.w=.ok (.slice (some ⟨v.w.heap.size,0,none⟩) m.length cap) { v.w with heap:=v.w.heap.push (.cells (bytesV m++List.replicate (cap - m.length) (Value.int .u8 0)).toArray e (cap,cap+1)),drawn:=v.w.drawn+1 }:=by
        generalize bytesV m++List.replicate (cap - m.length) (Value.int .u8 0)=cs at A E ⊢
        simp only[Conv.stringToBytes,M];show Sem.run P (choose _ >>= _) v.w=_
        rw[Sem.run_bind]
        have C:(choose (.appendCap m.length 0 e)).run P v.w=.ok cap { v.w with drawn:=v.w.drawn+1 }:=by
          simp[choose,Sem.run,Question.forced,T]
        rw[C,Result.andThen_ok,E];simp only[newRow,Sem.run_bind,newObj,markStringish,shape,freeze];simp only[Sem.run,Result.andThen_ok,World.shape?,Array.getElem?_push_size,ybF_,A,World.freeze,Nat.one_ne_zero,yca_,Sem.run_pure];rw[qU_];simp
      simp only[execOp,Sem.run_bind,convert,G,F,Q,Result.andThen_ok,S.ev I,str,B,Sem.run_pure])
    (λcap b O=>L cap b O)
theorem eM_ {t:TypeId} {x:Operand} {lo hi:Option Operand} {m:List UInt8} {i j:Nat} {kl kh:IntKind} (F:∀ w,(underlying t).run P w=.ok .string w) (G:Fr.ev fr x=some (str m))
    (B:match lo with|some y=>Fr.ev fr y=some (.int kl (i:Int))|none=>i=0) (A:match hi with|some y=>Fr.ev fr y=some (.int kh (j:Int))|none=>j=m.length) (E:i<=j) (L:j<=m.length) :
    Yld P N fr H Γ (.slice t x lo hi none) ty (str ((m.drop i).take (j - i))) :=
  λa v C M O _ _ _=>by
    have I:(⟨m.toArray⟩:ByteArray).size=m.length:=by simp[ByteArray.size]
    have J:=ByteArray.extract_mk m i j;cases lo<;>cases hi<;>simp only at B A
    . subst B A;simp[execOp,Instr.sliceAt,Instr.slice,F,C.ev G,str,Instr.sliceBounds,I,J]
    . subst B;simp[execOp,Instr.sliceAt,Instr.slice,F,C.ev G,C.ev A,str,Instr.sliceBounds,Instr.sliceBound,asIntOf,I,J,L]
    . subst A;simp[execOp,Instr.sliceAt,Instr.slice,F,C.ev G,C.ev B,str,Instr.sliceBounds,Instr.sliceBound,asIntOf,I,J,E]
    . simp[execOp,Instr.sliceAt,Instr.slice,F,C.ev G,C.ev B,C.ev A,str,Instr.sliceBounds,Instr.sliceBound,asIntOf,I,J,E,L]
def sad (ad:Ao) (cap i n:Nat):Ao:=if cap=i then ad else ad.map (·.add (i*n))
theorem di_ {t e:TypeId} {x:Operand} {lo hi:Option Operand} {ad:Ao} {len cap i j n:Nat} {kl kh:IntKind} (E:∀ w,(underlying t).run P w=.ok (.slice e) w) (F:∀ w,(sizeOf e).run P w=.ok n w) (G:Fr.ev fr x=some (.slice ad len cap))
    (m:match lo with|some y=>Fr.ev fr y=some (.int kl (i:Int))|none=>i=0) (A:match hi with|some y=>Fr.ev fr y=some (.int kh (j:Int))|none=>j=len) (C:i<=j) (I:j<=cap) :
    Yld P N fr H Γ (.slice t x lo hi none) ty (.slice (sad ad cap i n) (j - i) (cap - i)) :=
  λa v B J L _ _ _=>by
    cases lo<;>cases hi<;>simp only at m A
    . subst m A;simp[execOp,Instr.sliceAt,Instr.slice,E,F,B.ev G,Instr.sliceBounds,sad]
    . subst m;simp[execOp,Instr.sliceAt,Instr.slice,E,F,B.ev G,B.ev A,Instr.sliceBounds,Instr.sliceBound,asIntOf,I,sad]
    . subst A;simp[execOp,Instr.sliceAt,Instr.slice,E,F,B.ev G,B.ev m,Instr.sliceBounds,Instr.sliceBound,asIntOf,C,sad]
    . simp[execOp,Instr.sliceAt,Instr.slice,E,F,B.ev G,B.ev m,B.ev A,Instr.sliceBounds,Instr.sliceBound,asIntOf,C,I,sad]
theorem bl_.sad {v:Vw} {ad:Ao} {cs:List Value} {cap i n:Nat} (h:bl_ v ad cs) (ds:List Value) (y:∀ j x,ds[j]? = some x->cs[i*n+j]? = some x) (A:cs.length<=cap*n):bl_ v (sad ad cap i n) ds:=by
 unfold Sx.sad
 split
 .rename_i m
  subst m;left
  cases ds with
  | nil=>rfl
  | cons d ds =>
    have:=y 0 d rfl;rw[ybu_ zaa_]at this;cases this
 exact h.drop (i*n) ds y
theorem aR_ {fn:Fn} {xs ys:List Operand} {us vs:List Value} (B:Fr.evs fr xs=some us) (y:Fr.evs fr ys=some vs):Yld P N fr H Γ (.makeFunc fn xs.toArray ys.toArray) ty (.func fn us.toArray vs.toArray) :=
  λa v m C E _ _ _=>by
    have x:=m.evs B;have A:=m.evs y;simp[execOp,Instr.makeFunc,x,A]
theorem T_ {f:FuncId} {g:Operand} {first cap:List Value} {xs:List Operand} {y:Array TypeId} {vs:List Value} {ι:Type} {Hc F:Hp} {C:List Fct} {m:ι->Value} {H':ι->Hp} {Γ':ι->List Fct}
    (A:Tri P f (first++vs++cap).toArray Hc C m H' Γ') (I:Fr.ev fr g=some (.func (.func f) first.toArray cap.toArray)) (J:Fr.evs fr xs=some vs) (G:H.Perm (Hc++F)) (E:∀ v,v.sat H->Z_ Γ v->Z_ C v) (O:Nat.blt d N.n=true)
    (L:∀ x,Ops P R N v0 H0 ops l K ((d,m x)::fr) (H' x++F) (Γ' x++Γ)) :
    Ops P R N v0 H0 ops (⟨some d,.call ⟨.value g,xs.toArray,y⟩,ty,ps,af,none⟩::l) K fr H Γ :=
  oE_ A (λa w B=>by
    have M:=B.evs J;have Q:=A.callable (first++vs++cap).toArray w;simp only[execOp,resolve,Deferred.ofValue,B.ev I,invoke,ybp_,M,Sem.run_bind,Sem.run_pure,Result.andThen_ok,List.append_toArray,Q]) G E O L
end ops
end Go.Sx
namespace Go.Sx
open Go
class NoPan (R:Exit->Act->World->Prop):Prop where
  st:∀ c a d x w,R (.panic c) (a.put d x) w->R (.panic c) a w
instance {P:Program} {fn:Func} {ι:Type} {v0:Vw} {H0:Hp} {ret:ι->Value} {H':ι->Hp} {Γ':ι->List Fct}:NoPan (bodyPost P fn (jb_ v0 H0 ret H' Γ')) :=
  ⟨λc a d x w h=>by obtain⟨_,y,v',e,_⟩:=h;cases e⟩
instance {N:Nf} {v0:Vw} {H0:Hp} {ι:Type} {frs:ι->Fr} {Hs:ι->Hp} {Γs:ι->List Fct}:NoPan (Mid N v0 H0 frs Hs Γs) :=
  ⟨λc a d x w h=>by cases h.1⟩
theorem ip_ {P:Program} {R:Exit->Act->World->Prop} [hR:NoPan R] {c:List PanicEntry} {a:Act} {d:Option Tmp} {x:Value} {w:World}:∀ (K:List Kt),post P R K (.panic c) (a.put d x) w->post P R K (.panic c) a w
  | [],h=>hR.st c a d x w h
  | .seq _::K,h=>ip_ K h
  | .inv _::K,h=>ip_ K h
  | .blk _::K,h=>ip_ K h
def SW (Hs:Hp) (Γs:List Fct) (w:World):Prop:=∃ v:Vw,v.w=w/\v.sat Hs/\Z_ Γs v
section any
variable {P:Program} {N:Nf} {v0:Vw} {H0:Hp} {R:Exit->Act->World->Prop} {K:List Kt} {fr:Fr} {H Hs:Hp} {Γ Γs:List Fct}
variable {ops:Array Oper} {d:Nat} {ty:TypeId} {ps:String} {af:Array Edge} {fuel:Nat} {listed:Array Bool}
abbrev Any (P:Program) (R:Exit->Act->World->Prop) (N:Nf) (v0:Vw) (H0:Hp) (ops:Array Oper) (Hs:Hp) (Γs:List Fct) (fuel:Nat) (listed:Array Bool) (K:List Kt) (fr:Fr) (H:Hp) (Γ:List Fct):Prop :=
  Ok N v0 H0 (wpAnyH P .any ops (post P R K) (SW Hs Γs) fuel listed) fr H Γ
theorem mW_ {A:Nat} (Hs:Hp) (Γs:List Fct) (hm:P.follows .mixedOrders=true) (h:Any P R N v0 H0 ops Hs Γs ops.size (Array.replicate ops.size false) K fr H Γ):Run P R N v0 H0 (.region A ops true) K fr H Γ :=
  λa v C x m B=>wp_region_held hm (by
    have y:v.le ⟨v.im,{ v.w with drawn:=v.w.drawn+1 },v.sl⟩:=⟨λ_ h=>h,λ_ _=>rfl,rfl⟩;exact h a ⟨v.im,{ v.w with drawn:=v.w.drawn+1 },v.sl⟩ C ⟨x.own,x.nodup,x.lt⟩ ⟨m.os,m.tape,m.output,m.size,m.block,m.imUp,m.imNew,m.hNew,m.sl,m.dr.imp (λh=>h) λh=>Nat.le_succ_of_le h⟩ (aB_ y B))
theorem uP_ {m:Nat} (hm:P.follows .mixedOrders=true) (h:Any P R N v0 H0 ops H Γ ops.size (Array.replicate ops.size false) K fr H Γ):Run P R N v0 H0 (.region m ops true) K fr H Γ:=mW_ H Γ hm h
theorem Vw.sat.tail {v:Vw} {p:Nat×Obj} (h:v.sat (p::H)):v.sat H :=
  ⟨λx m=>h.own x (yaA_ _ m),by have:=h.nodup;rw[yaF_,ybr_]at this;exact this.2,h.lt⟩
theorem qg_ [NoPan R] (i:Nat) {m:Oper} {x:Value} (hi:ops[i]? = some m) (L:Region.noSelect ops=true) (E:Region.free .any ops listed i=true) (G:(Region.ready .any ops listed).contains i=true)
    (C:m.dst=some d) (O:Nat.blt d N.n=true) (F:∀ a,Fr.sat N fr a->YieldsIf P ops (SW Hs Γs) m x a) (J:∀ v,v.sat H->Z_ Γ v->v.sat Hs/\Z_ Γs v)
    (h:Any P R N v0 H0 ops Hs Γs fuel (listed.setIfInBounds i true) K ((d,x)::fr) H Γ):Any P R N v0 H0 ops Hs Γs (fuel+1) listed K fr H Γ :=
  λa v B y I A=>wpAnyH_take hi L E G (λc a w M=>ip_ K M) (F a B) ⟨v,rfl,J v y A⟩ (by
    rw[C];exact h _ v (B.put O) y I A)
theorem yq_ [NoPan R] (i:Nat) {m:Op} {x:Value} (hi:ops[i]? = some ⟨some d,m,ty,ps,af,none⟩) (G:Region.noSelect ops=true) (y:Region.free .any ops listed i=true) (B:(Region.ready .any ops listed).contains i=true)
    (A:Yld P N fr Hs Γs m ty x) (F:Nat.blt d N.n=true) (E:∀ v,v.sat H->Z_ Γ v->v.sat Hs/\Z_ Γs v)
    (h:Any P R N v0 H0 ops Hs Γs fuel (listed.setIfInBounds i true) K ((d,x)::fr) H Γ):Any P R N v0 H0 ops Hs Γs (fuel+1) listed K fr H Γ :=
  qg_ i hi G y B rfl F (λa C=>.inl ⟨rfl,λw ⟨v,e,k1,k2⟩=>by subst e;exact A a v C k1 k2 (some d) ps af⟩) E h
theorem vQ_ [NoPan R] (i:Nat) {y:Op} {x:Value} {j t:Nat} {m:Bool} (hi:ops[i]? = some ⟨some d,y,ty,ps,af,some (j,m)⟩) (G:Region.noSelect ops=true) (B:Region.free .any ops listed i=true) (C:(Region.ready .any ops listed).contains i=true)
    (I:iv_ ops j=some t) (F:Fr.get fr t=some (.bool m)) (J:Yld P N fr Hs Γs y ty x) (L:Nat.blt d N.n=true) (E:∀ v,v.sat H->Z_ Γ v->v.sat Hs/\Z_ Γs v)
    (h:Any P R N v0 H0 ops Hs Γs fuel (listed.setIfInBounds i true) K ((d,x)::fr) H Γ):Any P R N v0 H0 ops Hs Γs (fuel+1) listed K fr H Γ :=
  qg_ i hi G B C rfl L (λa A=>.inl ⟨by simp[Region.wanted,hl_ A I F],λw ⟨v,e,k1,k2⟩=>by subst e;exact J a v A k1 k2 (some d) ps af⟩) E h
theorem any_no [NoPan R] (i:Nat) {G:Op} {x:Value} {j t:Nat} {m:Bool} (hi:ops[i]? = some ⟨some d,G,ty,ps,af,some (j,m)⟩) (F:Region.noSelect ops=true) (y:Region.free .any ops listed i=true) (B:(Region.ready .any ops listed).contains i=true)
    (I:iv_ ops j=some t) (E:Fr.get fr t=some x) (A:(match x with|.bool b=>Bool.xor b m|_=>true)=true) (L:Nat.blt d N.n=true) (C:∀ v,v.sat H->Z_ Γ v->v.sat Hs/\Z_ Γs v)
    (h:Any P R N v0 H0 ops Hs Γs fuel (listed.setIfInBounds i true) K ((d,undef)::fr) H Γ):Any P R N v0 H0 ops Hs Γs (fuel+1) listed K fr H Γ :=
  qg_ i hi F y B rfl L (λa J=>.inr ⟨by
    simp only[Region.wanted,hl_ J I E];cases x<;>first|rfl|(rename_i b;cases b<;>cases m<;>simp_all),rfl⟩) C h
def gt_ (ops:Array Oper):Array Bool->List Nat->Bool
  | _,[]=>true
  | listed,i::is=>Region.free .any ops listed i&&((Region.ready .any ops listed).contains i&&gt_ ops (listed.setIfInBounds i true) is)
def Sq (P:Program) (R:Exit->Act->World->Prop) (N:Nf) (v0:Vw) (H0:Hp) (ops:Array Oper) (Hs:Hp) (Γs:List Fct) (is:List Nat) (fuel:Nat) (listed:Array Bool) (K:List Kt) (fr:Fr) (H:Hp) (Γ:List Fct):Prop :=
  (Region.noSelect ops&&gt_ ops listed is)=true->(∀ v,v.sat H->Z_ Γ v->v.sat Hs/\Z_ Γs v)->Any P R N v0 H0 ops Hs Γs (fuel+is.length) listed K fr H Γ
theorem s_ (fuel:Nat) (m:List Nat) (x:(Region.noSelect ops&&gt_ ops listed m)=true) (y:∀ v,v.sat H->Z_ Γ v->v.sat Hs/\Z_ Γs v) (h:Sq P R N v0 H0 ops Hs Γs m fuel listed K fr H Γ):Any P R N v0 H0 ops Hs Γs (fuel+m.length) listed K fr H Γ:=h x y
theorem bt_ (h:Any P R N v0 H0 ops Hs Γs fuel listed K fr H Γ):Sq P R N v0 H0 ops Hs Γs [] fuel listed K fr H Γ:=λ_ _=>h
theorem jS_ {i:Nat} {m:List Nat} (h:(Region.noSelect ops&&gt_ ops listed (i::m))=true):Region.noSelect ops=true/\Region.free .any ops listed i=true/\(Region.ready .any ops listed).contains i=true/\(Region.noSelect ops&&gt_ ops (listed.setIfInBounds i true) m)=true:=by
  simp only[gt_,yaS_]at h ⊢;exact⟨h.1,h.2.1,h.2.2.1,h.1,h.2.2.2⟩
theorem S_ [NoPan R] {i:Nat} {y:List Nat} {m:Op} {x:Value} (hi:ops[i]? = some ⟨some d,m,ty,ps,af,none⟩) (C:Yld P N fr Hs Γs m ty x) (I:Nat.blt d N.n=true)
    (h:Sq P R N v0 H0 ops Hs Γs y fuel (listed.setIfInBounds i true) K ((d,x)::fr) H Γ):Sq P R N v0 H0 ops Hs Γs (i::y) fuel listed K fr H Γ:=λA v=>by
  obtain⟨E,G,F,B⟩:=jS_ A;exact yq_ i hi E G F C I v (h B v)
theorem ef_ [NoPan R] {i:Nat} {v:List Nat} {m:Op} {X:Bool} (hi:ops[i]? = some ⟨some d,m,ty,ps,af,none⟩) (x:Yld P N fr Hs Γs m ty (.bool X)) (y:Nat.blt d N.n=true)
    (h:∀ r:Bool,X=r->Sq P R N v0 H0 ops Hs Γs v fuel (listed.setIfInBounds i true) K ((d,.bool r)::fr) H Γ):Sq P R N v0 H0 ops Hs Γs (i::v) fuel listed K fr H Γ:=S_ hi x y (h X rfl)
theorem cY_ [NoPan R] {i:Nat} {v:List Nat} {A:Op} {x:Value} {j t:Nat} {m:Bool} (hi:ops[i]? = some ⟨some d,A,ty,ps,af,some (j,m)⟩) (F:iv_ ops j=some t) (C:Fr.get fr t=some (.bool m)) (G:Yld P N fr Hs Γs A ty x) (L:Nat.blt d N.n=true)
    (h:Sq P R N v0 H0 ops Hs Γs v fuel (listed.setIfInBounds i true) K ((d,x)::fr) H Γ):Sq P R N v0 H0 ops Hs Γs (i::v) fuel listed K fr H Γ:=λE y=>by
  obtain⟨I,M,J,B⟩:=jS_ E;exact vQ_ i hi I M J F C G L y (h B y)
theorem dq_ [NoPan R] {i:Nat} {x:List Nat} {v:Op} {X:Bool} {j t:Nat} {m:Bool} (hi:ops[i]? = some ⟨some d,v,ty,ps,af,some (j,m)⟩) (y:iv_ ops j=some t) (B:Fr.get fr t=some (.bool m)) (A:Yld P N fr Hs Γs v ty (.bool X)) (C:Nat.blt d N.n=true)
    (h:∀ r:Bool,X=r->Sq P R N v0 H0 ops Hs Γs x fuel (listed.setIfInBounds i true) K ((d,.bool r)::fr) H Γ):Sq P R N v0 H0 ops Hs Γs (i::x) fuel listed K fr H Γ:=cY_ hi y B A C (h X rfl)
theorem sq_no [NoPan R] {i:Nat} {y:List Nat} {E:Op} {x:Value} {j t:Nat} {m:Bool} (hi:ops[i]? = some ⟨some d,E,ty,ps,af,some (j,m)⟩) (G:iv_ ops j=some t) (C:Fr.get fr t=some x) (v:(match x with|.bool b=>Bool.xor b m|_=>true)=true) (L:Nat.blt d N.n=true)
    (h:Sq P R N v0 H0 ops Hs Γs y fuel (listed.setIfInBounds i true) K ((d,undef)::fr) H Γ):Sq P R N v0 H0 ops Hs Γs (i::y) fuel listed K fr H Γ:=λF A=>by
  obtain⟨I,M,J,B⟩:=jS_ F;exact any_no i hi I M J G C v L A (h B A)
def Nx (P:Program) (R:Exit->Act->World->Prop) (ops:Array Oper) (Hs:Hp) (Γs:List Fct) (fuel:Nat) (listed:Array Bool) (K:List Kt) (a:Act) (w:World):Prop :=
  SW Hs Γs w/\wpAnyH P .any ops (post P R K) (SW Hs Γs) fuel listed a w
theorem l_ (i:Nat) {o:Oper} (hi:ops[i]? = some o) (C:Region.ready .any ops listed=[i]) (h:Ops P R N v0 H0 ops [o] (.inv (Nx P R ops Hs Γs fuel (listed.setIfInBounds i true) K)::K) fr H Γ):Any P R N v0 H0 ops Hs Γs (fuel+1) listed K fr H Γ:=by
 intro a v E A F B;refine wpAnyH_all C zai_ λj y=>?_;simp only[yak_]at y;subst y;have:=h a v E A F B;unfold wpOp;simp only[hi];unfold wpList at this
 split
 .rename_i m
  rw[yaq_ m]at this;rcases this with q|q
  .left
   unfold Oper.wp at q ⊢;generalize (execOp a.eval o).run P v.w=r at q ⊢
   cases r with
   | ok n w' =>
     cases n<;>simp only[Oper.upon]at q ⊢<;>exact q
   | halt x w' =>
     cases x<;>simp only[Oper.upon]at q ⊢
     case panic u=>exact q
  exact .inr q
 rename_i m
 rw[yaf_ m]at this;exact this
theorem H_ (B:∀ v,v.sat H->Z_ Γ v->v.sat Hs/\Z_ Γs v) (h:Any P R N v0 H0 ops Hs Γs fuel listed K fr H Γ):Ok N v0 H0 (Nx P R ops Hs Γs fuel listed K) fr H Γ :=
  λa v y m A x=>⟨⟨v,rfl,B v m x⟩,h a v y m A x⟩
theorem yt_ (y:Region.ready .any ops listed=[]) (h:Fin P R N v0 H0 K fr H Γ):Any P R N v0 H0 ops Hs Γs fuel listed K fr H Γ :=
  λa v A m B x=>wpAnyH_done y (h a v A m B x) fuel
theorem eV_ {α:Type} [BEq α] [LawfulBEq α] {a b:α} (h:(a != b)=true):a≠b:=by simpa using h
theorem eY_ {α:Type} [BEq α] [LawfulBEq α] {a b:α} (h:(a != b)=false):a=b:=by simpa using h
theorem jZ_ {N:Nat} {fn:Func} {t s u:Nat} {ι:Type} {F:Hp} {ret:ι->Value} {H':ι->Hp} {Γ':ι->List Fct} {C E G:Value} (M:fn.results=#[.tmp t,.tmp s,.tmp u]) (x:ι) (B:Fr.get fr t=some C) (y:Fr.get fr s=some E) (A:Fr.get fr u=some G) (S:.tuple #[C,E,G]=ret x) (L:H.Perm (H' x++F))
    (I:∀ v,v.sat H->Z_ Γ v->Z_ (Γ' x) v):Ok N v0 H0 (bodyPost P fn (jb_ v0 H0 ret H' Γ') .ret) fr H Γ :=
  dO_ L I λa v m J Q V=>⟨m.defers,ret x,by rw[<-S];have T:=m.val t _ B;have O:=m.val s _ y;have U:=m.val u _ A;simp[results,M,T,O,U],x,v,rfl,rfl,J,V,Q⟩
theorem hF_ {f:FuncId} {args:Array Value} {r:Value} (F:gj_ P f) (h:∀ w,Calls P f args w λe w'=>e=.returned r/\w'.heap=w.heap/\w'.os=w.os/\w'.tape=w.tape/\w'.output=w.output/\w.drawn<=w'.drawn):Fn0 P f args r :=
  ⟨F,λv E _=>(h v.w).mono λe w' ⟨B,m,G,A,C,y⟩=>⟨(),⟨v.im,w',v.sl⟩,B,rfl,⟨by simp,by simp,λb x=>by show b<w'.heap.size;rw[m];exact E.lt b x⟩,trivial,
    ⟨G,A,C,by simp[m],λb _ _=>by show w'.heap[b]? = _;rw[m],λ_ h=>h,λ_ h=>.inl h,λ_ h=>by simp at h,rfl,.inr y⟩⟩⟩
theorem bJ_ {f:FuncId} {g:Operand} {first cap:List Value} {l:List Oper} {xs:List Operand} {m:Array TypeId} {vs:List Value} {Hc F:Hp} {x:List Fct} {X:Bool}
    (G:Tri P f (first++vs++cap).toArray Hc x (λ_:Unit=>.bool X) (λ_=>Hc) (λ_=>[])) (B:Fr.ev fr g=some (.func (.func f) first.toArray cap.toArray)) (C:Fr.evs fr xs=some vs) (A:H.Perm (Hc++F)) (y:∀ v,v.sat H->Z_ Γ v->Z_ x v) (I:Nat.blt d N.n=true)
    (E:∀ r:Bool,X=r->Ops P R N v0 H0 ops l K ((d,.bool r)::fr) (Hc++F) Γ) :
    Ops P R N v0 H0 ops (⟨some d,.call ⟨.value g,xs.toArray,m⟩,ty,ps,af,none⟩::l) K fr H Γ :=
  T_ G B C A y I λ_=>E X rfl
theorem t_ {k:Act->World->Prop} {H':Hp} (m:H.Perm H') (h:Ok N v0 H0 k fr H' Γ):Ok N v0 H0 k fr H Γ :=
  λa v A x B y=>h a v A (x.perm m) (B.subR λb C=>(m.map Prod.fst).mem_iff.2 C) y
theorem fD_:∀ {H:Hp} {i:Nat} {p:Nat×Obj},H[i]? = some p->H.Perm (p::H.eraseIdx i)
  | [],i,p,h=>by simp at h
  | x::H,0,p,h=>by simp at h;subst h;exact .refl _
  | x::H,i+1,p,h=>by
    have:=fD_ (H:=H) (i:=i) (p:=p) zaQ_;exact (List.Perm.cons x this).trans (List.Perm.swap p x _)
theorem re_:∀ {H:Hp} {i:Nat} {p q:Nat×Obj},H[i]? = some p->(q::H.eraseIdx i).Perm (H.set i q)
  | [],i,p,q,h=>by simp at h
  | x::H,0,p,q,h=>by exact .refl _
  | x::H,i+1,p,q,h=>by
    have:=re_ (H:=H) (i:=i) (p:=p) (q:=q) zaQ_;exact (List.Perm.swap x q _).trans (List.Perm.cons x this)
theorem vm_ {f:FuncId} {l:List Oper} {xs:List Operand} {m:Array TypeId} {vs:List Value} (i:Nat) {b:Nat} {o o':Obj} {x:List Fct} {r:Value}
    (C:Tri P f vs.toArray [(b,o)] x (λ_:Unit=>r) (λ_=>[(b,o')]) (λ_=>[])) (A:Fr.evs fr xs=some vs) (hi:H[i]? = some (b,o)) (y:∀ v,v.sat H->Z_ Γ v->Z_ x v) (E:Nat.blt d N.n=true)
    (B:Ops P R N v0 H0 ops l K ((d,r)::fr) (H.set i (b,o')) Γ) :
    Ops P R N v0 H0 ops (⟨some d,.call ⟨.value (.func f),xs.toArray,m⟩,ty,ps,af,none⟩::l) K fr H Γ :=
  f_ C A (fD_ hi) y E λ_=>t_ (re_ hi) B
theorem nk_ {f:FuncId} {l:List Oper} {xs:List Operand} {m:Array TypeId} {vs:List Value} (i:Nat) {b:Nat} {o o':Obj} {x:List Fct} {X:Bool}
    (C:Tri P f vs.toArray [(b,o)] x (λ_:Unit=>.bool X) (λ_=>[(b,o')]) (λ_=>[])) (A:Fr.evs fr xs=some vs) (hi:H[i]? = some (b,o)) (y:∀ v,v.sat H->Z_ Γ v->Z_ x v) (E:Nat.blt d N.n=true)
    (B:∀ r:Bool,X=r->Ops P R N v0 H0 ops l K ((d,.bool r)::fr) (H.set i (b,o')) Γ) :
    Ops P R N v0 H0 ops (⟨some d,.call ⟨.value (.func f),xs.toArray,m⟩,ty,ps,af,none⟩::l) K fr H Γ :=
  vm_ i C A hi y E (B X rfl)
end any
end Go.Sx
namespace Go.Sx
open Go
structure Opn (F:Fence):Prop where
  fn:∀ f,F.fn f
  depth:F.depth=none
theorem cl_:Opn Fence.wide:=⟨λ_=>trivial,rfl⟩
theorem bo_ (l:Nat):Opn (Fence.wide.inRound l):=⟨λ_=>trivial,rfl⟩
theorem qc_ {F:Fence} {n:Nat} {P:Program} {f:FuncId} {args:Array Value} {w:World} {R:Ending->World->Prop} (h:Calls P f args w R) (l:Nat):CallsIn (Fence.wide.inRound l) n P f args w R :=
  (callsIn_wide (n:=n)).2 h
structure SatD (N:Nat) (D:List Deferred) (fr:Fr) (a:Act):Prop where
  sat:Fr.sat N fr ⟨a.tmps,[]⟩
  defers:a.defers=D
theorem SatD.put {N:Nat} {D:List Deferred} {fr:Fr} {a:Act} {d:Nat} {x:Value} (h:SatD N D fr a) (m:Nat.blt d N=true):SatD N D ((d,x)::fr) (a.put (some d) x) :=
  ⟨h.sat.put m,h.defers⟩
def OkD (N:Nat) (D:List Deferred) (v0:Vw) (H0:Hp) (k:Act->World->Prop) (fr:Fr) (H:Hp) (Γ:List Fct):Prop :=
  ∀ a v,SatD N D fr a->v.sat H->v0.to H0 v H->Z_ Γ v->k a v.w
def ea_ (F:Fence) (n:Nat) (P:Program) (R:Exit->Act->World->Prop):List Kt->Exit->Act->World->Prop
  | [],e,a,w=>R e a w
  | .seq c::K,.normal,a,w=>c.wpIn F n P (ea_ F n P R K) a w
  | .seq _::K,e,a,w=>ea_ F n P R K e a w
  | .inv J::_,.normal,a,w=>J a w
  | .inv _::K,e,a,w=>ea_ F n P R K e a w
  | .blk id::K,.exit id',a,w=>if id'=id then ea_ F n P R K .normal a w else ea_ F n P R K (.exit id') a w
  | .blk _::K,e,a,w=>ea_ F n P R K e a w
section code
variable {F:Fence} {n:Nat} {P:Program} {N:Nat} {D:List Deferred} {v0:Vw} {H0:Hp} {R:Exit->Act->World->Prop} {K:List Kt} {fr:Fr} {H:Hp} {Γ:List Fct}
theorem oz_ (K:List Kt) (a:Act) (w:World) (h:R .ret a w):ea_ F n P R K .ret a w:=by
  induction K with
  | nil=>exact h
  | cons x K ih=>cases x<;>exact ih
theorem na_ {c:Code} {m:List Kt} {a:Act} {w:World}:∀ {K:List Kt},nxt K=some (c,m)->c.wpIn F n P (ea_ F n P R m) a w->ea_ F n P R K .normal a w
  | [],h,_=>by simp[nxt]at h
  | .seq _::K,h,hp=>by simp only[nxt,yam_,ybD_]at h;obtain⟨rfl,rfl⟩:=h;exact hp
  | .blk _::K,h,hp=>na_ (K:=K) (by simpa [nxt] using h) hp
  | .inv _::K,h,_=>by simp[nxt]at h
theorem oA_ {a:Act} {w:World}:∀ {K:List Kt},ga_ K=true->R .normal a w->ea_ F n P R K .normal a w
  | [],_,hp=>hp
  | .inv _::K,h,_=>by simp[ga_]at h
  | .blk _::K,h,hp=>oA_ (K:=K) (by simpa [ga_] using h) hp
  | .seq _::K,h,_=>by simp[ga_]at h
abbrev iH_ (F:Fence) (n:Nat) (P:Program) (R:Exit->Act->World->Prop) (N:Nat) (D:List Deferred) (v0:Vw) (H0:Hp) (c:Code) (K:List Kt) (fr:Fr) (H:Hp) (Γ:List Fct):Prop :=
  OkD N D v0 H0 (c.wpIn F n P (ea_ F n P R K)) fr H Γ
abbrev sc_ (F:Fence) (n:Nat) (P:Program) (R:Exit->Act->World->Prop) (N:Nat) (D:List Deferred) (v0:Vw) (H0:Hp) (K:List Kt) (fr:Fr) (H:Hp) (Γ:List Fct):Prop :=
  OkD N D v0 H0 (ea_ F n P R K .normal) fr H Γ
abbrev gi_ (F:Fence) (n:Nat) (P:Program) (R:Exit->Act->World->Prop) (N:Nat) (D:List Deferred) (v0:Vw) (H0:Hp) (ops:Array Oper) (l:List Oper) (K:List Kt) (fr:Fr) (H:Hp) (Γ:List Fct):Prop :=
  OkD N D v0 H0 (wpListIn F n P ops (ea_ F n P R K) l) fr H Γ
theorem gQ_ {x y:Code} (h:iH_ F n P R N D v0 H0 x (.seq y::K) fr H Γ):iH_ F n P R N D v0 H0 (.seq x y) K fr H Γ :=
  λa v C A E B=>wpIn_seq (wpIn_mono (h a v C A E B) λe a w m=>by cases e<;>exact m)
theorem ht_ {m:Nat} {c:Code} (h:iH_ F n P R N D v0 H0 c (.blk m::K) fr H Γ):iH_ F n P R N D v0 H0 (.block m c) K fr H Γ :=
  λa v B y C A=>wpIn_block (wpIn_mono (h a v B y C A) λe a w x=>by cases e<;>exact x)
theorem ov_ (h:sc_ F n P R N D v0 H0 K fr H Γ):iH_ F n P R N D v0 H0 .skip K fr H Γ :=
  λa v m y x A=>wpIn_skip (h a v m y x A)
theorem jW_ (h:OkD N D v0 H0 (R .ret) fr H Γ):iH_ F n P R N D v0 H0 .ret K fr H Γ :=
  λa v m y x A=>wpIn_ret (oz_ K a v.w (h a v m y x A))
theorem dQ_ {c:Code} {m:List Kt} (C:nxt K=some (c,m)) (h:iH_ F n P R N D v0 H0 c m fr H Γ):sc_ F n P R N D v0 H0 K fr H Γ :=
  λa v A x B y=>na_ C (h a v A x B y)
theorem du_ (B:ga_ K=true) (h:OkD N D v0 H0 (R .normal) fr H Γ):sc_ F n P R N D v0 H0 K fr H Γ :=
  λa v y m A x=>oA_ B (h a v y m A x)
theorem bz_ {m:Nat} {l:List Oper} (h:gi_ F n P R N D v0 H0 l.toArray l K fr H Γ):iH_ F n P R N D v0 H0 (.region m l.toArray false) K fr H Γ :=
  λa v A x B y=>wpIn_region_lit (h a v A x B y)
theorem cA_ {ops:Array Oper} (h:sc_ F n P R N D v0 H0 K fr H Γ):gi_ F n P R N D v0 H0 ops [] K fr H Γ :=
  λa v y m A x=>wpListIn_nil (h a v y m A x)
theorem qL_ {c:Operand} {x y:Code} (E:Fr.ev fr c=some (.bool true)) (G:iH_ F n P R N D v0 H0 x K fr H Γ):iH_ F n P R N D v0 H0 (.cond c x y) K fr H Γ :=
  λa v m A C B=>wpIn_cond_true (m.sat.ev E) (G a v m A C B)
theorem qM_ {c:Operand} {x y:Code} (G:Fr.ev fr c=some (.bool false)) (A:iH_ F n P R N D v0 H0 y K fr H Γ):iH_ F n P R N D v0 H0 (.cond c x y) K fr H Γ :=
  λa v m B E C=>wpIn_cond_false (m.sat.ev G) (A a v m B E C)
def nn_:Op->Bool
  | .defer _=>false
  | _=>true
theorem semAt_eq {o:Oper} (h:nn_ o.op=true) (m:Option Nat) (ρ:Operand->Value):o.semAt m ρ=execOp ρ o :=
  Oper.semAt_eq m ρ o (λc e=>by rw[e]at h;cases h)
variable {ops:Array Oper} {l:List Oper} {d:Nat} {ty:TypeId} {ps:String} {af:Array Edge}
theorem sg_ {o:Oper} {a:Act} {w:World} {C E:Act->World->Prop} {Q:Exit->Act->World->Prop} (B:∀ a w,C a w->E a w) (h:o.wpIn F n P a w C Q):o.wpIn F n P a w E Q:=by
  refine⟨h.1,?_⟩;have m:=h.2;generalize (o.semAt F.round a.eval).run P w=r at m ⊢
  cases r with
  | ok nx w' =>
    cases nx<;>simp only[Oper.uponIn]at m ⊢<;>first|exact B _ _ m|exact m|skip
    case enter f args=>exact⟨m.1,m.2.mono λe A y=>by cases e<;>first|exact B _ _ y|exact y⟩
    case row row args=>exact⟨m.1,m.2.mono λv A y=>B _ _ y⟩
    case round l f tmps assign body=>exact⟨m.1,m.2.mono λe A y=>by cases e<;>first|exact B _ _ y|exact y⟩
  | halt x w'=>cases x<;>simp only[Oper.uponIn]at m ⊢<;>exact m
theorem ej_ {o:Oper} (C:o.guard=none) (h:∀ a v,SatD N D fr a->v.sat H->v0.to H0 v H->Z_ Γ v->o.wpIn F n P a v.w (wpListIn F n P ops (ea_ F n P R K) l) (ea_ F n P R K)) :
    gi_ F n P R N D v0 H0 ops (o::l) K fr H Γ :=
  λa v y m B x=>wpListIn_plain C λE A=>sg_ A (h a v y m B x)
theorem bk_ {m:Op} {x:Value} (hF:Opn F) (G:Yld P N fr H Γ m ty x) (y:nn_ m=true) (J:Nat.blt d N=true)
    (E:gi_ F n P R N D v0 H0 ops l K ((d,x)::fr) H Γ):gi_ F n P R N D v0 H0 ops (⟨some d,m,ty,ps,af,none⟩::l) K fr H Γ :=
  ej_ rfl λa v C A I B=>by
    refine⟨λf _=>hF.fn f,?_⟩;rw[semAt_eq y];have:=G ⟨a.tmps,[]⟩ v C.sat A B (some d) ps af;rw[show a.eval=Act.eval ⟨a.tmps,[]⟩ from rfl,this];exact E _ v (C.put J) A I B
theorem vn_ {m:Op} {X:Bool} (hF:Opn F) (y:Yld P N fr H Γ m ty (.bool X)) (v:nn_ m=true) (A:Nat.blt d N=true)
    (x:∀ r:Bool,X=r->gi_ F n P R N D v0 H0 ops l K ((d,.bool r)::fr) H Γ):gi_ F n P R N D v0 H0 ops (⟨some d,m,ty,ps,af,none⟩::l) K fr H Γ :=
  bk_ hF y v A (x X rfl)
theorem sF_ {t:TypeId} {z:Value} (hF:Opn F) (J:∀ w,(zeroValue t).run P w=.ok z w) (I:Nat.blt d N=true)
    (B:∀ b,gi_ F n P R N D v0 H0 ops l K ((d,.pointer (some ⟨b,0,none⟩))::fr) ((b,.cells z.cells t (0,0))::H) Γ):gi_ F n P R N D v0 H0 ops (⟨some d,.alloc t,ty,ps,af,none⟩::l) K fr H Γ :=
  ej_ rfl λa v G m A E=>by
    refine⟨λf _=>hF.fn f,?_⟩;rw[semAt_eq rfl]
    have C:(execOp a.eval ⟨some d,.alloc t,ty,ps,af,none⟩).run P v.w=.ok (.value (.pointer (some ⟨v.w.heap.size,0,none⟩))) (v.w.alloc (.cells z.cells t (0,0))):=by
      simp[execOp,J,Instr.alloc,newVar,newRow,newObj];rfl
    rw[C];obtain⟨y,x⟩:=hs_ (w':=v.w.alloc (.cells z.cells t (0,0))) (o:=.cells z.cells t (0,0)) m rfl rfl rfl rfl (yae_ _);exact B v.w.heap.size _ ⟨v.im,_,v.sl⟩ (G.put I) y (A.trans x) (aB_ (x.le m) E)
theorem eU_ {t:TypeId} {x y:Operand} {b off m:Nat} (hF:Opn F) (i:Nat) {cur:Array Value} {T:TypeId} {u:Value} (W:∀ w,(sizeOf t).run P w=.ok m w)
    (X:Fr.ev fr x=some (.pointer (some ⟨b,off,none⟩))) (U:Fr.ev fr y=some u) (hi:H[i]? = some (b,.cells cur T (0,0))) (I:u.cells.size=m) (Q:Nat.ble (off+m) cur.size=true) (G:u.cells.toList.all Value.oneCell'=true)
    (C:gi_ F n P R N D v0 H0 ops l K fr (H.set i (b,.cells (cur.toList.take off++u.cells.toList++cur.toList.drop (off+m)).toArray T (0,0))) Γ) :
    gi_ F n P R N D v0 H0 ops (⟨none,.store t x y,ty,ps,af,none⟩::l) K fr H Γ :=
  ej_ rfl λa v E B V M=>by
    refine⟨λf _=>hF.fn f,?_⟩;rw[semAt_eq rfl];have J:=(B.own _ (yac_ hi)).1;have A:=run_storeCells_at P b off T u.cells.toList 0 cur v.w J (by simp[I];exact ybj_ Q) (λc hc=>yaQ_.1 G c hc)
    have Z:(execOp a.eval ⟨none,.store t x y,ty,ps,af,none⟩).run P v.w=.ok .skip (v.w.setRow b (cur.toList.take off++u.cells.toList++cur.toList.drop (off+m)).toArray):=by
      simp only[ycc_,ybU_,I]at A;have Y:a.eval x=.pointer (some ⟨b,off,none⟩):=E.sat.ev X;have O:a.eval y=u:=E.sat.ev U;simp[execOp,Y,O,Instr.storeAt,Instr.sureAddr,storeVar,W,I,A]
    rw[Z];obtain⟨S,L⟩:=gu_ (w':=v.w.setRow b (cur.toList.take off++u.cells.toList++cur.toList.drop (off+m)).toArray) B hi rfl rfl rfl (yae_ _) zai_ (setRow_heap _ _ _ _ _ _ J) (λk C=>setRow_other _ _ _ _ C);exact C a _ E S (V.trans L) (aB_ (L.le B) M)
theorem vo_ {r:Nat} {f:FuncId} {xs:List Operand} {A:Array TypeId} {vs:List Value} {ι:Type} {Hc G:Hp} {L:List Fct} {y:ι->Value} {H':ι->Hp} {Γ':ι->List Fct}
    (E:Tri P f vs.toArray Hc L y H' Γ') (V:Fr.evs fr xs=some vs) (J:H.Perm (Hc++G)) (T:∀ v,v.sat H->Z_ Γ v->Z_ L v) (Y:Nat.blt d N=true)
    (O:∀ x,gi_ (Fence.wide.inRound r) n P R N D v0 H0 ops l K ((d,y x)::fr) (H' x++G) (Γ' x++Γ)) :
    gi_ (Fence.wide.inRound r) n P R N D v0 H0 ops (⟨some d,.call ⟨.value (.func f),xs.toArray,A⟩,ty,ps,af,none⟩::l) K fr H Γ :=
  ej_ rfl λa v I B U C=>by
    refine⟨λf _=>trivial,?_⟩;rw[semAt_eq rfl]
    have X:(execOp a.eval ⟨some d,.call ⟨.value (.func f),xs.toArray,A⟩,ty,ps,af,none⟩).run P v.w=.ok (.enter f vs.toArray) v.w:=by
      have W:xs.map a.eval=vs:=I.sat.evs V;simp[execOp,resolve,Deferred.ofValue,Act.eval,invoke,W,E.callable _ v.w]
    rw[X];have m:=B.perm J;refine⟨λh=>(by cases h),(qc_ (F:=Fence.wide) (E.run v m.sub (T v B C)) r).mono ?_⟩;rintro e w' ⟨x,M,rfl,rfl,S,Q,Z⟩;obtain⟨k1,k2⟩:=Z.frame m S;exact O x _ M (I.put Y) k1 (U.trans (k2.permL J.symm)) (dP_.2 ⟨Q,aB_ (k2.le m) C⟩)
def kB_ (P:Program) (l:Nat) (x:Value) (H:Hp) (Γ:List Fct) {ι:Type} (ret:ι->Value) (H':ι->Hp) (Γ':ι->List Fct):Prop :=
  ∀ v,v.sat H->Z_ Γ v->∃ fn tmps assign body,(Instr.yield l #[x]).run P v.w=.ok (.round l fn tmps assign body) v.w/\
    ∀ n,RoundIn Fence.wide n P l fn tmps assign body v.w λe w'=>∃ x v',e=.returned (ret x)/\v'.w=w'/\v'.sat (H' x)/\Z_ (Γ' x) v'/\v.to H v' (H' x)
theorem hw_ {r:Nat} {g y:Operand} {I:Array TypeId} {u:Value} {ι:Type} {Hc G:Hp} {S:List Fct} {E:ι->Value} {H':ι->Hp} {Γ':ι->List Fct}
    (X:kB_ P r u Hc S E H' Γ') (U:Fr.ev fr g=some (.func (.yield r) #[] #[])) (hy:Fr.ev fr y=some u) (Q:H.Perm (Hc++G)) (hΓ:∀ v,v.sat H->Z_ Γ v->Z_ S v) (hN:Nat.blt d N=true)
    (V:∀ x,gi_ Fence.wide n P R N D v0 H0 ops l K ((d,E x)::fr) (H' x++G) (Γ' x++Γ)) :
    gi_ Fence.wide n P R N D v0 H0 ops (⟨some d,.call ⟨.value g,#[y],I⟩,ty,ps,af,none⟩::l) K fr H Γ :=
  ej_ rfl λa v J M h3 O=>by
    refine⟨λf _=>trivial,?_⟩;rw[semAt_eq rfl];have A:=M.perm Q;obtain⟨fn,C,m,B,L,hR⟩:=X v A.sub (hΓ v M O)
    have he:(execOp a.eval ⟨some d,.call ⟨.value g,#[y],I⟩,ty,ps,af,none⟩).run P v.w=.ok (.round r fn C m B) v.w:=by
      have e1:a.eval g=.func (.yield r) #[] #[]:=J.sat.ev U;have Y:a.eval y=u:=J.sat.ev hy;simp[execOp,resolve,Deferred.ofValue,e1,Y,invoke,L]
    rw[he];refine⟨λh=>(by cases h),(hR _).mono ?_⟩;rintro e w' ⟨x,T,rfl,rfl,Z,W,g3⟩;obtain⟨k1,k2⟩:=g3.frame A Z;exact V x _ T (J.put hN) k1 (h3.trans (k2.permL Q.symm)) (dP_.2 ⟨W,aB_ (k2.le A) O⟩)
theorem ey_ {k:Act->World->Prop}:OkD N [] v0 H0 k fr H Γ↔Ok N v0 H0 k fr H Γ :=
  ⟨λh a v m x A y=>h a v ⟨⟨m.size,rfl,m.val⟩,m.defers⟩ x A y,λh a v m x A y=>h a v ⟨m.sat.size,m.defers,m.sat.val⟩ x A y⟩
end code
end Go.Sx
