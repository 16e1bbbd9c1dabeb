/-
  Lemmas for the law CanonTells (no condition).
-/
import Derived.Test.YtbffkokbdeppaaaGreatDoorQCanonTells0
import Derived.WalkKit
import Derived.OrdersHeld
import Derived.Deep.LoopGhost
import Derived.RangeFuncIn
import Derived.RangeFuncLeaves
import Derived.TacticsIn
set_option linter.unusedVariables false
set_option linter.unusedSimpArgs false
set_option linter.unusedSectionVars false
set_option maxHeartbeats 1000000
namespace Go.Sx
open Go
structure Vw where
  im:Nat->Prop
  w:World
  sl:Prop
abbrev Fr:=List (Nat×Value)
abbrev Hp:=List (Nat×Obj)
def Fr.get:Fr->Nat->Option Value
  | [],_=>none
  | (t,v)::r,n=>bif Nat.beq t n then some v else Fr.get r n
structure Nf where
  n:Nat
  D:List Deferred
instance:Coe Nat Nf:=⟨λn=>⟨n,[]⟩⟩
structure Fr.sat (N:Nf) (fr:Fr) (a:Act):Prop where
  size:a.tmps.size=N.n
  defers:a.defers=N.D
  val:∀ t v,Fr.get fr t=some v->a.tmps[t]? = some v
structure Vw.sat (v:Vw) (H:Hp):Prop where
  own:∀ p,p∈H->v.w.heap[p.1]? = some p.2/\¬ v.im p.1
  nodup:(H.map Prod.fst).Nodup
  lt:∀ b,v.im b->b<v.w.heap.size
structure Vw.to (v:Vw) (H:Hp) (v':Vw) (H':Hp):Prop where
  os:v'.w.os=v.w.os
  tape:v'.w.tape=v.w.tape
  output:v'.w.output=v.w.output
  size:v.w.heap.size<=v'.w.heap.size
  block:∀ b,b<v.w.heap.size->b ∉ H.map Prod.fst->v'.w.heap[b]? = v.w.heap[b]?
  imUp:∀ b,v.im b->v'.im b
  imNew:∀ b,v'.im b->v.im b\/b∈H.map Prod.fst\/v.w.heap.size<=b
  hNew:∀ b,b∈H'.map Prod.fst->b∈H.map Prod.fst\/v.w.heap.size<=b
  sl:v'.sl=v.sl
  dr:v.sl\/v.w.drawn<=v'.w.drawn
structure Vw.le (v v':Vw):Prop where
  imUp:∀ b,v.im b->v'.im b
  block:∀ b,v.im b->v'.w.heap[b]? = v.w.heap[b]?
  sl:v'.sl=v.sl
structure Fct where
  p:Vw->Prop
  mono:∀ v v',v.le v'->p v->p v'
def af_:List Fct->Vw->Prop
  | [],_=>True
  | f::l,v=>f.p v/\af_ l v
theorem eQ_ {a b:List Fct} {v:Vw}:af_ (a++b) v↔af_ a v/\af_ b v:=by
  induction a with
  | nil=>simp[af_]
  | cons f l ih=>simp[af_,ih,and_assoc]
theorem av_ {l:List Fct} {v d:Vw} (h:v.le d):af_ l v->af_ l d:=by
  induction l with
  | nil=>exact λ_=>trivial
  | cons f l ih=>exact λ⟨a,b⟩=>⟨f.mono _ _ h a,ih b⟩
theorem Vw.to.le {v d:Vw} {H H':Hp} (m:v.sat H) (h:v.to H d H'):v.le d :=
  ⟨h.imUp,λb e=>h.block b (m.lt b e) (λhm=>by
    obtain⟨p,q,rfl⟩:=yap_.1 hm;exact (m.own p q).2 e),h.sl⟩
theorem Vw.to.refl (v:Vw) (H:Hp):v.to H v H :=
  ⟨rfl,rfl,rfl,yaj_ _,λ_ _ _=>rfl,λ_ h=>h,λ_ h=>.inl h,λ_ h=>.inl h,rfl,.inr (yaj_ _)⟩
theorem Vw.to.trans {a b c:Vw} {q v Hc:Hp} (h:a.to q b v) (k:b.to v c Hc):a.to q c Hc where
 os:=k.os.trans h.os
 tape:=k.tape.trans h.tape
 output:=k.output.trans h.output
 size:=ybg_ h.size k.size
 block:=λx e y=>by
   rw[k.block x (ybQ_ e h.size) (λhm=>(h.hNew x hm).elim y (λhl=>by omega))];exact h.block x e y
 imUp:=λx e=>k.imUp x (h.imUp x e)
 imNew:=λx e=>by
   rcases k.imNew x e with d|d|d
   . exact h.imNew x d
   . exact .inr (h.hNew x d)
   . exact .inr (.inr (ybg_ h.size d))
 hNew:=λx e=>by
   rcases k.hNew x e with d|d
   . exact h.hNew x d
   . exact .inr (ybg_ h.size d)
 sl:=k.sl.trans h.sl
 dr:=by
   rcases h.dr with d|d
   . exact .inl d
   . rcases k.dr with m|m
     . exact .inl (by rw[<-h.sl];exact m)
     . exact .inr (ybg_ d m)
theorem Vw.to.frame {v I:Vw} {H H' F:Hp} (L:v.sat (H++F)) (A:I.sat H') (h:v.to H I H') :
    I.sat (H'++F)/\v.to (H++F) I (H'++F):=by
  have B:=L.nodup;rw[yat_,ybf_]at B;have M:∀ p,p∈F->p.1 ∉ H.map Prod.fst:=λp m hm=>B.2.2 _ hm _ (yaU_ m) rfl
  have q:∀ p,p∈F->p.1<v.w.heap.size:=λp m=>by
    have:=(L.own p (yaA_ _ m)).1;exact (yax_.1 this).1
  have G:∀ p,p∈F->p.1 ∉ H'.map Prod.fst:=λp m hm=>by
    rcases h.hNew _ hm with d|d
    . exact M p m d
    . have:=q p m;omega
  refine⟨⟨λp m=>?_,?_,A.lt⟩,?_⟩
  . rcases yah_.1 m with d|d
    . exact A.own p d
    . have C:=L.own p (yaA_ _ d)
      refine⟨by rw[h.block _ (q p d) (M p d)];exact C.1,λhi=>?_⟩;rcases h.imNew _ hi with J|J|J
      . exact C.2 J
      . exact M p d J
      . have:=q p d;omega
  . rw[yat_,ybf_]
    refine⟨A.nodup,B.2.1,λx Q y O e=>?_⟩;subst e;obtain⟨p,m,rfl⟩:=yap_.1 O;exact G p m Q
  . refine⟨h.os,h.tape,h.output,h.size,λb E S=>h.block b E (λhm=>S ?_),h.imUp,λb E=>?_,λb E=>?_,h.sl,h.dr⟩
    . rw[yat_];exact yam_ _ hm
    . rcases h.imNew b E with d|d|d
      . exact .inl d
      . exact .inr (.inl (by rw[yat_];exact yam_ _ d))
      . exact .inr (.inr d)
    . rw[yat_]at E ⊢
      rcases yah_.1 E with d|d
      . rcases h.hNew b d with C|C
        . exact .inl (yam_ _ C)
        . exact .inr C
      . exact .inl (yaA_ _ d)
theorem Vw.sat.perm {v:Vw} {H H':Hp} (h:v.sat H) (p:H.Perm H'):v.sat H' :=
  ⟨λx d=>h.own x (p.mem_iff.2 d),(p.map _).nodup_iff.1 h.nodup,h.lt⟩
theorem Vw.sat.sub {v:Vw} {H F:Hp} (h:v.sat (H++F)):v.sat H :=
  ⟨λx d=>h.own x (yam_ _ d),by have:=h.nodup;rw[yat_,ybf_]at this;exact this.1,h.lt⟩
theorem Vw.to.permL {v m:Vw} {H K H':Hp} (h:v.to H m H') (p:H.Perm K):v.to K m H':=by
  have e:∀ b,b∈H.map Prod.fst↔b∈K.map Prod.fst:=λb=>(p.map _).mem_iff
  exact⟨h.os,h.tape,h.output,h.size,λb d q=>h.block b d (λhm=>q ((e b).1 hm)),h.imUp,
    λb d=>(h.imNew b d).imp id (Or.imp (e b).1 id),λb d=>(h.hNew b d).imp (e b).1 id,h.sl,h.dr⟩
theorem Vw.to.subR {v d:Vw} {H H' K:Hp} (h:v.to H d H') (p:∀ b,b∈K.map Prod.fst->b∈H'.map Prod.fst):v.to H d K :=
  ⟨h.os,h.tape,h.output,h.size,h.block,h.imUp,h.imNew,λb e=>h.hNew b (p b e),h.sl,h.dr⟩
def Ok (N:Nf) (v0:Vw) (H0:Hp) (k:Act->World->Prop) (fr:Fr) (H:Hp) (Γ:List Fct):Prop :=
  ∀ a v,Fr.sat N fr a->v.sat H->v0.to H0 v H->af_ Γ v->k a v.w
inductive Kt where
  | seq (c:Code)
  | blk (id:Nat)
  | inv (J:Act->World->Prop)
def post (P:Program) (R:Exit->Act->World->Prop):List Kt->Exit->Act->World->Prop
  | [],e,a,w=>R e a w
  | .seq c::K,.normal,a,w=>c.wp P (post P R K) a w
  | .seq _::K,e,a,w=>post P R K e a w
  | .inv J::_,.normal,a,w=>J a w
  | .inv _::K,e,a,w=>post P R K e a w
  | .blk id::K,.exit id',a,w=>if id'=id then post P R K .normal a w else post P R K (.exit id') a w
  | .blk _::K,e,a,w=>post P R K e a w
theorem yw_ (P:Program) (R:Exit->Act->World->Prop) (K:List Kt) (a:Act) (w:World) (h:R .ret a w):post P R K .ret a w:=by
  induction K with
  | nil=>exact h
  | cons x K ih=>cases x<;>exact ih
def unw (id:Nat):List Kt->Option (List Kt)
  | []=>none
  | .blk i::K=>bif Nat.beq id i then some K else unw id K
  | .seq _::K=>unw id K
  | .inv _::K=>unw id K
theorem jl_ {P:Program} {R:Exit->Act->World->Prop} {d:Nat} {m:List Kt} {a:Act} {w:World} :
    ∀ {K:List Kt},unw d K=some m->post P R m .normal a w->post P R K (.exit d) a w
  | [],h,_=>by simp[unw]at h
  | .seq _::K,h,hp=>jl_ (K:=K) (by simpa [unw] using h) hp
  | .inv _::K,h,hp=>jl_ (K:=K) (by simpa [unw] using h) hp
  | .blk i::K,h,hp=>by
    simp only[unw]at h
    by_cases e:d=i
    . subst e
      simp only[ydK_,cond_true,yak_]at h;subst h;simp only[post,ycn_];exact hp
    . have:Nat.beq d i=false:=by
        cases hb:Nat.beq d i
        . rfl
        . exact absurd (ycm_ hb) e
      rw[this,cond_false]at h;simp only[post,e,yce_];exact jl_ h hp
def nxt:List Kt->Option (Code×List Kt)
  | .seq c::K=>some (c,K)
  | .blk _::K=>nxt K
  | _=>none
theorem pN_ {P:Program} {R:Exit->Act->World->Prop} {c:Code} {d:List Kt} {a:Act} {w:World} :
    ∀ {K:List Kt},nxt K=some (c,d)->c.wp P (post P R d) a w->post P R K .normal a w
  | [],h,_=>by simp[nxt]at h
  | .seq _::K,h,hp=>by simp only[nxt,yak_,ybV_]at h;obtain⟨rfl,rfl⟩:=h;exact hp
  | .blk _::K,h,hp=>pN_ (K:=K) (by simpa [nxt] using h) hp
  | .inv _::K,h,_=>by simp[nxt]at h
def kj_:List Kt->Option (Act->World->Prop)
  | .inv J::_=>some J
  | .blk _::K=>kj_ K
  | _=>none
theorem su_ {P:Program} {R:Exit->Act->World->Prop} {J:Act->World->Prop} {a:Act} {w:World} :
    ∀ {K:List Kt},kj_ K=some J->J a w->post P R K .normal a w
  | [],h,_=>by simp[kj_]at h
  | .inv _::K,h,hp=>by simp only[kj_,yak_]at h;subst h;exact hp
  | .blk _::K,h,hp=>su_ (K:=K) (by simpa [kj_] using h) hp
  | .seq _::K,h,_=>by simp[kj_]at h
def gl_:List Kt->Bool
  | []=>true
  | .blk _::K=>gl_ K
  | _=>false
theorem sv_ {P:Program} {R:Exit->Act->World->Prop} {a:Act} {w:World} :
    ∀ {K:List Kt},gl_ K=true->R .normal a w->post P R K .normal a w
  | [],_,hp=>hp
  | .inv _::K,h,_=>by simp[gl_]at h
  | .blk _::K,h,hp=>sv_ (K:=K) (by simpa [gl_] using h) hp
  | .seq _::K,h,_=>by simp[gl_]at h
section code
variable {P:Program} {N:Nf} {v0:Vw} {H0:Hp} {R:Exit->Act->World->Prop} {K:List Kt} {fr:Fr} {H:Hp} {Γ:List Fct}
abbrev Run (P:Program) (R:Exit->Act->World->Prop) (N:Nf) (v0:Vw) (H0:Hp) (c:Code) (K:List Kt) (fr:Fr) (H:Hp) (Γ:List Fct):Prop :=
  Ok N v0 H0 (c.wp P (post P R K)) fr H Γ
abbrev Fin (P:Program) (R:Exit->Act->World->Prop) (N:Nf) (v0:Vw) (H0:Hp) (K:List Kt) (fr:Fr) (H:Hp) (Γ:List Fct):Prop :=
  Ok N v0 H0 (post P R K .normal) fr H Γ
abbrev Ops (P:Program) (R:Exit->Act->World->Prop) (N:Nf) (v0:Vw) (H0:Hp) (ops:Array Oper) (l:List Oper) (K:List Kt) (fr:Fr) (H:Hp) (Γ:List Fct):Prop :=
  Ok N v0 H0 (wpList P ops (post P R K) l) fr H Γ
theorem bk_ {x y:Code} (h:Run P R N v0 H0 x (.seq y::K) fr H Γ):Run P R N v0 H0 (.seq x y) K fr H Γ :=
  λa v A m B q=>wp_seq (wp_mono (h a v A m B q) λe a w d=>by cases e<;>exact d)
theorem hb_ {d:Nat} {c:Code} (h:Run P R N v0 H0 c (.blk d::K) fr H Γ):Run P R N v0 H0 (.block d c) K fr H Γ :=
  λa v y q A x=>wp_block (wp_mono (h a v y q A x) λe a w m=>by cases e<;>exact m)
theorem ha_ (h:Fin P R N v0 H0 K fr H Γ):Run P R N v0 H0 .skip K fr H Γ :=
  λa v d m e q=>wp_skip (h a v d m e q)
theorem nX_ {d:Nat} {e:List Kt} (y:unw d K=some e) (h:Fin P R N v0 H0 e fr H Γ):Run P R N v0 H0 (.exit d) K fr H Γ :=
  λa v x m A q=>wp_exit (jl_ y (h a v x m A q))
theorem ji_ (h:Ok N v0 H0 (R .ret) fr H Γ):Run P R N v0 H0 .ret K fr H Γ :=
  λa v d m e q=>wp_ret (yw_ P R K a v.w (h a v d m e q))
theorem bi_ {c:Code} {d:List Kt} (y:nxt K=some (c,d)) (h:Run P R N v0 H0 c d fr H Γ):Fin P R N v0 H0 K fr H Γ :=
  λa v q e x m=>pN_ y (h a v q e x m)
theorem fS_ {J:Act->World->Prop} (x:kj_ K=some J) (h:Ok N v0 H0 J fr H Γ):Fin P R N v0 H0 K fr H Γ :=
  λa v m d q e=>su_ x (h a v m d q e)
theorem BC_ (x:gl_ K=true) (h:Ok N v0 H0 (R .normal) fr H Γ):Fin P R N v0 H0 K fr H Γ :=
  λa v m d q e=>sv_ x (h a v m d q e)
theorem aP_ {d:Nat} {l:List Oper} (h:Ops P R N v0 H0 l.toArray l K fr H Γ):Run P R N v0 H0 (.region d l.toArray false) K fr H Γ :=
  λa v q e x m=>wp_region_lit (h a v q e x m)
theorem bF_ {d:Array Oper} (h:Fin P R N v0 H0 K fr H Γ):Ops P R N v0 H0 d [] K fr H Γ :=
  λa v q e x m=>wpList_nil (h a v q e x m)
def Fr.ev (fr:Fr):Operand->Option Value
  | .tmp t=>Fr.get fr t
  | .const v=>some v
  | .global g=>some (.pointer (some ⟨g,0,none⟩))
  | .func f=>some (.func (.func f) #[] #[])
theorem Fr.sat.ev {a:Act} {x:Operand} {v:Value} (h:Fr.sat N fr a) (d:Fr.ev fr x=some v):a.eval x=v:=by
  cases x with
  | tmp t=>have:=h.val t v d;simp[Act.eval,this]
  | const c=>simpa [Fr.ev,Act.eval] using d
  | global g=>simpa [Fr.ev,Act.eval] using d
  | func f=>simpa [Fr.ev,Act.eval] using d
theorem Fr.sat.put {a:Act} {d:Nat} {x:Value} (h:Fr.sat N fr a) (A:Nat.blt d N.n=true):Fr.sat N ((d,x)::fr) (a.put (some d) x):=by
 have q:d<N.n:=by simpa [Nat.blt_eq] using A
 refine⟨by simp[Act.put,h.size],h.defers,λt v m=>?_⟩;simp only[Fr.get]at m
 by_cases e:d=t
 .subst e
  simp only[ydK_,cond_true,yak_]at m;subst m;simp[Act.put,Array.getElem?_setIfInBounds,h.size,q]
 have y:Nat.beq d t=false:=by
   cases y:Nat.beq d t
   . rfl
   . exact absurd (ycm_ y) e
 rw[y,cond_false]at m;simp only[Act.put];rw[ydb_ e];exact h.val t v m
theorem Bb_ {k:Act->World->Prop} (d:Fr) (A:∀ t v,Fr.get d t=some v->Fr.get fr t=some v) (h:Ok N v0 H0 k d H Γ):Ok N v0 H0 k fr H Γ :=
  λa v e m y q=>h a v ⟨e.size,e.defers,λt x B=>e.val t x (A t x B)⟩ m y q
def Fr.le:Fr->Fr->Prop
  | [],_=>True
  | (t,v)::r,fr=>Fr.get fr t=some v/\Fr.le r fr
theorem Fr.le_get {m fr:Fr} (h:Fr.le m fr):∀ t v,Fr.get m t=some v->Fr.get fr t=some v:=by
 induction m with
 | nil=>intro t v d;simp[Fr.get]at d
 | cons p r ih =>
   obtain⟨s,u⟩:=p;intro t v d;simp only[Fr.get]at d
   by_cases e:s=t
   . subst e
     simp only[ydK_,cond_true,yak_]at d;subst d;exact h.1
   . have q:Nat.beq s t=false:=by
       cases q:Nat.beq s t
       . rfl
       . exact absurd (ycm_ q) e
     rw[q,cond_false]at d;exact ih h.2 t v d
theorem bx_ {k:Act->World->Prop} (d:Fr) (e:Fr.le d fr) (h:Ok N v0 H0 k d H Γ):Ok N v0 H0 k fr H Γ :=
  Bb_ d (Fr.le_get e) h
theorem du_ {k:Act->World->Prop} {H' F:Hp} {Γ':List Fct} (e:H.Perm (H'++F)) (m:∀ v,v.sat H->af_ Γ v->af_ Γ' v) (h:Ok N v0 H0 k fr H' Γ'):Ok N v0 H0 k fr H Γ :=
  λa v x d y q=>h a v x (d.perm e).sub (y.subR λb A=>by
    have:b∈(H'++F).map Prod.fst:=by rw[yat_];exact yam_ _ A
    exact (e.map Prod.fst).mem_iff.2 this) (m v d q)
theorem iN_ {k:Act->World->Prop} {Γ':List Fct} (e:∀ v,v.sat H->af_ Γ v->af_ Γ' v) (h:Ok N v0 H0 k fr H Γ'):Ok N v0 H0 k fr H Γ :=
  λa v q d x m=>h a v q d x (e v d m)
theorem yD_ {k:Act->World->Prop} {p:Prop} (m:∀ v,v.sat H->af_ Γ v->p) (h:p->Ok N v0 H0 k fr H Γ):Ok N v0 H0 k fr H Γ :=
  λa v q d x e=>h (m v d e) a v q d x e
theorem sm_ {c:Operand} {x y:Code} {t:Bool} (B:Fr.ev fr c=some (.bool t)) (C:t=true->Run P R N v0 H0 x K fr H Γ) (A:t=false->Run P R N v0 H0 y K fr H Γ) :
    Run P R N v0 H0 (.cond c x y) K fr H Γ :=
  λa v d h q m=>wp_cond_split (d.ev B) (λe=>C e a v d h q m) (λe=>A e a v d h q m)
theorem ce_ {c:Operand} {x y:Code} (d:Fr.ev fr c=some (.bool true)) (h:Run P R N v0 H0 x K fr H Γ):Run P R N v0 H0 (.cond c x y) K fr H Γ :=
  sm_ d (λ_=>h) (λe=>by cases e)
theorem ff_ {c:Operand} {x y:Code} (d:Fr.ev fr c=some (.bool false)) (h:Run P R N v0 H0 y K fr H Γ):Run P R N v0 H0 (.cond c x y) K fr H Γ :=
  sm_ d (λe=>by cases e) (λ_=>h)
def Af_ {ι:Type} (N:Nf) (v0:Vw) (H0:Hp) (frs:ι->Fr) (Hs:ι->Hp) (Γs:ι->List Fct) (μ:ι->Nat) (n:Nat) (a:Act) (w:World):Prop :=
  ∃ j v,v.w=w/\Fr.sat N (frs j) a/\v.sat (Hs j)/\v0.to H0 v (Hs j)/\af_ (Γs j) v/\μ j<n
theorem bV_ {ι:Type} {c:Code} (d:ι->Fr) (Hs:ι->Hp) (x:ι->List Fct) (μ:ι->Nat) (q:ι)
    (h:∀ i,Run P R N v0 H0 c (.inv (Af_ N v0 H0 d Hs x μ (μ i))::K) (d i) (Hs i) (x i)) :
    Run P R N v0 H0 (.loop c) K (d q) (Hs q) (x q):=by
  intro a v G B L F;refine wp_loop_ghost (λn a w=>∃ i v,v.w=w/\Fr.sat N (d i) a/\v.sat (Hs i)/\v0.to H0 v (Hs i)/\af_ (x i) v/\μ i=n) (μ q) ⟨q,v,rfl,G,B,L,F,rfl⟩ ?_;rintro n a w ⟨i,v,rfl,J,C,Q,I,rfl⟩;refine wp_mono (h i a v J C Q I) λe a' w' m=>?_;cases e with
  | normal =>
    obtain⟨j,A,M,k1,k2,E,O,y⟩:=m;exact⟨μ j,y,j,A,M,k1,k2,E,O,rfl⟩
  | exit id=>exact m
  | goto l=>exact m
  | ret=>exact m
  | panic ch=>exact m
  | outgrown=>exact m
theorem H_ {ι:Type} {c:Code} (d:ι->Fr) (Hs:ι->Hp) (m:ι->List Fct) (μ:ι->Nat) (h:ι) {F:Hp} (q:Fr.le (d h) fr) (y:H.Perm (Hs h++F)) (x:∀ v,v.sat H->af_ Γ v->af_ (m h) v)
    (e:∀ i,Run P R N v0 H0 c (.inv (Af_ N v0 H0 d Hs m μ (μ i))::K) (d i) (Hs i) (m i)):Run P R N v0 H0 (.loop c) K fr H Γ :=
  bx_ _ q (du_ y x (bV_ d Hs m μ h e))
theorem u_ {ι:Type} {d:ι->Fr} {Hs:ι->Hp} {h:ι->List Fct} {μ:ι->Nat} {n:Nat} (j:ι) {F:Hp} (m:μ j<n) (e:Fr.le (d j) fr) (y:H.Perm (Hs j++F))
    (q:∀ v,v.sat H->af_ Γ v->af_ (h j) v):Ok N v0 H0 (Af_ N v0 H0 d Hs h μ n) fr H Γ :=
  bx_ (d j) e (du_ y q λ_ v B x C A=>⟨j,v,rfl,B,x,C,A,m⟩)
end code
end Go.Sx
namespace Go.Sx
open Go
section ops
variable {P:Program} {N:Nf} {v0:Vw} {H0:Hp} {R:Exit->Act->World->Prop} {K:List Kt} {fr:Fr} {H:Hp} {Γ:List Fct}
variable {ops:Array Oper} {l:List Oper} {d:Nat} {ty:TypeId} {ps:String} {af:Array Edge}
theorem cy_ {o:Oper} (A:o.guard=none) (h:∀ a v,Fr.sat N fr a->v.sat H->v0.to H0 v H->af_ Γ v->o.wp P a v.w (wpList P ops (post P R K) l) (post P R K)) :
    Ops P R N v0 H0 ops (o::l) K fr H Γ :=
  λa v q e y m=>wpList_plain A λB x=>Oper.wp_mono x (h a v q e y m)
def Yld (P:Program) (N:Nf) (fr:Fr) (H:Hp) (Γ:List Fct) (op:Op) (ty:TypeId) (x:Value):Prop :=
  ∀ a v,Fr.sat N fr a->v.sat H->af_ Γ v->∀ d ps af,(execOp a.eval ⟨d,op,ty,ps,af,none⟩).run P v.w=.ok (.value x) v.w
theorem e_ {e:Op} {x:Value} (y:Yld P N fr H Γ e ty x) (B:Nat.blt d N.n=true)
    (hk:Ops P R N v0 H0 ops l K ((d,x)::fr) H Γ):Ops P R N v0 H0 ops (⟨some d,e,ty,ps,af,none⟩::l) K fr H Γ :=
  cy_ rfl λa v q h A m=>by
    unfold Oper.wp;rw[y a v q h m (some d) ps af];exact hk _ v (q.put B) h A m
theorem E_ {e:Op} {X:Bool} (h:Yld P N fr H Γ e ty (.bool X)) (m:Nat.blt d N.n=true)
    (hk:∀ r:Bool,X=r->Ops P R N v0 H0 ops l K ((d,.bool r)::fr) H Γ):Ops P R N v0 H0 ops (⟨some d,e,ty,ps,af,none⟩::l) K fr H Γ :=
  e_ h m (hk X rfl)
def iR_ (ops:Array Oper) (j:Nat):Option Nat:=(ops[j]?).bind (·.dst)
theorem hu_ {a:Act} {j t:Nat} {x:Value} (h:Fr.sat N fr a) (m:iR_ ops j=some t) (q:Fr.get fr t=some x) :
    yielded ops a.tmps j=match x with|.bool b=>some b|_=>none:=by
  have e:((ops[j]?).bind (·.dst)).bind (a.tmps[·]?)=some x:=by
    show (iR_ ops j).bind _=_
    rw[m];exact h.val t x q
  unfold yielded;rw[e];cases x<;>rfl
theorem ay_ {q:Op} {m:Option Nat} {j t:Nat} {e:Bool} (B:iR_ ops j=some t) (G:Fr.get fr t=some (.bool e))
    (h:Ops P R N v0 H0 ops (⟨m,q,ty,ps,af,none⟩::l) K fr H Γ):Ops P R N v0 H0 ops (⟨m,q,ty,ps,af,some (j,e)⟩::l) K fr H Γ :=
  λa v y C F E=>by
    have A:Region.wanted (⟨m,q,ty,ps,af,some (j,e)⟩:Oper) (yielded ops a.tmps)=true:=by
      simp[Region.wanted,hu_ y B G]
    have x:Region.wanted (⟨m,q,ty,ps,af,none⟩:Oper) (yielded ops a.tmps)=true:=rfl;have:=h a v y C F E;unfold wpList at this ⊢;rw[yao_ x]at this;rw[yao_ A];exact this
theorem ops_no {m:Op} {j t:Nat} {e:Bool} {x:Value} (A:iR_ ops j=some t) (I:Fr.get fr t=some x) (B:(match x with|.bool b=>Bool.xor b e|_=>true)=true) (G:Nat.blt d N.n=true)
    (h:Ops P R N v0 H0 ops l K ((d,undef)::fr) H Γ):Ops P R N v0 H0 ops (⟨some d,m,ty,ps,af,some (j,e)⟩::l) K fr H Γ :=
  λa v q C F E=>by
    have y:Region.wanted (⟨some d,m,ty,ps,af,some (j,e)⟩:Oper) (yielded ops a.tmps)=false:=by
      simp only[Region.wanted,hu_ q A I];cases x<;>first|rfl|(rename_i b;cases b<;>cases e<;>simp_all)
    exact wpList_skip y (h _ v (q.put G) C F E)
theorem ar_ {x:Operand} {u:Value} (h:Fr.ev fr x=some u) :
    Yld P N fr H Γ (.move x) ty (u) :=
  λa v e _ _ _ _ _=>by rw[<-e.ev h];rfl
theorem aI_ {x:Operand} {u:Value} (h:Fr.ev fr x=some u) :
    Yld P N fr H Γ (.assign x) ty (u) :=
  λa v e _ _ _ _ _=>by rw[<-e.ev h];rfl
theorem cu_ {c x y:Operand} {u:Value} (h:Fr.ev fr c=some (.bool true)) (m:Fr.ev fr x=some u) :
    Yld P N fr H Γ (.pick c x y) ty (u) :=
  λa v e _ _ _ _ _=>by simp[execOp,e.ev h,e.ev m,asBool]
theorem tD_ {c x y:Operand} {u:Value} (h:Fr.ev fr c=some (.bool false)) (m:Fr.ev fr y=some u) :
    Yld P N fr H Γ (.pick c x y) ty (u) :=
  λa v e _ _ _ _ _=>by simp[execOp,e.ev h,e.ev m,asBool]
theorem bz_ {t q:TypeId} {x y:Operand} {k:IntKind} {m n:Int} (A:Fr.ev fr x=some (.int k m)) (h:Fr.ev fr y=some (.int k n)) :
    Yld P N fr H Γ (.binOp .eql t x y q) ty (.bool ((m==n))) :=
  λa v e _ _ _ _ _=>by simp[execOp,e.ev A,e.ev h,eqGuard,binOp,Op.intCmp]
theorem cg_ {t q:TypeId} {x y:Operand} {k:IntKind} {m n:Int} (A:Fr.ev fr x=some (.int k m)) (h:Fr.ev fr y=some (.int k n)) :
    Yld P N fr H Γ (.binOp .neq t x y q) ty (.bool ((m != n))) :=
  λa v e _ _ _ _ _=>by simp[execOp,e.ev A,e.ev h,eqGuard,binOp,Op.intCmp]
theorem dc_ {t q:TypeId} {x y:Operand} {k:IntKind} {m n:Int} (A:Fr.ev fr x=some (.int k m)) (h:Fr.ev fr y=some (.int k n)) :
    Yld P N fr H Γ (.binOp .lss t x y q) ty (.bool (decide (m<n))) :=
  λa v e _ _ _ _ _=>by simp[execOp,e.ev A,e.ev h,eqGuard,binOp,Op.intCmp]
theorem dg_ {t q:TypeId} {x y:Operand} {k:IntKind} {m n:Int} (A:Fr.ev fr x=some (.int k m)) (h:Fr.ev fr y=some (.int k n)) :
    Yld P N fr H Γ (.binOp .leq t x y q) ty (.bool (decide (m<=n))) :=
  λa v e _ _ _ _ _=>by simp[execOp,e.ev A,e.ev h,eqGuard,binOp,Op.intCmp]
theorem ds_ {t q:TypeId} {x y:Operand} {k:IntKind} {m n:Int} (A:Fr.ev fr x=some (.int k m)) (h:Fr.ev fr y=some (.int k n)) :
    Yld P N fr H Γ (.binOp .gtr t x y q) ty (.bool (decide (n<m))) :=
  λa v e _ _ _ _ _=>by simp[execOp,e.ev A,e.ev h,eqGuard,binOp,Op.intCmp]
theorem eJ_ {t q:TypeId} {x y:Operand} {k:IntKind} {m n:Int} (A:Fr.ev fr x=some (.int k m)) (h:Fr.ev fr y=some (.int k n)) :
    Yld P N fr H Γ (.binOp .geq t x y q) ty (.bool (decide (n<=m))) :=
  λa v e _ _ _ _ _=>by simp[execOp,e.ev A,e.ev h,eqGuard,binOp,Op.intCmp]
def zj_:BinOp->Int->Int->Option Int
  | .add,a,b=>some (a+b)
  | .sub,a,b=>some (a - b)
  | .mul,a,b=>some (a*b)
  | _,_,_=>none
theorem aC_ {e:BinOp} {t C:TypeId} {x y:Operand} {k:IntKind} {m n r:Int} (E:Fr.ev fr x=some (.int k m)) (B:Fr.ev fr y=some (.int k n)) (h:zj_ e m n=some r) (A:k.wrap r=r) :
    Yld P N fr H Γ (.binOp e t x y C) ty (.int k r) :=
  λa v q _ _ _ _ _=>by
    cases e<;>simp only[zj_,yak_,reduceCtorEq]at h<;>subst h <;>
      simp[execOp,q.ev E,q.ev B,eqGuard,binOp,Op.intArith,A]
theorem bq_ {r:Int} (e:-9223372036854775808<=r) (h:r<=9223372036854775807):IntKind.wrap .i64 r=r:=by
  exact IntWalk.i64_in r ⟨e,h⟩
theorem as_ {x:Operand} {t:TypeId} {b:Bool} (h:Fr.ev fr x=some (.bool b)) :
    Yld P N fr H Γ (.unOp .not t x) ty (.bool !b) :=
  λa v e _ _ _ _ _=>by simp[execOp,e.ev h,Op.unary]
def lg:List Value->Nat->Option Value
  | [],_=>none
  | x::_,0=>some x
  | _::r,n+1=>lg r n
theorem lg_eq:∀ (c:List Value) (i:Nat),lg c i=c[i]?
  | [],i=>by simp[lg]
  | x::r,0=>rfl
  | x::r,n+1=>by simpa [lg] using lg_eq r n
def qW_:List Value->Nat->Nat->Option (List Value)
  | _,_,0=>some []
  | c,off,n+1=>match lg c off with
    | some x=>match qW_ c (off+1) n with
      | some r=>some (x::r)
      | none=>none
    | none=>none
theorem qd_:∀ (n off:Nat) (c r:List Value),qW_ c off n=some r->r.length=n/\∀ j v,r[j]? = some v->c[off+j]? = some v
 | 0,off,c,r,h=>by simp only[qW_,yak_]at h;subst h;exact⟨rfl,by simp⟩
 | n+1,off,c,r,h=>by
   simp only[qW_]at h
   split at h
   . rename_i x B
     split at h
     . rename_i q m
       simp only[yak_]at h;subst h;obtain⟨A,y⟩:=qd_ n (off+1) c q m;refine⟨by simp[A],λj v e=>?_⟩;cases j with
       | zero=>simp only[ybe_,yak_]at e;subst e;rw[<-lg_eq];exact B
       | succ j=>rw[show off+(j+1)=off+1+j by omega];exact y j v zbc_
     . cases h
   . cases h
theorem cp_ (b off n:Nat):(⟨b,off,none⟩:Addr).add n=⟨b,off+n,none⟩:=by unfold Addr.add;split<;>simp_all
theorem cI_ {t:TypeId} {w:World} {ad:Addr} {x:Value} (h:∀ w,(isAgg t).run P w=.ok false w) (e:w.cell? ad=some x):(loadVar t ad).run P w=.ok x w:=by
  simp[loadVar,h,e]
theorem dI_ {t:TypeId} {w:World} {b off n:Nat} {cs:List Value} (e:∀ w,(isAgg t).run P w=.ok true w) (m:∀ w,(sizeOf t).run P w=.ok n w) (x:cs.length=n)
    (q:∀ j v,cs[j]? = some v->w.cell? ⟨b,off+j,none⟩=some v):(loadVar t ⟨b,off,none⟩).run P w=.ok (.agg cs.toArray) w:=by
  have:=run_loadCells_list (P:=P) w ⟨b,off,none⟩ cs (λj v h=>by rw[cp_];exact q j v h);rw[x]at this;simp[loadVar,e,m,this]
theorem gi_ {v:Vw} {i b:Nat} {cur:Array Value} {T:TypeId} {fz:Nat×Nat} (h:v.sat H) (hi:H[i]? = some (b,.cells cur T fz)) (j:Nat):v.w.cell? ⟨b,j,none⟩=cur.toList[j]? := by
  have:=(h.own _ (yad_ hi)).1;simp[World.cell?,this]
theorem aX_ {t:TypeId} {x:Operand} {b off:Nat} (i:Nat) {cur:Array Value} {T:TypeId} {fz:Nat×Nat} {u:Value} (e:∀ w,(isAgg t).run P w=.ok false w)
    (y:Fr.ev fr x=some (.pointer (some ⟨b,off,none⟩))) (hi:H[i]? = some (b,.cells cur T fz)) (q:lg cur.toList off=some u) :
    Yld P N fr H Γ (.load t x) ty (u) :=
  λa v m h _ _ _ _=>by
    have:=cI_ (P:=P) (w:=v.w) e (show v.w.cell? ⟨b,off,none⟩=some u by rw[gi_ h hi,<-lg_eq];exact q);simp[execOp,m.ev y,Instr.loadAt,Instr.sureAddr,this]
theorem cQ_ {t:TypeId} {x:Operand} {b off n:Nat} (i:Nat) {cur:Array Value} {T:TypeId} {fz:Nat×Nat} {us:List Value} (C:∀ w,(isAgg t).run P w=.ok true w) (m:∀ w,(sizeOf t).run P w=.ok n w)
    (q:Fr.ev fr x=some (.pointer (some ⟨b,off,none⟩))) (hi:H[i]? = some (b,.cells cur T fz)) (h:qW_ cur.toList off n=some us) :
    Yld P N fr H Γ (.load t x) ty (.agg us.toArray) :=
  λa v E e _ _ _ _=>by
    obtain⟨A,F⟩:=qd_ n off _ _ h;have:=dI_ (P:=P) (w:=v.w) (b:=b) (off:=off) C m A (λj y B=>by rw[gi_ e hi];exact F j y B);simp[execOp,E.ev q,Instr.loadAt,Instr.sureAddr,this]
theorem gT_ {t:TypeId} {x:Operand} {ad:Addr} {u:Value} (y:Fr.ev fr x=some (.pointer (some ad))) (q:∀ v,v.sat H->af_ Γ v->(loadVar t ad).run P v.w=.ok u v.w) :
    Yld P N fr H Γ (.load t x) ty (u) :=
  λa v m e h _ _ _=>by simp[execOp,m.ev y,Instr.loadAt,Instr.sureAddr,q v e h]
theorem fO_ {v:Vw} {w':World} {o:Obj} (h:v.sat H) (y:w'.heap=v.w.heap.push o) (E:w'.os=v.w.os) (G:w'.tape=v.w.tape) (F:w'.output=v.w.output) (C:v.w.drawn<=w'.drawn) :
    (⟨v.im,w',v.sl⟩:Vw).sat ((v.w.heap.size,o)::H)/\v.to H ⟨v.im,w',v.sl⟩ ((v.w.heap.size,o)::H):=by
  have B:∀ k,k<v.w.heap.size->w'.heap[k]? = v.w.heap[k]? := λk hk=>by rw[y,ycC_,yag_ zaa_]
  have x:∀ p,p∈H->p.1<v.w.heap.size:=λp m=>(yax_.1 (h.own p m).1).1
  refine⟨⟨λp m=>?_,?_,λb q=>?_⟩,E,G,F,by simp[y],λb A _=>B b A,λ_ h=>h,λ_ h=>.inl h,λb q=>?_,rfl,.inr C⟩
  . rcases yan_.1 m with rfl|m
    . refine⟨by show w'.heap[v.w.heap.size]? = some o;rw[y];simp,λhi=>?_⟩
      have:=h.lt _ hi;simp at this
    . exact⟨by show w'.heap[p.1]? = _;rw[B _ (x p m)];exact (h.own p m).1,(h.own p m).2⟩
  . rw[yay_,ybG_]
    refine⟨λhm=>?_,h.nodup⟩;obtain⟨p,m,e⟩:=yap_.1 hm;have:=x p m;simp at e;omega
  . have:=h.lt b q
    show b<w'.heap.size
    simp[y];omega
  . rw[yay_]at q
    rcases yan_.1 q with rfl|A
    . exact .inr (yaj_ _)
    . exact .inl A
theorem on_ {h:Op} {β:Type} {x:β->Nat->Value} {o:β->Obj} (q:β->Prop) (Q:Nat.blt d N.n=true)
    (M:∀ a v,Fr.sat N fr a->v.sat H->af_ Γ v->∃ y w',q y/\(execOp a.eval ⟨some d,h,ty,ps,af,none⟩).run P v.w=.ok (.value (x y v.w.heap.size)) w'/\w'.heap=v.w.heap.push (o y)/\w'.os=v.w.os/\w'.tape=v.w.tape/\w'.output=v.w.output/\v.w.drawn<=w'.drawn)
    (hk:∀ y b,q y->Ops P R N v0 H0 ops l K ((d,x y b)::fr) ((b,o y)::H) Γ):Ops P R N v0 H0 ops (⟨some d,h,ty,ps,af,none⟩::l) K fr H Γ :=
  cy_ rfl λa v B e G A=>by
    obtain⟨y,w',L,F,C,J,S,O,I⟩:=M a v B e A;unfold Oper.wp;rw[F];obtain⟨E,m⟩:=fO_ e C J S O I;exact hk y v.w.heap.size L _ ⟨v.im,w',v.sl⟩ (B.put Q) E (G.trans m) (av_ (m.le e) A)
theorem gE_ {e:Op} {x:Nat->Value} {o:Obj} (A:Nat.blt d N.n=true)
    (h:∀ a v,Fr.sat N fr a->v.sat H->af_ Γ v->(execOp a.eval ⟨some d,e,ty,ps,af,none⟩).run P v.w=.ok (.value (x v.w.heap.size)) (v.w.alloc o))
    (hk:∀ b,Ops P R N v0 H0 ops l K ((d,x b)::fr) ((b,o)::H) Γ):Ops P R N v0 H0 ops (⟨some d,e,ty,ps,af,none⟩::l) K fr H Γ :=
  on_ (β:=Unit) (x:=λ_ b=>x b) (o:=λ_=>o) (λ_=>True) A (λa v y m q=>⟨(),v.w.alloc o,trivial,h a v y m q,rfl,rfl,rfl,rfl,yaj_ _⟩) (λ_ b _=>hk b)
theorem P_ {t:TypeId} {x:Operand} {u:Value} (m:Fr.ev fr x=some u) (h:Nat.blt d N.n=true)
    (hk:∀ b,Ops P R N v0 H0 ops l K ((d,.pointer (some ⟨b,0,none⟩))::fr) ((b,.cells u.cells t (0,0))::H) Γ):Ops P R N v0 H0 ops (⟨some d,.box t x,ty,ps,af,none⟩::l) K fr H Γ :=
  gE_ (x:=λb=>.pointer (some ⟨b,0,none⟩)) h (λa v e _ _=>by simp[execOp,e.ev m,Instr.box,newVar,newRow,newObj];rfl) hk
theorem x_ {t:TypeId} {z:Value} (h:∀ w,(zeroValue t).run P w=.ok z w) (e:Nat.blt d N.n=true)
    (hk:∀ b,Ops P R N v0 H0 ops l K ((d,.pointer (some ⟨b,0,none⟩))::fr) ((b,.cells z.cells t (0,0))::H) Γ):Ops P R N v0 H0 ops (⟨some d,.alloc t,ty,ps,af,none⟩::l) K fr H Γ :=
  gE_ (x:=λb=>.pointer (some ⟨b,0,none⟩)) e (λa v m _ _=>by simp[execOp,h,Instr.alloc,newVar,newRow,newObj];rfl) hk
theorem eM_ {v:Vw} {i b:Nat} {o o':Obj} {w':World} (h:v.sat H) (hi:H[i]? = some (b,o)) (U:w'.os=v.w.os) (M:w'.tape=v.w.tape) (V:w'.output=v.w.output) (S:v.w.drawn<=w'.drawn) (G:w'.heap.size=v.w.heap.size)
    (I:w'.heap[b]? = some o') (F:∀ k,k≠b->w'.heap[k]? = v.w.heap[k]?):(⟨v.im,w',v.sl⟩:Vw).sat (H.set i (b,o'))/\v.to H ⟨v.im,w',v.sl⟩ (H.set i (b,o')):=by
  have hm:=yad_ hi
  have q:(H.set i (b,o')).map Prod.fst=H.map Prod.fst:=by
    rw[List.map_set]
    apply ybD_
    intro j;rw[ybZ_]
    split
    . rename_i m;subst m;rw[yaH_,hi];simp[(yac_.1 hi).1]
    . rfl
  refine⟨⟨λp O=>?_,by rw[q];exact h.nodup,λx B=>?_⟩,U,M,V,by simp[G],λx _ T=>F x (λe=>T ?_),λ_ h=>h,λ_ h=>.inl h,λx B=>.inl (by rw[q]at B;exact B),rfl,.inr S⟩
  . obtain⟨j,m⟩:=ybq_ O
    rw[ybZ_]at m
    split at m
    . rename_i y
      subst y
      split at m
      . simp only[yak_]at m;subst m
        exact⟨I,(h.own _ hm).2⟩
      . cases m
    . rename_i y
      have A:=yad_ m
      have C:p.1≠b:=λe=>by
        have E:=h.nodup;have Q:(H.map Prod.fst)[i]? = some b:=by simp[hi]
        have J:(H.map Prod.fst)[j]? = some b:=by simp[m,e]
        obtain⟨X,L⟩:=yac_.1 Q;obtain⟨Y,W⟩:=yac_.1 J;exact y ((List.getElem_inj E).1 (L.trans W.symm))
      exact⟨by show w'.heap[p.1]? = _;rw[F _ C];exact (h.own p A).1,(h.own p A).2⟩
  . show x<w'.heap.size
    rw[G];exact h.lt x B
  . subst e;exact yap_.2 ⟨_,hm,rfl⟩
theorem n_ {t:TypeId} {x y:Operand} {b off n:Nat} (i:Nat) {cur:Array Value} {T:TypeId} {u:Value} (J:∀ w,(sizeOf t).run P w=.ok n w)
    (L:Fr.ev fr x=some (.pointer (some ⟨b,off,none⟩))) (G:Fr.ev fr y=some u) (hi:H[i]? = some (b,.cells cur T (0,0))) (q:u.cells.size=n) (E:Nat.ble (off+n) cur.size=true) (h:u.cells.toList.all Value.oneCell'=true)
    (hk:Ops P R N v0 H0 ops l K fr (H.set i (b,.cells (cur.toList.take off++u.cells.toList++cur.toList.drop (off+n)).toArray T (0,0))) Γ) :
    Ops P R N v0 H0 ops (⟨none,.store t x y,ty,ps,af,none⟩::l) K fr H Γ :=
  cy_ rfl λa v A m I O=>by
    have B:=(m.own _ (yad_ hi)).1;have e:=run_storeCells_at P b off T u.cells.toList 0 cur v.w B (by simp[q];exact yca_ E) (λc Q=>yaW_.1 h c Q)
    have M:(execOp a.eval ⟨none,.store t x y,ty,ps,af,none⟩).run P v.w=.ok .skip (v.w.setRow b (cur.toList.take off++u.cells.toList++cur.toList.drop (off+n)).toArray):=by
      simp only[ycl_,ybH_,q]at e;simp[execOp,A.ev L,A.ev G,Instr.storeAt,Instr.sureAddr,storeVar,J,q,e]
    unfold Oper.wp;rw[M];obtain⟨F,C⟩:=eM_ (w':=v.w.setRow b (cur.toList.take off++u.cells.toList++cur.toList.drop (off+n)).toArray) m hi rfl rfl rfl (yaj_ _) zaj_ (setRow_heap _ _ _ _ _ _ B) (λk hk=>setRow_other _ _ _ _ hk);exact hk a _ A F (I.trans C) (av_ (C.le m) O)
theorem ci_ {s:TypeId} {x:Operand} {f b off o:Nat} {fs:Array Field} {e:Field} {n:Nat} (q:∀ w,(underlying s).run P w=.ok (.struct fs) w) (A:Fr.ev fr x=some (.pointer (some ⟨b,off,none⟩))) (h:fs[f]? = some e) (m:e.offset=o)
    (y:∀ w,(sizeOf e.type).run P w=.ok (n+1) w) :
    Yld P N fr H Γ (.fieldAddr s x f) ty (.pointer (some ⟨b,off+o,none⟩)) :=
  λa v B C _ _ _ _=>by simp[execOp,B.ev A,Instr.fieldAt,q,h,Instr.sureAddr,fieldPlace,y,cp_,m]
theorem fb_ {t e:TypeId} {x y:Operand} {b off len cap n:Nat} {k:IntKind} {i:Int} (q:∀ w,(underlying t).run P w=.ok (.slice e) w) (B:∀ w,(sizeOf e).run P w=.ok n w)
    (C:Fr.ev fr x=some (.slice (some ⟨b,off,none⟩) len cap)) (m:Fr.ev fr y=some (.int k i)) (A:0<=i) (hl:i<len) :
    Yld P N fr H Γ (.indexAddr t x y) ty (.pointer (some ⟨b,off+i.toNat*n,none⟩)) :=
  λa v h E _ _ _ _=>by simp[execOp,h.ev C,h.ev m,Instr.indexAt,q,asIntOf,B,cp_,A,hl]
theorem dE_ {t e:TypeId} {x y:Operand} {b off len n:Nat} {k:IntKind} {i:Int} (q:∀ w,(underlying t).run P w=.ok (.array len e) w) (B:∀ w,(sizeOf e).run P w=.ok n w)
    (C:Fr.ev fr x=some (.pointer (some ⟨b,off,none⟩))) (m:Fr.ev fr y=some (.int k i)) (A:0<=i) (hl:i<len) :
    Yld P N fr H Γ (.indexAddr t x y) ty (.pointer (some ⟨b,off+i.toNat*n,none⟩)) :=
  λa v h E _ _ _ _=>by simp[execOp,h.ev C,h.ev m,Instr.indexAt,q,asIntOf,B,Instr.sureAddr,cp_,A,hl]
theorem pw_ {x:Operand} {ad:Addr} (h:Fr.ev fr x=some (.pointer (some ad))) :
    Yld P N fr H Γ (.nilCheck x) ty (.pointer (some ad)) :=
  λa v e m _ _ _ _=>by simp[execOp,e.ev h]
theorem dG_ {x:Operand} {t e:TypeId} {ad:Ao} {len cap:Nat} (m:∀ w,(underlying t).run P w=.ok (.slice e) w) (q:Fr.ev fr x=some (.slice ad len cap)) :
    Yld P N fr H Γ (.call ⟨.builtin .len,#[x],#[t]⟩) ty (.int .i64 (len:Int)) :=
  λa v h y _ _ _ _=>by simp[execOp,resolve,invoke,builtin,Builtin.len_,h.ev q,m,goInt]
theorem bU_ {x:Operand} {i:Nat} {vs:Array Value} {u:Value} (m:Fr.ev fr x=some (.tuple vs)) (e:lg vs.toList i=some u) :
    Yld P N fr H Γ (.extract x i) ty (u) :=
  λa v h q _ _ _ _=>by
    rw[lg_eq,yaQ_]at e;simp[execOp,h.ev m,Instr.extract,e]
def str (l:List UInt8):Value:=.string ⟨l.toArray⟩
theorem str_of (s:ByteArray):Value.string s=str s.data.toList:=rfl
theorem cW_ {t q:TypeId} {x y:Operand} {m n:List UInt8} (A:Fr.ev fr x=some (str m)) (h:Fr.ev fr y=some (str n)) :
    Yld P N fr H Γ (.binOp .eql t x y q) ty (.bool ((m==n))) :=
  λa v e _ _ _ _ _=>by simp[execOp,e.ev A,e.ev h,str,eqGuard,binOp,Op.stringOp]
theorem cJ_ {t q:TypeId} {x y:Operand} {m n:List UInt8} (A:Fr.ev fr x=some (str m)) (h:Fr.ev fr y=some (str n)) :
    Yld P N fr H Γ (.binOp .neq t x y q) ty (.bool ((m != n))) :=
  λa v e _ _ _ _ _=>by simp[execOp,e.ev A,e.ev h,str,eqGuard,binOp,Op.stringOp,bne]
theorem bS_ {t A:TypeId} {x y:Operand} {m n:List UInt8} (B:Fr.ev fr x=some (str m)) (q:Fr.ev fr y=some (str n)) (hl:m.length+n.length<=9223372036854775807) :
    Yld P N fr H Γ (.binOp .add t x y A) ty (str (m++n)) :=
  λa v e _ _ _ _ _=>by
    have h:=run_string_add_sum (P:=P) v.w ⟨m.toArray⟩ ⟨n.toArray⟩ zbI_;rw[ByteArray.mk_append_mk]at h;simp[execOp,e.ev B,e.ev q,str,eqGuard,binOp_string_add,h]
theorem ck_ {x:Operand} {t:TypeId} {m:List UInt8} (h:∀ w,(underlying t).run P w=.ok .string w) (q:Fr.ev fr x=some (str m)) :
    Yld P N fr H Γ (.call ⟨.builtin .len,#[x],#[t]⟩) ty (.int .i64 (m.length:Int)) :=
  λa v e y _ _ _ _=>by simp[execOp,resolve,invoke,builtin,Builtin.len_,e.ev q,h,goInt,str];rfl
theorem dU_ {x y:Operand} {t:TypeId} {m:List UInt8} {k:IntKind} {i:Int} {c:UInt8} (A:∀ w,(underlying t).run P w=.ok .string w) (E:Fr.ev fr x=some (str m)) (q:Fr.ev fr y=some (.int k i)) (B:0<=i) (e:m[i.toNat]? = some c) :
    Yld P N fr H Γ (.index t x y) ty (.int .u8 (c.toNat:Int)) :=
  λa v h F _ _ _ _=>by
    have hl:i.toNat<m.length:=(yac_.1 e).1
    have C:(⟨m.toArray⟩:ByteArray)[i.toNat]? = some c:=by
      rw[ByteArray.getElem?_lt' _ _ zbI_];have:(⟨m.toArray⟩:ByteArray)[i.toNat]'zbI_=m[i.toNat]:=rfl;rw[this];rw[yaa_ hl]at e;exact e
    simp[execOp,Instr.index,h.ev E,h.ev q,asIntOf,A,str,B,C]
def ec_ (P:Program) (f:FuncId):Prop:=∀ args w,(callFunc f args).run P w=.ok (.enter f args) w
theorem callable {f : FuncId} {fn : Func} {c : Code} (h : P.funcs[f]? = some fn) (m : fn.body = some c) (q : (fn.name == "runtime.NumGoroutine") = false) : ec_ P f := by
  intro args w;have e : ¬ fn.name = "runtime.NumGoroutine" := by simpa using q
  simp[callFunc,run_program,h,m,e]
structure Tri (P:Program) (f:FuncId) (args:Array Value) (H:Hp) (Γ:List Fct) {ι:Type} (ret:ι->Value) (H':ι->Hp) (Γ':ι->List Fct):Prop where
  callable:ec_ P f
  run:∀ v,v.sat H->af_ Γ v->Calls P f args v.w λe w'=>∃ x v',e=.returned (ret x)/\v'.w=w'/\v'.sat (H' x)/\af_ (Γ' x) v'/\v.to H v' (H' x)
def Fr.evs (fr:Fr):List Operand->Option (List Value)
  | []=>some []
  | x::r=>match Fr.ev fr x with
    | some v=>match Fr.evs fr r with
      | some vs=>some (v::vs)
      | none=>none
    | none=>none
theorem Fr.sat.evs {a:Act} (h:Fr.sat N fr a):∀ {xs:List Operand} {vs:List Value},Fr.evs fr xs=some vs->xs.map a.eval=vs
 | [],vs,e=>by simp only[Fr.evs,yak_]at e;subst e;rfl
 | x::r,vs,e=>by
   simp only[Fr.evs]at e
   split at e
   . rename_i u q
     split at e
     . rename_i us m
       simp only[yak_]at e;subst e;rw[yay_,h.ev q,h.evs m]
     . cases e
   . cases e
theorem pT_ {A:Op} {f:FuncId} {vs:List Value} {ι:Type} {Hc F:Hp} {E:List Fct} {m:ι->Value} {H':ι->Hp} {Γ':ι->List Fct}
    (Q:Tri P f vs.toArray Hc E m H' Γ') (O:∀ a v,Fr.sat N fr a->(execOp a.eval ⟨some d,A,ty,ps,af,none⟩).run P v=.ok (.enter f vs.toArray) v)
    (y:H.Perm (Hc++F)) (I:∀ v,v.sat H->af_ Γ v->af_ E v) (S:Nat.blt d N.n=true)
    (hk:∀ x,Ops P R N v0 H0 ops l K ((d,m x)::fr) (H' x++F) (Γ' x++Γ)):Ops P R N v0 H0 ops (⟨some d,A,ty,ps,af,none⟩::l) K fr H Γ :=
  cy_ rfl λa v C q L B=>by
    unfold Oper.wp;rw[O a v.w C];have h:=q.perm y;refine (Q.run v h.sub (I v q B)).mono ?_;rintro e w' ⟨x,J,rfl,rfl,G,M,T⟩;obtain⟨k1,k2⟩:=T.frame h G;exact hk x _ J (C.put S) k1 (L.trans (k2.permL y.symm)) (eQ_.2 ⟨M,av_ (k2.le h) B⟩)
theorem f_ {f:FuncId} {xs:List Operand} {h:Array TypeId} {vs:List Value} {ι:Type} {Hc F:Hp} {q:List Fct} {e:ι->Value} {H':ι->Hp} {Γ':ι->List Fct}
    (m:Tri P f vs.toArray Hc q e H' Γ') (B:Fr.evs fr xs=some vs) (A:H.Perm (Hc++F)) (y:∀ v,v.sat H->af_ Γ v->af_ q v) (E:Nat.blt d N.n=true)
    (hk:∀ x,Ops P R N v0 H0 ops l K ((d,e x)::fr) (H' x++F) (Γ' x++Γ)) :
    Ops P R N v0 H0 ops (⟨some d,.call ⟨.value (.func f),xs.toArray,h⟩,ty,ps,af,none⟩::l) K fr H Γ :=
  pT_ m (λa w C=>by
    have:=C.evs B;simp[execOp,resolve,Deferred.ofValue,Act.eval,invoke,this,m.callable _ w]) A y E hk
theorem S_ {f:FuncId} {xs:List Operand} {e:Array TypeId} {vs:List Value} {Hc F:Hp} {h:List Fct} {X:Bool}
    (q:Tri P f vs.toArray Hc h (λ_:Unit=>.bool X) (λ_=>Hc) (λ_=>[])) (A:Fr.evs fr xs=some vs) (x:H.Perm (Hc++F)) (m:∀ v,v.sat H->af_ Γ v->af_ h v) (y:Nat.blt d N.n=true)
    (hk:∀ r:Bool,X=r->Ops P R N v0 H0 ops l K ((d,.bool r)::fr) (Hc++F) Γ) :
    Ops P R N v0 H0 ops (⟨some d,.call ⟨.value (.func f),xs.toArray,e⟩,ty,ps,af,none⟩::l) K fr H Γ :=
  f_ q A x m y λ_=>hk X rfl
end ops
section body
variable {P:Program} {N:Nf} {fr:Fr} {H:Hp} {Γ:List Fct}
def ln_ {ι:Type} (v0:Vw) (H0:Hp) (ret:ι->Value) (H':ι->Hp) (Γ':ι->List Fct) (e:Ending) (w':World):Prop :=
  ∃ x v',e=.returned (ret x)/\v'.w=w'/\v'.sat (H' x)/\af_ (Γ' x) v'/\v0.to H0 v' (H' x)
def lF_ (i:Nat):List Value->Fr
  | []=>[]
  | x::r=>(i,x)::lF_ (i+1) r
theorem ko_:∀ (l:List Value) (i t:Nat) (v:Value),Fr.get (lF_ i l) t=some v->i<=t/\l[t - i]? = some v
 | [],i,t,v,h=>by simp[lF_,Fr.get]at h
 | x::r,i,t,v,h=>by
   simp only[lF_,Fr.get]at h
   by_cases e:i=t
   . subst e
     simp only[ydK_,cond_true,yak_]at h;subst h;simp
   . have m:Nat.beq i t=false:=by
       cases m:Nat.beq i t
       . rfl
       . exact absurd (ycm_ m) e
     rw[m,cond_false]at h;obtain⟨y,q⟩:=ko_ r (i+1) t v h;refine⟨by omega,?_⟩;rw[show t - i=(t - (i+1))+1 by omega];simpa using q
theorem i_ {N:Nat} {f:FuncId} {fn:Func} {c:Code} {args:List Value} {ι:Type} {e:ι->Value} {H':ι->Hp} {Γ':ι->List Fct}
    (y : P.funcs[f]? = some fn) (A : fn.body = some c) (F : (fn.name == "runtime.NumGoroutine") = false) (I : fn.ntmps = N) (hl : Nat.ble args.length N = true)
    (h:∀ v0,Run P (bodyPost P fn (ln_ v0 H e H' Γ')) N v0 H c [] (lF_ 0 args) H Γ):Tri P f args.toArray H Γ e H' Γ':=by
  refine⟨callable y A F,λv G B=>calls_of_wp y A ?_⟩;have C:args.length<=N:=yca_ hl;have:=h v ⟨args.toArray++Array.replicate (fn.ntmps - args.toArray.size) undef,[]⟩ v ⟨by simp[I];omega,rfl,λt x E=>?_⟩ G (Vw.to.refl _ _) B
  . exact this
  . obtain⟨_,q⟩:=ko_ args 0 t x E
    simp only[ydM_]at q;have m:=(yac_.1 q).1;rw[ybA_ zaA_];simpa using q
theorem ab_ {N:Nat} {fn:Func} {t:Nat} {ι:Type} {v0:Vw} {H0 F:Hp} {ret:ι->Value} {H':ι->Hp} {Γ':ι->List Fct} (y:fn.results=#[.tmp t]) (x:ι) (B:Fr.get fr t=some (ret x)) (q:H.Perm (H' x++F))
    (h:∀ v,v.sat H->af_ Γ v->af_ (Γ' x) v):Ok N v0 H0 (bodyPost P fn (ln_ v0 H0 ret H' Γ') .ret) fr H Γ :=
  du_ q h λa v e m A C=>⟨e.defers,ret x,by rw[results_tmp y];have:=e.val t _ B;simp[this],x,v,rfl,rfl,m,C,A⟩
theorem fP_ {N:Nat} {fn:Func} {t s:Nat} {ι:Type} {v0:Vw} {H0 F:Hp} {ret:ι->Value} {H':ι->Hp} {Γ':ι->List Fct} {y q:Value} (E:fn.results=#[.tmp t,.tmp s]) (x:ι) (m:Fr.get fr t=some y) (e:Fr.get fr s=some q) (J:.tuple #[y,q]=ret x) (C:H.Perm (H' x++F))
    (A:∀ v,v.sat H->af_ Γ v->af_ (Γ' x) v):Ok N v0 H0 (bodyPost P fn (ln_ v0 H0 ret H' Γ') .ret) fr H Γ :=
  du_ C A λa v h B I M=>⟨h.defers,ret x,by rw[results_tmp2 E,<-J];have L:=h.val t _ m;have G:=h.val s _ e;simp[L,G],x,v,rfl,rfl,B,M,I⟩
theorem s_ {t:Nat} {x y:Bool} (h:Fr.get fr t=some (.bool x)) (e:x=y):Fr.get fr t=some (.bool y):=e▸h
theorem bl_ {t:Nat} {k:IntKind} {x y:Int} (h:Fr.get fr t=some (.int k x)) (e:x=y):Fr.get fr t=some (.int k y):=e▸h
theorem fR_ {t:Nat} {x y:List UInt8} (h:Fr.get fr t=some (str x)) (e:x=y):Fr.get fr t=some (str y):=e▸h
theorem fs_ {t:Nat} {x y:Value} (h:Fr.get fr t=some x) (e:x=y):Fr.get fr t=some y:=e▸h
abbrev Fn0 (P:Program) (f:FuncId) (args:Array Value) (ret:Value):Prop:=Tri P f args [] [] (λ_:Unit=>ret) (λ_=>[]) (λ_=>[])
end body
section cut
variable {P:Program} {N:Nf} {v0:Vw} {H0:Hp} {R:Exit->Act->World->Prop} {K:List Kt} {fr:Fr} {H:Hp} {Γ:List Fct}
def Mid (N:Nf) (v0:Vw) (H0:Hp) {ι:Type} (frs:ι->Fr) (Hs:ι->Hp) (Γs:ι->List Fct) (e:Exit) (a:Act) (w:World):Prop :=
  e=.normal/\∃ i v,v.w=w/\Fr.sat N (frs i) a/\v.sat (Hs i)/\v0.to H0 v (Hs i)/\af_ (Γs i) v
theorem hD_ {ι:Type} {c:Code} (h:ι->Fr) (Hs:ι->Hp) (m:ι->List Fct) (E:Run P (Mid N v0 H0 h Hs m) N v0 H0 c [] fr H Γ) (A:∀ i,Fin P R N v0 H0 K (h i) (Hs i) (m i)):Run P R N v0 H0 c K fr H Γ:=by
  intro a v x B G q;refine wp_mono (E a v x B G q) ?_;rintro e a' w' ⟨rfl,i,y,rfl,k1,k2,C,F⟩;exact A i a' y k1 k2 C F
theorem dm_ {ι:Type} {e:ι->Fr} {Hs:ι->Hp} {m:ι->List Fct} (i:ι) {F:Hp} (h:Fr.le (e i) fr) (y:H.Perm (Hs i++F)) (q:∀ v,v.sat H->af_ Γ v->af_ (m i) v) :
    Ok N v0 H0 (Mid N v0 H0 e Hs m .normal) fr H Γ :=
  bx_ (e i) h (du_ y q λ_ v B x C A=>⟨rfl,i,v,rfl,B,x,C,A⟩)
end cut
end Go.Sx
namespace Go.Sx
open Go
def bG_ (v:Vw) (ad:Ao) (cs:List Value):Prop :=
  cs=[]\/∃ b off arr T fz,ad=some ⟨b,off,none⟩/\v.im b/\v.w.heap[b]? = some (.cells arr T fz)/\∀ j x,cs[j]? = some x->arr[off+j]? = some x
def ac_ (ad:Ao) (cs:List Value):Fct where
 p:=λv=>bG_ v ad cs
 mono:=λv v' h hp=>by
   rcases hp with hp|⟨b,off,arr,T,fz,h1,h2,h3,h4⟩
   . exact .inl hp
   . exact .inr ⟨b,off,arr,T,fz,h1,h.imUp b h2,by rw[h.block b h2];exact h3,h4⟩
def bas (ad:Ao):Addr:=ad.getD ⟨0,0,none⟩
def rad (ad:Ao) (k:Nat):Addr:=⟨(bas ad).block,(bas ad).off+k,none⟩
theorem bG_.addr {v:Vw} {ad:Ao} {cs:List Value} (h:bG_ v ad cs) (q:cs≠[]):∃ b off,ad=some ⟨b,off,none⟩:=by
 rcases h with h|⟨b,off,m,T,fz,e,_⟩
 .exact absurd h q
 exact⟨b,off,e⟩
theorem bG_.cell {v:Vw} {ad:Ao} {cs:List Value} {k:Nat} {x:Value} (h:bG_ v ad cs) (e:cs[k]? = some x):v.w.cell? (rad ad k)=some x:=by
 rcases h with h|⟨b,off,q,T,fz,rfl,_,m,y⟩
 .subst h;simp at e
 simp[rad,bas,World.cell?,m,y k x e]
theorem bG_.drop {v:Vw} {ad:Ao} {cs:List Value} (h:bG_ v ad cs) (n:Nat) (e:List Value) (q:∀ j x,e[j]? = some x->cs[n+j]? = some x):bG_ v (ad.map (·.add n)) e:=by
 rcases h with h|⟨b,off,m,T,fz,rfl,y,A,C⟩
 .subst h
  left
  cases e with
  | nil=>rfl
  | cons d e=>have:=q 0 d rfl;simp at this
 exact .inr ⟨b,off+n,m,T,fz,by simp[cp_],y,A,λj x B=>by rw[ycG_];exact C _ _ (q j x B)⟩
theorem kq_ {α:Type} (f:α->List Value) (n:Nat) (e:∀ x,(f x).length=n):∀ (l:List α) (i j:Nat) (x:α),l[i]? = some x->j<n->(l.flatMap f)[i*n+j]? = (f x)[j]?
  | [],i,j,x,h,_=>by simp at h
  | y::l,0,j,x,h,hj=>by
    simp only[ybe_,yak_]at h;subst h;simp only[yaG_,ydl_,ybw_];rw[ybb_ (by rw[e];exact hj)]
  | y::l,i+1,j,x,h,hj=>by
    simp only[yaG_];rw[ybh_ (by rw[e,ybB_];omega),e,show (i+1)*n+j - n=i*n+j by rw[ybB_];omega];exact kq_ f n e l i j x zaH_ hj
theorem cr_ {α:Type} (f:α->List Value) (n:Nat) (e:∀ x,(f x).length=n):∀ (l:List α),(l.flatMap f).length=l.length*n
  | []=>by simp
  | y::l=>by simp only[yaG_,yaf_,e,yal_,cr_ f n e l,ybB_];omega
section ops
variable {P:Program} {N:Nf} {v0:Vw} {H0:Hp} {R:Exit->Act->World->Prop} {K:List Kt} {fr:Fr} {H:Hp} {Γ:List Fct}
variable {ops:Array Oper} {l:List Oper} {d:Nat} {ty:TypeId} {ps:String} {af:Array Edge}
theorem Z_ {t e:TypeId} {x y:Operand} {ad:Ao} {len cap n:Nat} {k:IntKind} {i:Int} (A:∀ w,(underlying t).run P w=.ok (.slice e) w) (C:∀ w,(sizeOf e).run P w=.ok n w)
    (E:Fr.ev fr x=some (.slice ad len cap)) (m:Fr.ev fr y=some (.int k i)) (F:∀ v,v.sat H->af_ Γ v->∃ b off,ad=some ⟨b,off,none⟩) (B:0<=i) (hl:i<len) :
    Yld P N fr H Γ (.indexAddr t x y) ty (.pointer (some (rad ad (i.toNat*n)))) :=
  λa v h q G _ _ _=>by
    obtain⟨b,off,rfl⟩:=F v q G;simp[execOp,h.ev E,h.ev m,Instr.indexAt,A,asIntOf,C,cp_,B,hl,rad,bas]
theorem tF_ {s:TypeId} {x:Operand} {f k o:Nat} {ad:Ao} {fs:Array Field} {e:Field} {n:Nat} (q:∀ w,(underlying s).run P w=.ok (.struct fs) w) (A:Fr.ev fr x=some (.pointer (some (rad ad k)))) (h:fs[f]? = some e) (m:e.offset=o)
    (y:∀ w,(sizeOf e.type).run P w=.ok (n+1) w) :
    Yld P N fr H Γ (.fieldAddr s x f) ty (.pointer (some (rad ad (k+o)))) :=
  λa v B C _ _ _ _=>by simp[execOp,B.ev A,Instr.fieldAt,q,h,Instr.sureAddr,fieldPlace,y,rad,cp_,m,ycG_]
theorem bA_ {t:TypeId} {x:Operand} {ad:Ao} {k:Nat} {cs:List Value} {u:Value} (e:∀ w,(isAgg t).run P w=.ok false w) (A:Fr.ev fr x=some (.pointer (some (rad ad k))))
    (q:∀ v,v.sat H->af_ Γ v->bG_ v ad cs) (y:cs[k]? = some u):Yld P N fr H Γ (.load t x) ty u :=
  gT_ A (λv h m=>cI_ e ((q v h m).cell y))
theorem am_ {t:TypeId} {x:Operand} {ad:Ao} {k n:Nat} {cs us:List Value} (E:∀ w,(isAgg t).run P w=.ok true w) (q:∀ w,(sizeOf t).run P w=.ok n w) (A:Fr.ev fr x=some (.pointer (some (rad ad k))))
    (h:∀ v,v.sat H->af_ Γ v->bG_ v ad cs) (B:us.length=n) (m:∀ j y,us[j]? = some y->cs[k+j]? = some y):Yld P N fr H Γ (.load t x) ty (.agg us.toArray) :=
  gT_ A (λv e F=>dI_ E q B (λj y C=>by
    have:=(h v e F).cell (m j y C);simpa [rad,ycG_] using this))
theorem eO_ {k:Act->World->Prop} {b:Nat} {o:Obj} {F:Hp} (f:Fct) (E:H.Perm ((b,o)::F)) (L:∀ v:Vw,v.im b->v.w.heap[b]? = some o->af_ Γ v->f.p v) (h:Ok N v0 H0 k fr F (f::Γ)):Ok N v0 H0 k fr H Γ:=by
 intro a v M G m J;have g:=G.perm E;have I:=g.own (b,o) (yav_);have C:b<v.w.heap.size:=(yax_.1 I.1).1;have q:=g.nodup;rw[yay_,ybG_]at q;have A:v.le ⟨λx=>v.im x\/x=b,v.w,v.sl⟩:=⟨λx e=>.inl e,λ_ _=>rfl,rfl⟩;have y:b∈H.map Prod.fst:=(E.map Prod.fst).mem_iff.2 zaj_;refine h a ⟨λx=>v.im x\/x=b,v.w,v.sl⟩ M ⟨λp B=>⟨(g.own p (yaE_ _ B)).1,λhi=>?_⟩,q.2,λx e=>?_⟩ ?_ ⟨L _ (.inr rfl) I.1 (av_ A J),av_ A J⟩
 .rcases hi with hi|hi
  .exact (g.own p (yaE_ _ B)).2 hi
  exact q.1 (by have:=yaU_ (f:=Prod.fst) B;rw[hi]at this;exact this)
 .rcases e with e|e
  .exact G.lt x e
  exact e▸C
 refine⟨m.os,m.tape,m.output,m.size,m.block,λx e=>.inl (m.imUp x e),λx e=>?_,λx e=>m.hNew x ((E.map Prod.fst).mem_iff.2 (by rw[yay_];exact yaE_ _ e)),m.sl,m.dr⟩;rcases e with e|e
 .exact m.imNew x e
 exact .inr (e▸m.hNew b y)
def at_ (e:TypeId) (sz:Nat) (sv:Value) (n:Nat) (xs:List Value) (Hr:Hp):Prop :=
  xs.length=n*sz/\((sv=.slice none 0 0/\n=0/\Hr=[])\/
    ∃ g cap cur,sv=.slice (some ⟨g,0,none⟩) n cap/\Hr=[(g,.cells cur e (0,0))]/\n<=cap/\cap<=maxLen/\cur.size=cap*sz/\cur.toList.take (n*sz)=xs)
theorem at_.nil (e:TypeId) (sz:Nat):at_ e sz (.slice none 0 0) 0 [] []:=⟨by simp,.inl ⟨rfl,rfl,rfl⟩⟩
theorem at_.owns {e:TypeId} {sz n:Nat} {sv:Value} {xs:List Value} {Hr F:Hp} {v:Vw} (h:at_ e sz sv n xs Hr) (y:v.sat (Hr++F)):v.w.ownsRow 0 e sz sv n xs:=by
 refine⟨h.1,?_⟩;rcases h.2 with⟨m,q,_⟩|⟨g,cap,cur,m,rfl,x,B,C,A⟩
 .exact .inl ⟨m,q⟩
 exact .inr ⟨g,cap,cur,m,ybC_ _,(y.own (g,.cells cur e (0,0)) zaj_).1,x,B,C,A⟩
theorem js_ {e:TypeId} {sz n n':Nat} {sv sv':Value} {xs ys:List Value} {Hr F:Hp} {v:Vw} {w':World} (h:at_ e sz sv n xs Hr) (J:v.sat (Hr++F)) (S:w'.ownsRow 0 e sz sv' n' ys) (G:v.w.grownBy w' sv.ownBlock) (T:v.w.drawn<=w'.drawn)
    (L:∀ g,sv'.ownBlock=some g->sv.ownBlock=some g\/v.w.heap.size<=g) :
    ∃ y,at_ e sz sv' n' ys y/\(⟨v.im,w',v.sl⟩:Vw).sat (y++F)/\v.to (Hr++F) ⟨v.im,w',v.sl⟩ (y++F):=by
  have M:∀ p,p∈Hr++F->p.1<v.w.heap.size:=λp x=>(yax_.1 (J.own p x).1).1
  have E:∀ b,sv.ownBlock=some b->b∈Hr.map Prod.fst:=λb A=>by
    rcases h.2 with⟨rfl,_,_⟩|⟨g,cap,cur,rfl,rfl,_⟩
    . simp[Value.ownBlock]at A
    . simp[Value.ownBlock]at A;simp[A]
  have B:=J.nodup;rw[yat_,ybf_]at B;have Y:∀ p,p∈F->some p.1≠sv.ownBlock:=λp x e=>B.2.2 _ (E p.1 e.symm) _ (yaU_ x) rfl
  have C:∀ p,p∈F->w'.heap[p.1]? = some p.2/\¬ v.im p.1:=λp x=>by
    have:=J.own p (yaA_ _ x);exact⟨by rw[G.block _ (M p (yaA_ _ x)) (Y p x)];exact this.1,this.2⟩
  have O:∀ y:Hp,(∀ b,b∈y.map Prod.fst->b∈Hr.map Prod.fst\/v.w.heap.size<=b)->v.to (Hr++F) ⟨v.im,w',v.sl⟩ (y++F):=λy Z=>by
    refine⟨G.os,G.tape,G.output,G.size,λb A hn=>G.block b A (λe=>hn ?_),λ_ h=>h,λ_ h=>.inl h,λb A=>?_,rfl,.inr T⟩
    . rw[yat_];exact yam_ _ (E b e.symm)
    . rw[yat_]at A ⊢
      rcases yah_.1 A with I|I
      . exact (Z b I).imp (yam_ _) id
      . exact .inl (yaA_ _ I)
  rcases S.2 with⟨I,U⟩|⟨g,cap,cur,I,_,h3,V,W,h6,X⟩
  . refine⟨[],⟨S.1,.inl ⟨I,U,rfl⟩⟩,⟨λp x=>C p (by simpa using x),by simpa using B.2.1,λb A=>ybQ_ (J.lt b A) G.size⟩,O [] zaj_⟩
  . have m:g∈Hr.map Prod.fst\/v.w.heap.size<=g:=(L g (by rw[I];rfl)).imp (E g) id
    refine⟨[(g,.cells cur e (0,0))],⟨S.1,.inr ⟨g,cap,cur,I,rfl,V,W,h6,X⟩⟩,⟨λp x=>?_,?_,λb A=>ybQ_ (J.lt b A) G.size⟩,O _ zaA_⟩
    . rcases yah_.1 x with x|x
      . simp only[yai_]at x
        subst x;refine⟨h3,λhi=>?_⟩;rcases m with m|m
        . obtain⟨q,Q,rfl⟩:=yap_.1 m
          exact (J.own q (yam_ _ Q)).2 hi
        . have:=J.lt _ hi;omega
      . exact C p x
    . simp only[yat_,yay_,ybz_,List.singleton_append,ybG_]
      refine⟨λhm=>?_,B.2.1⟩;obtain⟨q,Q,e⟩:=yap_.1 hm;rcases m with m|m
      . exact B.2.2 _ m _ (yaU_ Q) e.symm
      . have:=M q (yaA_ _ Q);omega
theorem lk_ (w:World) {t ty' e:TypeId} {i:TypeInfo} {z:Value} {n m c sz:Nat} {sv L:Value} {w':World} {xs news:List Value} {ad:Addr} (C:P.underlying t=some (.slice e)) (hi:P.info? e=some i) (O:i.zero=some z)
    (F:i.size=sz) (q:w.ownsRow 0 e sz sv n xs) (hl:news.length=m*sz) (h:∀ j u,news[j]? = some u->w.cell? (ad.add j)=some u) (Q:∀ u∈news,u.oneCell'=true) (E:n+m<=maxLen) (M:(n+m)*i.bytes<=140737488355328)
    (x:(Builtin.append_ #[t,t] ty' #[sv,.slice (some ad) m c]).run P w=.ok L w'):w.drawn<=w'.drawn/\∀ g,L.ownBlock=some g->sv.ownBlock=some g\/w.heap.size<=g:=by
  subst F;have B:n+m<=9223372036854775807:=by simp only[maxLen]at E;omega
  rcases q.2 with⟨rfl,rfl⟩|⟨b,cap,cur,rfl,_,I,S,_,J,G⟩
  . by_cases hm:m=0
    . subst hm
      have T:news=[]:=yau_ (by simpa using hl);subst T
      have:(Builtin.append_ #[t,t] ty' #[.slice none 0 0,.slice (some ad) 0 c]).run P w=.ok (.slice none 0 0) w:=by
        simp[Builtin.append_,run_underlying C,sizeOf,typeInfo,hi,Builtin.lenOf,Builtin.firstCells,loadCells,loadCellsFrom]
      rw[this]at x;cases x;exact⟨yaj_ _,λg y=>by simp[Value.ownBlock]at y⟩
    . have:=run_append_nil (P:=P) w t ty' e i z C hi O ad m c news hl h zaa_ zaa_ (by simp only[ybw_]at M;omega)
      rw[this]at x;cases x;refine⟨by simp,λg y=>?_⟩;simp only[Value.ownBlock,yak_]at y;exact .inr zaa_
  . by_cases v:n+m<=cap
    . have A:n*i.size+news.length<=cur.size:=by rw[hl,J,<-ybB_];exact ybr_ _ v
      have:=run_append_room (P:=P) w t ty' e i C hi b n cap cur I ad m c news hl h Q v A;rw[this]at x;cases x;exact⟨by simp,λg y=>.inl y⟩
    . have af_:∀ j u,xs[j]? = some u->w.cell? ((⟨b,0,none⟩:Addr).add j)=some u:=q.cells (g:=b) rfl
      have:=run_append_grow (P:=P) w t ty' e i z C hi O ⟨b,0,none⟩ n cap xs q.1 af_ ad m c news hl h zaa_ zaa_ (growslice_fits zaa_ M);rw[this]at x;cases x;refine⟨by simp,λg y=>?_⟩;simp only[Value.ownBlock,yak_]at y;exact .inr zaa_
structure Elt (P:Program) (t e:TypeId) (sz by':Nat):Prop where
  und:P.underlying t=some (.slice e)
  info:∃ i z,P.info? e=some i/\i.zero=some z/\i.size=sz/\i.bytes=by'/\z.cells.size=sz
  pos:0<sz
theorem aj_ {x y:Operand} {t e:TypeId} {sz by' n m c:Nat} {sv:Value} {xs news:List Value} {Hr F:Hp} {ad:Addr} (E:Elt P t e sz by') (q:at_ e sz sv n xs Hr)
    (hx:Fr.ev fr x=some sv) (Y:Fr.ev fr y=some (.slice (some ad) m c)) (J:H.Perm (Hr++F)) (hl:news.length=m*sz) (A:∀ v,v.sat H->af_ Γ v->∀ j u,news[j]? = some u->v.w.cell? (ad.add j)=some u) (C:∀ u∈news,u.oneCell'=true)
    (B:n+m<=maxLen) (L:(n+m)*by'<=140737488355328) (hN:Nat.blt d N.n=true)
    (hk:∀ sv' h,at_ e sz sv' (n+m) (xs++news) h->Ops P R N v0 H0 ops l K ((d,sv')::fr) (h++F) Γ) :
    Ops P R N v0 H0 ops (⟨some d,.call ⟨.builtin .append,#[x,y],#[t,t]⟩,ty,ps,af,none⟩::l) K fr H Γ :=
  cy_ rfl λa v I G h3 O=>by
    obtain⟨i,z,hi,S,es,Q,Z⟩:=E.info;have g:=G.perm J;have V:=A v G O;have T:=q.owns g;obtain⟨W,w',U,X,q2,_⟩:=run_append_own (P:=P) v.w 0 t ty e i z sz by' E.und hi S es Q Z E.pos sv n xs T ad m c news hl V C B L (ybC_ _)
    obtain⟨a1,a2⟩:=lk_ v.w E.und hi S es T hl V C B (by rw[Q];exact L) U;obtain⟨h,k1,k2,M⟩:=js_ q g X q2 a1 a2;unfold Oper.wp execOp;simp only[resolve,invoke,builtin,Sem.run_bind,Sem.run_pure,Result.andThen_ok,ybt_,yay_,ybz_,I.ev hx,I.ev Y,U];exact hk W h k1 _ ⟨v.im,w',v.sl⟩ (I.put hN) k2 (h3.trans (M.permL J.symm)) (av_ ((M.permL J.symm).le G) O)
theorem pA_ {t:TypeId} {parts:Array (Nat×Operand)} {u:Value} (h:∀ a:Act,Fr.sat N fr a->∀ w,(Instr.build t (parts.map λ(i,x)=>(i,a.eval x))).run P w=.ok u w) :
    Yld P N fr H Γ (.build t parts) ty (u) :=
  λa v e m q _ _ _=>by
    have:=h a e v.w;simp only[execOp,Sem.run_bind,this,Result.andThen_ok,Sem.run_pure]
def Fr.evp (fr:Fr):List (Nat×Operand)->Option (List (Nat×Value))
  | []=>some []
  | (i,x)::r=>match Fr.ev fr x with
    | some v=>match Fr.evp fr r with
      | some vs=>some ((i,v)::vs)
      | none=>none
    | none=>none
theorem Fr.sat.evp {a:Act} (h:Fr.sat N fr a):∀ {xs:List (Nat×Operand)} {vs:List (Nat×Value)},Fr.evp fr xs=some vs->xs.map (λ(i,x)=>(i,a.eval x))=vs
 | [],vs,e=>by simp only[Fr.evp,yak_]at e;subst e;rfl
 | (i,x)::r,vs,e=>by
   simp only[Fr.evp]at e
   split at e
   . rename_i u q
     split at e
     . rename_i us m
       simp only[yak_]at e;subst e;show (i,a.eval x)::_=_
       rw[h.ev q];exact yae_ _ (h.evp m)
     . cases e
   . cases e
def lC_:List Value->Nat->List Value->List Value
  | cs,0,[]=>cs
  | _::cs,0,v::vs=>v::lC_ cs 0 vs
  | c::cs,n+1,vs=>c::lC_ cs n vs
  | [],_,_=>[]
theorem sL_:∀ (cs:List Value) (n:Nat),lC_ cs n []=cs
  | [],0=>rfl
  | [],n+1=>rfl
  | c::cs,0=>rfl
  | c::cs,n+1=>by simp only[lC_];rw[sL_ cs n]
theorem qb_:∀ (cs:List Value) (n:Nat) (v:Value) (vs:List Value),lC_ cs n (v::vs)=lC_ (cs.set n v) (n+1) vs
  | [],0,v,vs=>by simp[lC_]
  | [],n+1,v,vs=>by simp[lC_]
  | c::cs,0,v,vs=>by simp[lC_]
  | c::cs,n+1,v,vs=>by simp only[lC_,ydw_];rw[qb_ cs n v vs]
theorem qj_ (off:Nat):∀ (vs:List Value) (k:Nat) (cs:List Value),
    (vs.zipIdx k).foldl (λ(cs:Array Value) (p:Value×Nat)=>cs.setIfInBounds (off+p.2) p.1) cs.toArray=(lC_ cs (off+k) vs).toArray
  | [],k,cs=>by simp[sL_]
  | v::vs,k,cs=>by
    simp only[List.zipIdx_cons,yck_];rw[qb_,show cs.toArray.setIfInBounds (off+k) v=(cs.set (off+k) v).toArray by simp,qj_ off vs (k+1)];rfl
def mQ_ (place:Nat->Option (Nat×Nat)):List Value->List (Nat×Value)->Option (List Value)
  | cells,[]=>some cells
  | cells,(i,v)::rest=>match place i with
    | none=>none
    | some (off,size)=>bif Nat.beq v.cells.toList.length size&&Nat.ble (off+size) cells.length then mQ_ place (lC_ cells off v.cells.toList) rest else none
theorem iT_ (e:Nat->Option (Nat×Nat)):∀ (vs:List (Nat×Value)) (cells cs:List Value),mQ_ e cells vs=some cs->Instr.fill e cells.toArray vs=some cs.toArray
  | [],cells,cs,h=>by simp only[mQ_,yak_]at h;subst h;rfl
  | (i,v)::rest,cells,cs,h=>by
    simp only[mQ_]at h;cases hp:e i with
    | none=>rw[hp]at h;cases h
    | some q =>
      obtain⟨off,size⟩:=q;rw[hp]at h;simp only at h;cases hb:(Nat.beq v.cells.toList.length size&&Nat.ble (off+size) cells.length) with
      | false=>rw[hb]at h;cases h
      | true =>
        rw[hb,cond_true]at h;simp only[yaq_]at hb;have y:v.cells.size=size:=by simpa using ycm_ hb.1
        have B:off+size<=cells.length:=yca_ hb.2;have A:=iT_ e rest _ _ h;have x:=qj_ off v.cells.toList 0 cells;simp only[ycl_]at x
        have m:v.cells.zipIdx.foldl (λ(cs:Array Value) (p:Value×Nat)=>cs.setIfInBounds (off+p.2) p.1) cells.toArray=(lC_ cells off v.cells.toList).toArray:=by
          rw[<-x,<-Array.foldl_toList];simp[Array.toList_zipIdx]
        simp only[Instr.fill,hp];rw[yag_ (by simp[y];omega)];exact m▸A
def gp_ (P:Program) (t:TypeId) (pl:List (Nat×Nat)) (z:List Value):Prop :=
  ∃ fs:Array Field,(∀ w,(zeroValue t).run P w=.ok (.agg z.toArray) w)/\(∀ w,(underlying t).run P w=.ok (.struct fs) w)/\(∀ w,(fs.mapM (λ(f:Field)=>(do pure (f.offset,<-sizeOf f.type):Sem (Nat×Nat)))).run P w=.ok pl.toArray w)
theorem C_ {t:TypeId} {parts:List (Nat×Operand)} {vs:List (Nat×Value)} {pl:List (Nat×Nat)} {z cs:List Value} (q:gp_ P t pl z) (x:Fr.evp fr parts=some vs) (h:mQ_ (λi=>pl[i]?) z vs=some cs) :
    Yld P N fr H Γ (.build t parts.toArray) ty (.agg cs.toArray) :=
  pA_ (λa B w=>by
    obtain⟨fs,y,m,A⟩:=q;have:=B.evp x;rw[ybt_,this];have e:=iT_ _ _ _ _ h;have v:Instr.fill (λi=>pl.toArray[i]?) z.toArray vs=some cs.toArray:=by simpa using e
    simp only[Instr.build,Sem.run_bind,y,Result.andThen_ok,m,A,Value.cells,v,Sem.run_pure])
def jI_ (z:List Value):Nat->List Value
  | 0=>[]
  | n+1=>z++jI_ z n
theorem rM_ (z:List Value) (e:0<z.length):∀ (n i:Nat),i<n*z.length->(jI_ z n)[i]? = z[i%z.length]?
 | 0,i,h=>by simp at h
 | n+1,i,h=>by
   simp only[jI_]
   by_cases hi:i<z.length
   . rw[ybb_ hi,Nat.mod_eq_of_lt hi]
   . rw[ybh_ zaa_,rM_ z e n (i - z.length) (by rw[ybB_]at h;omega)]
     rw[<-Nat.mod_eq_sub_mod zaa_]
theorem ix_ (z:List Value):∀ n,(jI_ z n).length=n*z.length
  | 0=>by simp[jI_]
  | n+1=>by simp only[jI_,yaf_,ix_ z n,ybB_];omega
theorem kg_ (z:List Value) (e:0<z.length) (n:Nat):(Array.range (n*z.length)).map (λi=>z.toArray[i%z.toArray.size]!)=(jI_ z n).toArray:=by
 apply Array.ext'
 apply ybD_
 intro i;simp only[Array.toList_map,Array.toList_range,yaH_]
 by_cases hi:i<n*z.length
 .rw[rM_ z e n i hi,List.getElem?_range hi]
  have hm:i%z.length<z.length:=ydA_ _ e;simp[hm]
 rw[ybv_ (by simpa using hi),ybv_ (by rw[ix_];omega)];rfl
theorem O_ {t e:TypeId} {len sz:Nat} {parts:List (Nat×Operand)} {vs:List (Nat×Value)} {q:Value} {cs:List Value} (J:∀ w,(underlying t).run P w=.ok (.slice e) w) (L:∀ w,(sizeOf e).run P w=.ok sz w) (S:∀ w,(zeroValue e).run P w=.ok q w)
    (C:q.cells.toList.length=sz) (G:Nat.blt 0 (len*sz)=true) (B:Nat.ble (len*sz) 16777216=true) (M:Fr.evp fr parts=some vs) (I:mQ_ (λi=>some (i*sz,sz)) (jI_ q.cells.toList len) vs=some cs) (O:Nat.blt d N.n=true)
    (hk:∀ b,Ops P R N v0 H0 ops l K ((d,.slice (some ⟨b,0,none⟩) len len)::fr) ((b,.cells cs.toArray e (0,0))::H) Γ):Ops P R N v0 H0 ops (⟨some d,.buildSlice t len parts.toArray,ty,ps,af,none⟩::l) K fr H Γ :=
  gE_ (x:=λb=>.slice (some ⟨b,0,none⟩) len len) O (λa v Q T U=>by
    have y:=Q.evp M;have h:=iT_ _ _ _ _ I;have m:0<len*sz:=by simpa [Nat.blt_eq] using G
    have F:0<sz:=Nat.pos_of_mul_pos_left m;have E:len*sz<=16777216:=yca_ B;have A:=kg_ q.cells.toList zaa_ len;rw[C]at A;simp only[ydn_]at A;rw[<-A]at h;simp only[execOp,Instr.buildSlice,Sem.run_bind,J,Result.andThen_ok,L,ybt_,y];rw[yag_ zaa_,yag_ zaa_];simp only[Sem.run_bind,Sem.run_pure,S,Result.andThen_ok,h];rfl) hk
end ops
end Go.Sx
namespace Go.Sx
open Go
section ops
variable {P:Program} {N:Nf} {v0:Vw} {H0:Hp} {R:Exit->Act->World->Prop} {K:List Kt} {fr:Fr} {H:Hp} {Γ:List Fct}
variable {ops:Array Oper} {l:List Oper} {d:Nat} {ty:TypeId} {ps:String} {af:Array Edge}
theorem ss_ (h:Array Obj) (o:Obj) (f:Obj->Obj):(h.push o).modify h.size f=h.push (f o):=by
 apply yco_
 intro i;rw[ybk_]
 by_cases e:h.size=i
 .subst e;simp
 rw[yag_ e,ycC_,ycC_,yag_ (λh=>e h.symm),yag_ (λh=>e h.symm)]
def bytesV (m:List UInt8):List Value:=m.map λc=>.int .u8 (c.toNat:Int)
theorem Ba_ {x:Operand} {s t e:TypeId} {m:List UInt8} (E:∀ w,(underlying s).run P w=.ok .string w) (C:∀ w,(underlying t).run P w=.ok (.slice e) w) (L:∀ w,(underlying e).run P w=.ok (.int .u8) w)
    (F:Fr.ev fr x=some (str m)) (G:Nat.blt d N.n=true)
    (hk:∀ cap b,m.length<=cap->Ops P R N v0 H0 ops l K ((d,.slice (some ⟨b,0,none⟩) m.length cap)::fr) ((b,.cells (bytesV m++List.replicate (cap - m.length) (Value.int .u8 0)).toArray e (cap,cap+1))::H) Γ) :
    Ops P R N v0 H0 ops (⟨some d,.convert s t x,ty,ps,af,none⟩::l) K fr H Γ :=
  on_ (β:=Nat) (x:=λcap b=>.slice (some ⟨b,0,none⟩) m.length cap) (o:=λcap=>.cells (bytesV m++List.replicate (cap - m.length) (Value.int .u8 0)).toArray e (cap,cap+1)) (λcap=>m.length<=cap) G
    (λa v M Q S=>by
      have h:m.length<=(Question.appendCap m.length 0 e).cut (v.w.tape v.w.drawn (.appendCap m.length 0 e)):=by simp[Question.cut]
      generalize O:(Question.appendCap m.length 0 e).cut (v.w.tape v.w.drawn (.appendCap m.length 0 e))=cap at h
      have q:(bytesV m++List.replicate (cap - m.length) (Value.int .u8 0)).length=cap:=by simp[bytesV];omega
      have I:(⟨m.toArray⟩:ByteArray).size=m.length:=by simp[ByteArray.size]
      have B:(Array.map (λ(b:UInt8)=>Value.int .u8 (b.toNat:Int)) m.toArray++Array.replicate (cap - m.length) (Value.int .u8 0))=(bytesV m++List.replicate (cap - m.length) (Value.int .u8 0)).toArray:=by simp[bytesV]
      refine⟨cap,{ v.w with heap:=v.w.heap.push (.cells (bytesV m++List.replicate (cap - m.length) (Value.int .u8 0)).toArray e (cap,cap+1)),drawn:=v.w.drawn+1 },h,?_,rfl,rfl,rfl,rfl,Nat.le_succ _⟩
      have y:(Conv.stringToBytes e ⟨m.toArray⟩).run P v.w=.ok (.slice (some ⟨v.w.heap.size,0,none⟩) m.length cap) { v.w with heap:=v.w.heap.push (.cells (bytesV m++List.replicate (cap - m.length) (Value.int .u8 0)).toArray e (cap,cap+1)),drawn:=v.w.drawn+1 }:=by
        generalize bytesV m++List.replicate (cap - m.length) (Value.int .u8 0)=cs at q B ⊢
        simp only[Conv.stringToBytes,I];show Sem.run P (choose _ >>= _) v.w=_
        rw[Sem.run_bind]
        have A:(choose (.appendCap m.length 0 e)).run P v.w=.ok cap { v.w with drawn:=v.w.drawn+1 }:=by
          simp[choose,Sem.run,Question.forced,O]
        rw[A,Result.andThen_ok,B];simp only[newRow,Sem.run_bind,newObj,markStringish,shape,freeze];simp only[Sem.run,Result.andThen_ok,World.shape?,Array.getElem?_push_size,ybI_,q,World.freeze,Nat.one_ne_zero,yce_,Sem.run_pure];rw[ss_];simp
      simp only[execOp,Sem.run_bind,convert,E,C,L,Result.andThen_ok,M.ev F,str,y,Sem.run_pure])
    (λcap b J=>hk cap b J)
theorem eX_ {t:TypeId} {x:Operand} {lo hi:Option Operand} {m:List UInt8} {i j:Nat} {kl kh:IntKind} (B:∀ w,(underlying t).run P w=.ok .string w) (C:Fr.ev fr x=some (str m))
    (h:match lo with|some y=>Fr.ev fr y=some (.int kl (i:Int))|none=>i=0) (e:match hi with|some y=>Fr.ev fr y=some (.int kh (j:Int))|none=>j=m.length) (A:i<=j) (G:j<=m.length) :
    Yld P N fr H Γ (.slice t x lo hi none) ty (str ((m.drop i).take (j - i))) :=
  λa v q I J _ _ _=>by
    have E:(⟨m.toArray⟩:ByteArray).size=m.length:=by simp[ByteArray.size]
    have F:=ByteArray.extract_mk m i j;cases lo<;>cases hi<;>simp only at h e
    . subst h e;simp[execOp,Instr.sliceAt,Instr.slice,B,q.ev C,str,Instr.sliceBounds,E,F]
    . subst h;simp[execOp,Instr.sliceAt,Instr.slice,B,q.ev C,q.ev e,str,Instr.sliceBounds,Instr.sliceBound,asIntOf,E,F,G]
    . subst e;simp[execOp,Instr.sliceAt,Instr.slice,B,q.ev C,q.ev h,str,Instr.sliceBounds,Instr.sliceBound,asIntOf,E,F,A]
    . simp[execOp,Instr.sliceAt,Instr.slice,B,q.ev C,q.ev h,q.ev e,str,Instr.sliceBounds,Instr.sliceBound,asIntOf,E,F,A,G]
def sad (ad:Ao) (cap i n:Nat):Ao:=if cap=i then ad else ad.map (·.add (i*n))
theorem cV_ {t e:TypeId} {x:Operand} {lo hi:Option Operand} {ad:Ao} {len cap i j n:Nat} {kl kh:IntKind} (B:∀ w,(underlying t).run P w=.ok (.slice e) w) (C:∀ w,(sizeOf e).run P w=.ok n w) (E:Fr.ev fr x=some (.slice ad len cap))
    (h:match lo with|some y=>Fr.ev fr y=some (.int kl (i:Int))|none=>i=0) (m:match hi with|some y=>Fr.ev fr y=some (.int kh (j:Int))|none=>j=len) (A:i<=j) (F:j<=cap) :
    Yld P N fr H Γ (.slice t x lo hi none) ty (.slice (sad ad cap i n) (j - i) (cap - i)) :=
  λa v q G I _ _ _=>by
    cases lo<;>cases hi<;>simp only at h m
    . subst h m;simp[execOp,Instr.sliceAt,Instr.slice,B,C,q.ev E,Instr.sliceBounds,sad]
    . subst h;simp[execOp,Instr.sliceAt,Instr.slice,B,C,q.ev E,q.ev m,Instr.sliceBounds,Instr.sliceBound,asIntOf,F,sad]
    . subst m;simp[execOp,Instr.sliceAt,Instr.slice,B,C,q.ev E,q.ev h,Instr.sliceBounds,Instr.sliceBound,asIntOf,A,sad]
    . simp[execOp,Instr.sliceAt,Instr.slice,B,C,q.ev E,q.ev h,q.ev m,Instr.sliceBounds,Instr.sliceBound,asIntOf,A,F,sad]
theorem bG_.sad {v:Vw} {ad:Ao} {cs:List Value} {cap i n:Nat} (h:bG_ v ad cs) (e:List Value) (q:∀ j x,e[j]? = some x->cs[i*n+j]? = some x) (y:cs.length<=cap*n):bG_ v (sad ad cap i n) e:=by
 unfold Sx.sad
 split
 .rename_i m
  subst m;left
  cases e with
  | nil=>rfl
  | cons d e =>
    have:=q 0 d rfl;rw[ybv_ zaa_]at this;cases this
 exact h.drop (i*n) e q
theorem aY_ {fn:Fn} {xs ys:List Operand} {us vs:List Value} (x:Fr.evs fr xs=some us) (m:Fr.evs fr ys=some vs):Yld P N fr H Γ (.makeFunc fn xs.toArray ys.toArray) ty (.func fn us.toArray vs.toArray) :=
  λa v e y A _ _ _=>by
    have h:=e.evs x;have q:=e.evs m;simp[execOp,Instr.makeFunc,h,q]
theorem ap_ {f:FuncId} {g:Operand} {first cap:List Value} {xs:List Operand} {h:Array TypeId} {vs:List Value} {ι:Type} {Hc F:Hp} {y:List Fct} {e:ι->Value} {H':ι->Hp} {Γ':ι->List Fct}
    (m:Tri P f (first++vs++cap).toArray Hc y e H' Γ') (C:Fr.ev fr g=some (.func (.func f) first.toArray cap.toArray)) (E:Fr.evs fr xs=some vs) (B:H.Perm (Hc++F)) (A:∀ v,v.sat H->af_ Γ v->af_ y v) (I:Nat.blt d N.n=true)
    (hk:∀ x,Ops P R N v0 H0 ops l K ((d,e x)::fr) (H' x++F) (Γ' x++Γ)) :
    Ops P R N v0 H0 ops (⟨some d,.call ⟨.value g,xs.toArray,h⟩,ty,ps,af,none⟩::l) K fr H Γ :=
  pT_ m (λa w q=>by
    have G:=q.evs E;have J:=m.callable (first++vs++cap).toArray w;simp only[execOp,resolve,Deferred.ofValue,q.ev C,invoke,ybt_,G,Sem.run_bind,Sem.run_pure,Result.andThen_ok,List.append_toArray,J]) B A I hk
end ops
end Go.Sx
namespace Go.Sx
open Go
class NoPan (R:Exit->Act->World->Prop):Prop where
  st:∀ c a d x w,R (.panic c) (a.put d x) w->R (.panic c) a w
instance {P:Program} {fn:Func} {ι:Type} {v0:Vw} {H0:Hp} {ret:ι->Value} {H':ι->Hp} {Γ':ι->List Fct}:NoPan (bodyPost P fn (ln_ v0 H0 ret H' Γ')) :=
  ⟨λc a d x w h=>by obtain⟨_,y,v',e,_⟩:=h;cases e⟩
instance {N:Nf} {v0:Vw} {H0:Hp} {ι:Type} {frs:ι->Fr} {Hs:ι->Hp} {Γs:ι->List Fct}:NoPan (Mid N v0 H0 frs Hs Γs) :=
  ⟨λc a d x w h=>by cases h.1⟩
theorem kM_ {P:Program} {R:Exit->Act->World->Prop} [hR:NoPan R] {c:List PanicEntry} {a:Act} {d:Option Tmp} {x:Value} {w:World}:∀ (K:List Kt),post P R K (.panic c) (a.put d x) w->post P R K (.panic c) a w
  | [],h=>hR.st c a d x w h
  | .seq _::K,h=>kM_ K h
  | .inv _::K,h=>kM_ K h
  | .blk _::K,h=>kM_ K h
def SW (Hs:Hp) (Γs:List Fct) (w:World):Prop:=∃ v:Vw,v.w=w/\v.sat Hs/\af_ Γs v
section any
variable {P:Program} {N:Nf} {v0:Vw} {H0:Hp} {R:Exit->Act->World->Prop} {K:List Kt} {fr:Fr} {H Hs:Hp} {Γ Γs:List Fct}
variable {ops:Array Oper} {d:Nat} {ty:TypeId} {ps:String} {af:Array Edge} {fuel:Nat} {listed:Array Bool}
abbrev Any (P:Program) (R:Exit->Act->World->Prop) (N:Nf) (v0:Vw) (H0:Hp) (ops:Array Oper) (Hs:Hp) (Γs:List Fct) (fuel:Nat) (listed:Array Bool) (K:List Kt) (fr:Fr) (H:Hp) (Γ:List Fct):Prop :=
  Ok N v0 H0 (wpAnyH P .any ops (post P R K) (SW Hs Γs) fuel listed) fr H Γ
theorem sl_ {x:Nat} (Hs:Hp) (Γs:List Fct) (hm:P.follows .mixedOrders=true) (h:Any P R N v0 H0 ops Hs Γs ops.size (Array.replicate ops.size false) K fr H Γ):Run P R N v0 H0 (.region x ops true) K fr H Γ :=
  λa v A m e y=>wp_region_held hm (by
    have q:v.le ⟨v.im,{ v.w with drawn:=v.w.drawn+1 },v.sl⟩:=⟨λ_ h=>h,λ_ _=>rfl,rfl⟩;exact h a ⟨v.im,{ v.w with drawn:=v.w.drawn+1 },v.sl⟩ A ⟨m.own,m.nodup,m.lt⟩ ⟨e.os,e.tape,e.output,e.size,e.block,e.imUp,e.imNew,e.hNew,e.sl,e.dr.imp (λh=>h) λh=>Nat.le_succ_of_le h⟩ (av_ q y))
theorem pJ_ {e:Nat} (hm:P.follows .mixedOrders=true) (h:Any P R N v0 H0 ops H Γ ops.size (Array.replicate ops.size false) K fr H Γ):Run P R N v0 H0 (.region e ops true) K fr H Γ:=sl_ H Γ hm h
theorem Vw.sat.tail {v:Vw} {p:Nat×Obj} (h:v.sat (p::H)):v.sat H :=
  ⟨λx e=>h.own x (yaE_ _ e),by have:=h.nodup;rw[yay_,ybG_]at this;exact this.2,h.lt⟩
theorem rJ_ [NoPan R] (i:Nat) {e:Oper} {x:Value} (hi:ops[i]? = some e) (I:Region.noSelect ops=true) (B:Region.free .any ops listed i=true) (E:(Region.ready .any ops listed).contains i=true)
    (A:e.dst=some d) (L:Nat.blt d N.n=true) (C:∀ a,Fr.sat N fr a->YieldsIf P ops (SW Hs Γs) e x a) (G:∀ v,v.sat H->af_ Γ v->v.sat Hs/\af_ Γs v)
    (h:Any P R N v0 H0 ops Hs Γs fuel (listed.setIfInBounds i true) K ((d,x)::fr) H Γ):Any P R N v0 H0 ops Hs Γs (fuel+1) listed K fr H Γ :=
  λa v y m F q=>wpAnyH_take hi I B E (λc a w J=>kM_ K J) (C a y) ⟨v,rfl,G v m q⟩ (by
    rw[A];exact h _ v (y.put L) m F q)
theorem zW_ [NoPan R] (i:Nat) {m:Op} {x:Value} (hi:ops[i]? = some ⟨some d,m,ty,ps,af,none⟩) (F:Region.noSelect ops=true) (q:Region.free .any ops listed i=true) (A:(Region.ready .any ops listed).contains i=true)
    (y:Yld P N fr Hs Γs m ty x) (E:Nat.blt d N.n=true) (C:∀ v,v.sat H->af_ Γ v->v.sat Hs/\af_ Γs v)
    (h:Any P R N v0 H0 ops Hs Γs fuel (listed.setIfInBounds i true) K ((d,x)::fr) H Γ):Any P R N v0 H0 ops Hs Γs (fuel+1) listed K fr H Γ :=
  rJ_ i hi F q A rfl E (λa B=>.inl ⟨rfl,λw ⟨v,e,k1,k2⟩=>by subst e;exact y a v B k1 k2 (some d) ps af⟩) C h
theorem xp_ [NoPan R] (i:Nat) {q:Op} {x:Value} {j t:Nat} {m:Bool} (hi:ops[i]? = some ⟨some d,q,ty,ps,af,some (j,m)⟩) (F:Region.noSelect ops=true) (A:Region.free .any ops listed i=true) (B:(Region.ready .any ops listed).contains i=true)
    (G:iR_ ops j=some t) (E:Fr.get fr t=some (.bool m)) (I:Yld P N fr Hs Γs q ty x) (J:Nat.blt d N.n=true) (C:∀ v,v.sat H->af_ Γ v->v.sat Hs/\af_ Γs v)
    (h:Any P R N v0 H0 ops Hs Γs fuel (listed.setIfInBounds i true) K ((d,x)::fr) H Γ):Any P R N v0 H0 ops Hs Γs (fuel+1) listed K fr H Γ :=
  rJ_ i hi F A B rfl J (λa y=>.inl ⟨by simp[Region.wanted,hu_ y G E],λw ⟨v,e,k1,k2⟩=>by subst e;exact I a v y k1 k2 (some d) ps af⟩) C h
theorem any_no [NoPan R] (i:Nat) {E:Op} {x:Value} {j t:Nat} {e:Bool} (hi:ops[i]? = some ⟨some d,E,ty,ps,af,some (j,e)⟩) (C:Region.noSelect ops=true) (m:Region.free .any ops listed i=true) (y:(Region.ready .any ops listed).contains i=true)
    (F:iR_ ops j=some t) (B:Fr.get fr t=some x) (q:(match x with|.bool b=>Bool.xor b e|_=>true)=true) (I:Nat.blt d N.n=true) (A:∀ v,v.sat H->af_ Γ v->v.sat Hs/\af_ Γs v)
    (h:Any P R N v0 H0 ops Hs Γs fuel (listed.setIfInBounds i true) K ((d,undef)::fr) H Γ):Any P R N v0 H0 ops Hs Γs (fuel+1) listed K fr H Γ :=
  rJ_ i hi C m y rfl I (λa G=>.inr ⟨by
    simp only[Region.wanted,hu_ G F B];cases x<;>first|rfl|(rename_i b;cases b<;>cases e<;>simp_all),rfl⟩) A h
def jh_ (ops:Array Oper):Array Bool->List Nat->Bool
  | _,[]=>true
  | listed,i::is=>Region.free .any ops listed i&&((Region.ready .any ops listed).contains i&&jh_ ops (listed.setIfInBounds i true) is)
def Sq (P:Program) (R:Exit->Act->World->Prop) (N:Nf) (v0:Vw) (H0:Hp) (ops:Array Oper) (Hs:Hp) (Γs:List Fct) (is:List Nat) (fuel:Nat) (listed:Array Bool) (K:List Kt) (fr:Fr) (H:Hp) (Γ:List Fct):Prop :=
  (Region.noSelect ops&&jh_ ops listed is)=true->(∀ v,v.sat H->af_ Γ v->v.sat Hs/\af_ Γs v)->Any P R N v0 H0 ops Hs Γs (fuel+is.length) listed K fr H Γ
theorem D_ (fuel:Nat) (e:List Nat) (m:(Region.noSelect ops&&jh_ ops listed e)=true) (q:∀ v,v.sat H->af_ Γ v->v.sat Hs/\af_ Γs v) (h:Sq P R N v0 H0 ops Hs Γs e fuel listed K fr H Γ):Any P R N v0 H0 ops Hs Γs (fuel+e.length) listed K fr H Γ:=h m q
theorem bs_ (h:Any P R N v0 H0 ops Hs Γs fuel listed K fr H Γ):Sq P R N v0 H0 ops Hs Γs [] fuel listed K fr H Γ:=λ_ _=>h
theorem nQ_ {i:Nat} {e:List Nat} (h:(Region.noSelect ops&&jh_ ops listed (i::e))=true):Region.noSelect ops=true/\Region.free .any ops listed i=true/\(Region.ready .any ops listed).contains i=true/\(Region.noSelect ops&&jh_ ops (listed.setIfInBounds i true) e)=true:=by
  simp only[jh_,yaq_]at h ⊢;exact⟨h.1,h.2.1,h.2.2.1,h.1,h.2.2.2⟩
theorem M_ [NoPan R] {i:Nat} {q:List Nat} {e:Op} {x:Value} (hi:ops[i]? = some ⟨some d,e,ty,ps,af,none⟩) (A:Yld P N fr Hs Γs e ty x) (F:Nat.blt d N.n=true)
    (h:Sq P R N v0 H0 ops Hs Γs q fuel (listed.setIfInBounds i true) K ((d,x)::fr) H Γ):Sq P R N v0 H0 ops Hs Γs (i::q) fuel listed K fr H Γ:=λv m=>by
  obtain⟨B,E,C,y⟩:=nQ_ v;exact zW_ i hi B E C A F m (h y m)
theorem es_ [NoPan R] {i:Nat} {m:List Nat} {e:Op} {X:Bool} (hi:ops[i]? = some ⟨some d,e,ty,ps,af,none⟩) (q:Yld P N fr Hs Γs e ty (.bool X)) (v:Nat.blt d N.n=true)
    (h:∀ r:Bool,X=r->Sq P R N v0 H0 ops Hs Γs m fuel (listed.setIfInBounds i true) K ((d,.bool r)::fr) H Γ):Sq P R N v0 H0 ops Hs Γs (i::m) fuel listed K fr H Γ:=M_ hi q v (h X rfl)
theorem bu_ [NoPan R] {i:Nat} {m:List Nat} {v:Op} {x:Value} {j t:Nat} {e:Bool} (hi:ops[i]? = some ⟨some d,v,ty,ps,af,some (j,e)⟩) (C:iR_ ops j=some t) (A:Fr.get fr t=some (.bool e)) (E:Yld P N fr Hs Γs v ty x) (I:Nat.blt d N.n=true)
    (h:Sq P R N v0 H0 ops Hs Γs m fuel (listed.setIfInBounds i true) K ((d,x)::fr) H Γ):Sq P R N v0 H0 ops Hs Γs (i::m) fuel listed K fr H Γ:=λB q=>by
  obtain⟨F,J,G,y⟩:=nQ_ B;exact xp_ i hi F J G C A E I q (h y q)
theorem dV_ [NoPan R] {i:Nat} {q:List Nat} {m:Op} {X:Bool} {j t:Nat} {e:Bool} (hi:ops[i]? = some ⟨some d,m,ty,ps,af,some (j,e)⟩) (v:iR_ ops j=some t) (y:Fr.get fr t=some (.bool e)) (x:Yld P N fr Hs Γs m ty (.bool X)) (A:Nat.blt d N.n=true)
    (h:∀ r:Bool,X=r->Sq P R N v0 H0 ops Hs Γs q fuel (listed.setIfInBounds i true) K ((d,.bool r)::fr) H Γ):Sq P R N v0 H0 ops Hs Γs (i::q) fuel listed K fr H Γ:=bu_ hi v y x A (h X rfl)
theorem sq_no [NoPan R] {i:Nat} {q:List Nat} {B:Op} {x:Value} {j t:Nat} {e:Bool} (hi:ops[i]? = some ⟨some d,B,ty,ps,af,some (j,e)⟩) (E:iR_ ops j=some t) (A:Fr.get fr t=some x) (m:(match x with|.bool b=>Bool.xor b e|_=>true)=true) (I:Nat.blt d N.n=true)
    (h:Sq P R N v0 H0 ops Hs Γs q fuel (listed.setIfInBounds i true) K ((d,undef)::fr) H Γ):Sq P R N v0 H0 ops Hs Γs (i::q) fuel listed K fr H Γ:=λC v=>by
  obtain⟨F,J,G,y⟩:=nQ_ C;exact any_no i hi F J G E A m I v (h y v)
def Nx (P:Program) (R:Exit->Act->World->Prop) (ops:Array Oper) (Hs:Hp) (Γs:List Fct) (fuel:Nat) (listed:Array Bool) (K:List Kt) (a:Act) (w:World):Prop :=
  SW Hs Γs w/\wpAnyH P .any ops (post P R K) (SW Hs Γs) fuel listed a w
theorem p_ (i:Nat) {o:Oper} (hi:ops[i]? = some o) (B:Region.ready .any ops listed=[i]) (h:Ops P R N v0 H0 ops [o] (.inv (Nx P R ops Hs Γs fuel (listed.setIfInBounds i true) K)::K) fr H Γ):Any P R N v0 H0 ops Hs Γs (fuel+1) listed K fr H Γ:=by
 intro a v C y E A;refine wpAnyH_all B zaj_ λj m=>?_;simp only[yai_]at m;subst m;have:=h a v C y E A;unfold wpOp;simp only[hi];unfold wpList at this
 split
 .rename_i e
  rw[yao_ e]at this;rcases this with q|q
  .left
   unfold Oper.wp at q ⊢;generalize (execOp a.eval o).run P v.w=r at q ⊢
   cases r with
   | ok n w' =>
     cases n<;>simp only[Oper.upon]at q ⊢<;>exact q
   | halt x w' =>
     cases x<;>simp only[Oper.upon]at q ⊢
     case panic u=>exact q
  exact .inr q
 rename_i e
 rw[yag_ e]at this;exact this
theorem V_ (y:∀ v,v.sat H->af_ Γ v->v.sat Hs/\af_ Γs v) (h:Any P R N v0 H0 ops Hs Γs fuel listed K fr H Γ):Ok N v0 H0 (Nx P R ops Hs Γs fuel listed K) fr H Γ :=
  λa v q e x m=>⟨⟨v,rfl,y v e m⟩,h a v q e x m⟩
theorem tw_ (q:Region.ready .any ops listed=[]) (h:Fin P R N v0 H0 K fr H Γ):Any P R N v0 H0 ops Hs Γs fuel listed K fr H Γ :=
  λa v x e y m=>wpAnyH_done q (h a v x e y m) fuel
theorem fm_ {α:Type} [BEq α] [LawfulBEq α] {a b:α} (h:(a != b)=true):a≠b:=by simpa using h
theorem fo_ {α:Type} [BEq α] [LawfulBEq α] {a b:α} (h:(a != b)=false):a=b:=by simpa using h
theorem wm_ {N:Nat} {fn:Func} {t s u:Nat} {ι:Type} {F:Hp} {ret:ι->Value} {H':ι->Hp} {Γ':ι->List Fct} {y A B:Value} (I:fn.results=#[.tmp t,.tmp s,.tmp u]) (x:ι) (q:Fr.get fr t=some y) (h:Fr.get fr s=some A) (m:Fr.get fr u=some B) (M:.tuple #[y,A,B]=ret x) (G:H.Perm (H' x++F))
    (C:∀ v,v.sat H->af_ Γ v->af_ (Γ' x) v):Ok N v0 H0 (bodyPost P fn (ln_ v0 H0 ret H' Γ') .ret) fr H Γ :=
  du_ G C λa v e E L S=>⟨e.defers,ret x,by rw[<-M];have O:=e.val t _ q;have J:=e.val s _ h;have Q:=e.val u _ m;simp[results,I,O,J,Q],x,v,rfl,rfl,E,S,L⟩
theorem hN_ {f:FuncId} {args:Array Value} {r:Value} (E:ec_ P f) (h:∀ w,Calls P f args w λe w'=>e=.returned r/\w'.heap=w.heap/\w'.os=w.os/\w'.tape=w.tape/\w'.output=w.output/\w.drawn<=w'.drawn):Fn0 P f args r :=
  ⟨E,λv C _=>(h v.w).mono λe w' ⟨A,m,F,y,B,x⟩=>⟨(),⟨v.im,w',v.sl⟩,A,rfl,⟨by simp,by simp,λb q=>by show b<w'.heap.size;rw[m];exact C.lt b q⟩,trivial,
    ⟨F,y,B,by simp[m],λb _ _=>by show w'.heap[b]? = _;rw[m],λ_ h=>h,λ_ h=>.inl h,λ_ h=>by simp at h,rfl,.inr x⟩⟩⟩
theorem bh_ {f:FuncId} {g:Operand} {first cap:List Value} {l:List Oper} {xs:List Operand} {e:Array TypeId} {vs:List Value} {Hc F:Hp} {h:List Fct} {X:Bool}
    (A:Tri P f (first++vs++cap).toArray Hc h (λ_:Unit=>.bool X) (λ_=>Hc) (λ_=>[])) (x:Fr.ev fr g=some (.func (.func f) first.toArray cap.toArray)) (y:Fr.evs fr xs=some vs) (q:H.Perm (Hc++F)) (m:∀ v,v.sat H->af_ Γ v->af_ h v) (B:Nat.blt d N.n=true)
    (hk:∀ r:Bool,X=r->Ops P R N v0 H0 ops l K ((d,.bool r)::fr) (Hc++F) Γ) :
    Ops P R N v0 H0 ops (⟨some d,.call ⟨.value g,xs.toArray,e⟩,ty,ps,af,none⟩::l) K fr H Γ :=
  ap_ A x y q m B λ_=>hk X rfl
theorem A_ {k:Act->World->Prop} {H':Hp} (e:H.Perm H') (h:Ok N v0 H0 k fr H' Γ):Ok N v0 H0 k fr H Γ :=
  λa v x m y q=>h a v x (m.perm e) (y.subR λb A=>(e.map Prod.fst).mem_iff.2 A) q
theorem fQ_:∀ {H:Hp} {i:Nat} {p:Nat×Obj},H[i]? = some p->H.Perm (p::H.eraseIdx i)
  | [],i,p,h=>by simp at h
  | x::H,0,p,h=>by simp at h;subst h;exact .refl _
  | x::H,i+1,p,h=>by
    have:=fQ_ (H:=H) (i:=i) (p:=p) zaH_;exact (List.Perm.cons x this).trans (List.Perm.swap p x _)
theorem sw_:∀ {H:Hp} {i:Nat} {p q:Nat×Obj},H[i]? = some p->(q::H.eraseIdx i).Perm (H.set i q)
  | [],i,p,q,h=>by simp at h
  | x::H,0,p,q,h=>by exact .refl _
  | x::H,i+1,p,q,h=>by
    have:=sw_ (H:=H) (i:=i) (p:=p) (q:=q) zaH_;exact (List.Perm.swap x q _).trans (List.Perm.cons x this)
theorem wz_ {f:FuncId} {l:List Oper} {xs:List Operand} {e:Array TypeId} {vs:List Value} (i:Nat) {b:Nat} {o o':Obj} {h:List Fct} {r:Value}
    (x:Tri P f vs.toArray [(b,o)] h (λ_:Unit=>r) (λ_=>[(b,o')]) (λ_=>[])) (q:Fr.evs fr xs=some vs) (hi:H[i]? = some (b,o)) (m:∀ v,v.sat H->af_ Γ v->af_ h v) (y:Nat.blt d N.n=true)
    (hk:Ops P R N v0 H0 ops l K ((d,r)::fr) (H.set i (b,o')) Γ) :
    Ops P R N v0 H0 ops (⟨some d,.call ⟨.value (.func f),xs.toArray,e⟩,ty,ps,af,none⟩::l) K fr H Γ :=
  f_ x q (fQ_ hi) m y λ_=>A_ (sw_ hi) hk
theorem oq_ {f:FuncId} {l:List Oper} {xs:List Operand} {e:Array TypeId} {vs:List Value} (i:Nat) {b:Nat} {o o':Obj} {h:List Fct} {X:Bool}
    (x:Tri P f vs.toArray [(b,o)] h (λ_:Unit=>.bool X) (λ_=>[(b,o')]) (λ_=>[])) (q:Fr.evs fr xs=some vs) (hi:H[i]? = some (b,o)) (m:∀ v,v.sat H->af_ Γ v->af_ h v) (y:Nat.blt d N.n=true)
    (hk:∀ r:Bool,X=r->Ops P R N v0 H0 ops l K ((d,.bool r)::fr) (H.set i (b,o')) Γ) :
    Ops P R N v0 H0 ops (⟨some d,.call ⟨.value (.func f),xs.toArray,e⟩,ty,ps,af,none⟩::l) K fr H Γ :=
  wz_ i x q hi m y (hk X rfl)
end any
end Go.Sx
namespace Go.Sx
open Go
structure Opn (F:Fence):Prop where
  fn:∀ f,F.fn f
  depth:F.depth=none
theorem cE_:Opn Fence.wide:=⟨λ_=>trivial,rfl⟩
theorem N_ (l:Nat):Opn (Fence.wide.inRound l):=⟨λ_=>trivial,rfl⟩
theorem rC_ {F:Fence} {n:Nat} {P:Program} {f:FuncId} {args:Array Value} {w:World} {R:Ending->World->Prop} (h:Calls P f args w R) (l:Nat):CallsIn (Fence.wide.inRound l) n P f args w R :=
  (callsIn_wide (n:=n)).2 h
structure SatD (N:Nat) (D:List Deferred) (fr:Fr) (a:Act):Prop where
  sat:Fr.sat N fr ⟨a.tmps,[]⟩
  defers:a.defers=D
theorem SatD.put {N:Nat} {D:List Deferred} {fr:Fr} {a:Act} {d:Nat} {x:Value} (h:SatD N D fr a) (e:Nat.blt d N=true):SatD N D ((d,x)::fr) (a.put (some d) x) :=
  ⟨h.sat.put e,h.defers⟩
def OkD (N:Nat) (D:List Deferred) (v0:Vw) (H0:Hp) (k:Act->World->Prop) (fr:Fr) (H:Hp) (Γ:List Fct):Prop :=
  ∀ a v,SatD N D fr a->v.sat H->v0.to H0 v H->af_ Γ v->k a v.w
def eg_ (F:Fence) (n:Nat) (P:Program) (R:Exit->Act->World->Prop):List Kt->Exit->Act->World->Prop
  | [],e,a,w=>R e a w
  | .seq c::K,.normal,a,w=>c.wpIn F n P (eg_ F n P R K) a w
  | .seq _::K,e,a,w=>eg_ F n P R K e a w
  | .inv J::_,.normal,a,w=>J a w
  | .inv _::K,e,a,w=>eg_ F n P R K e a w
  | .blk id::K,.exit id',a,w=>if id'=id then eg_ F n P R K .normal a w else eg_ F n P R K (.exit id') a w
  | .blk _::K,e,a,w=>eg_ F n P R K e a w
section code
variable {F:Fence} {n:Nat} {P:Program} {N:Nat} {D:List Deferred} {v0:Vw} {H0:Hp} {R:Exit->Act->World->Prop} {K:List Kt} {fr:Fr} {H:Hp} {Γ:List Fct}
theorem pO_ (K:List Kt) (a:Act) (w:World) (h:R .ret a w):eg_ F n P R K .ret a w:=by
  induction K with
  | nil=>exact h
  | cons x K ih=>cases x<;>exact ih
theorem og_ {c:Code} {e:List Kt} {a:Act} {w:World}:∀ {K:List Kt},nxt K=some (c,e)->c.wpIn F n P (eg_ F n P R e) a w->eg_ F n P R K .normal a w
  | [],h,_=>by simp[nxt]at h
  | .seq _::K,h,hp=>by simp only[nxt,yak_,ybV_]at h;obtain⟨rfl,rfl⟩:=h;exact hp
  | .blk _::K,h,hp=>og_ (K:=K) (by simpa [nxt] using h) hp
  | .inv _::K,h,_=>by simp[nxt]at h
theorem pP_ {a:Act} {w:World}:∀ {K:List Kt},gl_ K=true->R .normal a w->eg_ F n P R K .normal a w
  | [],_,hp=>hp
  | .inv _::K,h,_=>by simp[gl_]at h
  | .blk _::K,h,hp=>pP_ (K:=K) (by simpa [gl_] using h) hp
  | .seq _::K,h,_=>by simp[gl_]at h
abbrev jb_ (F:Fence) (n:Nat) (P:Program) (R:Exit->Act->World->Prop) (N:Nat) (D:List Deferred) (v0:Vw) (H0:Hp) (c:Code) (K:List Kt) (fr:Fr) (H:Hp) (Γ:List Fct):Prop :=
  OkD N D v0 H0 (c.wpIn F n P (eg_ F n P R K)) fr H Γ
abbrev uS_ (F:Fence) (n:Nat) (P:Program) (R:Exit->Act->World->Prop) (N:Nat) (D:List Deferred) (v0:Vw) (H0:Hp) (K:List Kt) (fr:Fr) (H:Hp) (Γ:List Fct):Prop :=
  OkD N D v0 H0 (eg_ F n P R K .normal) fr H Γ
abbrev fJ_ (F:Fence) (n:Nat) (P:Program) (R:Exit->Act->World->Prop) (N:Nat) (D:List Deferred) (v0:Vw) (H0:Hp) (ops:Array Oper) (l:List Oper) (K:List Kt) (fr:Fr) (H:Hp) (Γ:List Fct):Prop :=
  OkD N D v0 H0 (wpListIn F n P ops (eg_ F n P R K) l) fr H Γ
theorem cK_ {x y:Code} (h:jb_ F n P R N D v0 H0 x (.seq y::K) fr H Γ):jb_ F n P R N D v0 H0 (.seq x y) K fr H Γ :=
  λa v B q C A=>wpIn_seq (wpIn_mono (h a v B q C A) λe a w m=>by cases e<;>exact m)
theorem dW_ {m:Nat} {c:Code} (h:jb_ F n P R N D v0 H0 c (.blk m::K) fr H Γ):jb_ F n P R N D v0 H0 (.block m c) K fr H Γ :=
  λa v A x B y=>wpIn_block (wpIn_mono (h a v A x B y) λe a w q=>by cases e<;>exact q)
theorem lu_ (h:uS_ F n P R N D v0 H0 K fr H Γ):jb_ F n P R N D v0 H0 .skip K fr H Γ :=
  λa v e q m x=>wpIn_skip (h a v e q m x)
theorem kI_ (h:OkD N D v0 H0 (R .ret) fr H Γ):jb_ F n P R N D v0 H0 .ret K fr H Γ :=
  λa v e q m x=>wpIn_ret (pO_ K a v.w (h a v e q m x))
theorem cc_ {c:Code} {e:List Kt} (A:nxt K=some (c,e)) (h:jb_ F n P R N D v0 H0 c e fr H Γ):uS_ F n P R N D v0 H0 K fr H Γ :=
  λa v x m y q=>og_ A (h a v x m y q)
theorem cN_ (y:gl_ K=true) (h:OkD N D v0 H0 (R .normal) fr H Γ):uS_ F n P R N D v0 H0 K fr H Γ :=
  λa v q e x m=>pP_ y (h a v q e x m)
theorem aK_ {e:Nat} {l:List Oper} (h:fJ_ F n P R N D v0 H0 l.toArray l K fr H Γ):jb_ F n P R N D v0 H0 (.region e l.toArray false) K fr H Γ :=
  λa v x m y q=>wpIn_region_lit (h a v x m y q)
theorem br_ {ops:Array Oper} (h:uS_ F n P R N D v0 H0 K fr H Γ):fJ_ F n P R N D v0 H0 ops [] K fr H Γ :=
  λa v q e x m=>wpListIn_nil (h a v q e x m)
theorem fy_ {c:Operand} {x y:Code} (A:Fr.ev fr c=some (.bool true)) (B:jb_ F n P R N D v0 H0 x K fr H Γ):jb_ F n P R N D v0 H0 (.cond c x y) K fr H Γ :=
  λa v e h q m=>wpIn_cond_true (e.sat.ev A) (B a v e h q m)
theorem mF_ {c:Operand} {x y:Code} (B:Fr.ev fr c=some (.bool false)) (h:jb_ F n P R N D v0 H0 y K fr H Γ):jb_ F n P R N D v0 H0 (.cond c x y) K fr H Γ :=
  λa v e m A q=>wpIn_cond_false (e.sat.ev B) (h a v e m A q)
def ov_:Op->Bool
  | .defer _=>false
  | _=>true
theorem semAt_eq {o:Oper} (h:ov_ o.op=true) (ro:Option Nat) (ρ:Operand->Value):o.semAt ro ρ=execOp ρ o :=
  Oper.semAt_eq ro ρ o (λc e=>by rw[e]at h;cases h)
variable {ops:Array Oper} {l:List Oper} {d:Nat} {ty:TypeId} {ps:String} {af:Array Edge}
theorem tG_ {o:Oper} {a:Act} {w:World} {B C:Act->World->Prop} {Q:Exit->Act->World->Prop} (A:∀ a w,B a w->C a w) (h:o.wpIn F n P a w B Q):o.wpIn F n P a w C Q:=by
  refine⟨h.1,?_⟩;have m:=h.2;generalize (o.semAt F.round a.eval).run P w=r at m ⊢
  cases r with
  | ok nx w' =>
    cases nx<;>simp only[Oper.uponIn]at m ⊢<;>first|exact A _ _ m|exact m|skip
    case enter f args=>exact⟨m.1,m.2.mono λe y q=>by cases e<;>first|exact A _ _ q|exact q⟩
    case row row args=>exact⟨m.1,m.2.mono λv y q=>A _ _ q⟩
    case round l f tmps assign body=>exact⟨m.1,m.2.mono λe y q=>by cases e<;>first|exact A _ _ q|exact q⟩
  | halt x w'=>cases x<;>simp only[Oper.uponIn]at m ⊢<;>exact m
theorem dZ_ {o:Oper} (A:o.guard=none) (h:∀ a v,SatD N D fr a->v.sat H->v0.to H0 v H->af_ Γ v->o.wpIn F n P a v.w (wpListIn F n P ops (eg_ F n P R K) l) (eg_ F n P R K)) :
    fJ_ F n P R N D v0 H0 ops (o::l) K fr H Γ :=
  λa v q e y m=>wpListIn_plain A λB x=>tG_ x (h a v q e y m)
theorem U_ {e:Op} {x:Value} (E:Opn F) (A:Yld P N fr H Γ e ty x) (h:ov_ e=true) (C:Nat.blt d N=true)
    (hk:fJ_ F n P R N D v0 H0 ops l K ((d,x)::fr) H Γ):fJ_ F n P R N D v0 H0 ops (⟨some d,e,ty,ps,af,none⟩::l) K fr H Γ :=
  dZ_ rfl λa v y m B q=>by
    refine⟨λf _=>E.fn f,?_⟩;rw[semAt_eq h];have:=A ⟨a.tmps,[]⟩ v y.sat m q (some d) ps af;rw[show a.eval=Act.eval ⟨a.tmps,[]⟩ from rfl,this];exact hk _ v (y.put C) m B q
theorem wA_ {e:Op} {X:Bool} (v:Opn F) (m:Yld P N fr H Γ e ty (.bool X)) (h:ov_ e=true) (q:Nat.blt d N=true)
    (hk:∀ r:Bool,X=r->fJ_ F n P R N D v0 H0 ops l K ((d,.bool r)::fr) H Γ):fJ_ F n P R N D v0 H0 ops (⟨some d,e,ty,ps,af,none⟩::l) K fr H Γ :=
  U_ v m h q (hk X rfl)
theorem or_ {t:TypeId} {z:Value} (C:Opn F) (E:∀ w,(zeroValue t).run P w=.ok z w) (B:Nat.blt d N=true)
    (hk:∀ b,fJ_ F n P R N D v0 H0 ops l K ((d,.pointer (some ⟨b,0,none⟩))::fr) ((b,.cells z.cells t (0,0))::H) Γ):fJ_ F n P R N D v0 H0 ops (⟨some d,.alloc t,ty,ps,af,none⟩::l) K fr H Γ :=
  dZ_ rfl λa v A e q y=>by
    refine⟨λf _=>C.fn f,?_⟩;rw[semAt_eq rfl]
    have x:(execOp a.eval ⟨some d,.alloc t,ty,ps,af,none⟩).run P v.w=.ok (.value (.pointer (some ⟨v.w.heap.size,0,none⟩))) (v.w.alloc (.cells z.cells t (0,0))):=by
      simp[execOp,E,Instr.alloc,newVar,newRow,newObj];rfl
    rw[x];obtain⟨m,h⟩:=fO_ (w':=v.w.alloc (.cells z.cells t (0,0))) (o:=.cells z.cells t (0,0)) e rfl rfl rfl rfl (yaj_ _);exact hk v.w.heap.size _ ⟨v.im,_,v.sl⟩ (A.put B) m (q.trans h) (av_ (h.le e) y)
theorem ew_ {t:TypeId} {x y:Operand} {b off m:Nat} (J:Opn F) (i:Nat) {cur:Array Value} {T:TypeId} {u:Value} (S:∀ w,(sizeOf t).run P w=.ok m w)
    (U:Fr.ev fr x=some (.pointer (some ⟨b,off,none⟩))) (O:Fr.ev fr y=some u) (hi:H[i]? = some (b,.cells cur T (0,0))) (B:u.cells.size=m) (L:Nat.ble (off+m) cur.size=true) (A:u.cells.toList.all Value.oneCell'=true)
    (hk:fJ_ F n P R N D v0 H0 ops l K fr (H.set i (b,.cells (cur.toList.take off++u.cells.toList++cur.toList.drop (off+m)).toArray T (0,0))) Γ) :
    fJ_ F n P R N D v0 H0 ops (⟨none,.store t x y,ty,ps,af,none⟩::l) K fr H Γ :=
  dZ_ rfl λa v q h Q G=>by
    refine⟨λf _=>J.fn f,?_⟩;rw[semAt_eq rfl];have C:=(h.own _ (yad_ hi)).1;have e:=run_storeCells_at P b off T u.cells.toList 0 cur v.w C (by simp[B];exact yca_ L) (λc X=>yaW_.1 A c X)
    have W:(execOp a.eval ⟨none,.store t x y,ty,ps,af,none⟩).run P v.w=.ok .skip (v.w.setRow b (cur.toList.take off++u.cells.toList++cur.toList.drop (off+m)).toArray):=by
      simp only[ycl_,ybH_,B]at e;have V:a.eval x=.pointer (some ⟨b,off,none⟩):=q.sat.ev U;have I:a.eval y=u:=q.sat.ev O;simp[execOp,V,I,Instr.storeAt,Instr.sureAddr,storeVar,S,B,e]
    rw[W];obtain⟨M,E⟩:=eM_ (w':=v.w.setRow b (cur.toList.take off++u.cells.toList++cur.toList.drop (off+m)).toArray) h hi rfl rfl rfl (yaj_ _) zaj_ (setRow_heap _ _ _ _ _ _ C) (λk hk=>setRow_other _ _ _ _ hk);exact hk a _ q M (Q.trans E) (av_ (E.le h) G)
theorem wC_ {r:Nat} {f:FuncId} {xs:List Operand} {y:Array TypeId} {vs:List Value} {ι:Type} {Hc G:Hp} {J:List Fct} {q:ι->Value} {H':ι->Hp} {Γ':ι->List Fct}
    (C:Tri P f vs.toArray Hc J q H' Γ') (T:Fr.evs fr xs=some vs) (I:H.Perm (Hc++G)) (Q:∀ v,v.sat H->af_ Γ v->af_ J v) (W:Nat.blt d N=true)
    (hk:∀ x,fJ_ (Fence.wide.inRound r) n P R N D v0 H0 ops l K ((d,q x)::fr) (H' x++G) (Γ' x++Γ)) :
    fJ_ (Fence.wide.inRound r) n P R N D v0 H0 ops (⟨some d,.call ⟨.value (.func f),xs.toArray,y⟩,ty,ps,af,none⟩::l) K fr H Γ :=
  dZ_ rfl λa v E A S B=>by
    refine⟨λf _=>trivial,?_⟩;rw[semAt_eq rfl]
    have V:(execOp a.eval ⟨some d,.call ⟨.value (.func f),xs.toArray,y⟩,ty,ps,af,none⟩).run P v.w=.ok (.enter f vs.toArray) v.w:=by
      have U:xs.map a.eval=vs:=E.sat.evs T;simp[execOp,resolve,Deferred.ofValue,Act.eval,invoke,U,C.callable _ v.w]
    rw[V];have m:=A.perm I;refine⟨λh=>(by cases h),(rC_ (F:=Fence.wide) (C.run v m.sub (Q v A B)) r).mono ?_⟩;rintro e w' ⟨x,L,rfl,rfl,O,M,X⟩;obtain⟨k1,k2⟩:=X.frame m O;exact hk x _ L (E.put W) k1 (S.trans (k2.permL I.symm)) (eQ_.2 ⟨M,av_ (k2.le m) B⟩)
def jJ_ (P:Program) (l:Nat) (x:Value) (H:Hp) (Γ:List Fct) {ι:Type} (ret:ι->Value) (H':ι->Hp) (Γ':ι->List Fct):Prop :=
  ∀ v,v.sat H->af_ Γ v->∃ fn tmps assign body,(Instr.yield l #[x]).run P v.w=.ok (.round l fn tmps assign body) v.w/\
    ∀ n,RoundIn Fence.wide n P l fn tmps assign body v.w λe w'=>∃ x v',e=.returned (ret x)/\v'.w=w'/\v'.sat (H' x)/\af_ (Γ' x) v'/\v.to H v' (H' x)
theorem hH_ {r:Nat} {g y:Operand} {E:Array TypeId} {u:Value} {ι:Type} {Hc G:Hp} {Q:List Fct} {C:ι->Value} {H':ι->Hp} {Γ':ι->List Fct}
    (V:jJ_ P r u Hc Q C H' Γ') (T:Fr.ev fr g=some (.func (.yield r) #[] #[])) (Z:Fr.ev fr y=some u) (O:H.Perm (Hc++G)) (Y:∀ v,v.sat H->af_ Γ v->af_ Q v) (hN:Nat.blt d N=true)
    (hk:∀ x,fJ_ Fence.wide n P R N D v0 H0 ops l K ((d,C x)::fr) (H' x++G) (Γ' x++Γ)) :
    fJ_ Fence.wide n P R N D v0 H0 ops (⟨some d,.call ⟨.value g,#[y],E⟩,ty,ps,af,none⟩::l) K fr H Γ :=
  dZ_ rfl λa v I L h3 M=>by
    refine⟨λf _=>trivial,?_⟩;rw[semAt_eq rfl];have q:=L.perm O;obtain⟨fn,B,m,A,J,hR⟩:=V v q.sub (Y v L M)
    have he:(execOp a.eval ⟨some d,.call ⟨.value g,#[y],E⟩,ty,ps,af,none⟩).run P v.w=.ok (.round r fn B m A) v.w:=by
      have e1:a.eval g=.func (.yield r) #[] #[]:=I.sat.ev T;have W:a.eval y=u:=I.sat.ev Z;simp[execOp,resolve,Deferred.ofValue,e1,W,invoke,J]
    rw[he];refine⟨λh=>(by cases h),(hR _).mono ?_⟩;rintro e w' ⟨x,S,rfl,rfl,X,U,g3⟩;obtain⟨k1,k2⟩:=g3.frame q X;exact hk x _ S (I.put hN) k1 (h3.trans (k2.permL O.symm)) (eQ_.2 ⟨U,av_ (k2.le q) M⟩)
theorem gP_ {k:Act->World->Prop}:OkD N [] v0 H0 k fr H Γ↔Ok N v0 H0 k fr H Γ :=
  ⟨λh a v e m x q=>h a v ⟨⟨e.size,rfl,e.val⟩,e.defers⟩ m x q,λh a v e m x q=>h a v ⟨e.sat.size,e.defers,e.sat.val⟩ m x q⟩
end code
end Go.Sx
