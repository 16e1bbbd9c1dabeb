/-
  Lemmas for the law ModuleExtracts (no condition).
-/
import Derived.Test.YtbffkokbdeppaaaGreatDoorQModuleExtracts0
import Derived.WalkKit
import Derived.OrdersHeld
import Derived.Deep.LoopGhost
import Derived.RangeFuncIn
import Derived.RangeFuncLeaves
import Derived.TacticsIn
set_option linter.unusedVariables false
set_option linter.unusedSimpArgs false
set_option linter.unusedSectionVars false
set_option maxHeartbeats 1000000
namespace Go.Sx
open Go
structure Vw where
  im:Nat->Prop
  w:World
  sl:Prop
abbrev Fr:=List (Nat×Value)
abbrev Hp:=List (Nat×Obj)
def Fr.get:Fr->Nat->Option Value
  | [],_=>none
  | (t,v)::r,n=>bif Nat.beq t n then some v else Fr.get r n
structure Nf where
  n:Nat
  D:List Deferred
instance:Coe Nat Nf:=⟨λn=>⟨n,[]⟩⟩
structure Fr.sat (N:Nf) (fr:Fr) (a:Act):Prop where
  size:a.tmps.size=N.n
  defers:a.defers=N.D
  val:∀ t v,Fr.get fr t=some v->a.tmps[t]? = some v
structure Vw.sat (v:Vw) (H:Hp):Prop where
  own:∀ p,p∈H->v.w.heap[p.1]? = some p.2/\¬ v.im p.1
  nodup:(H.map Prod.fst).Nodup
  lt:∀ b,v.im b->b<v.w.heap.size
structure Vw.to (v:Vw) (H:Hp) (v':Vw) (H':Hp):Prop where
  os:v'.w.os=v.w.os
  tape:v'.w.tape=v.w.tape
  output:v'.w.output=v.w.output
  size:v.w.heap.size<=v'.w.heap.size
  block:∀ b,b<v.w.heap.size->b ∉ H.map Prod.fst->v'.w.heap[b]? = v.w.heap[b]?
  imUp:∀ b,v.im b->v'.im b
  imNew:∀ b,v'.im b->v.im b\/b∈H.map Prod.fst\/v.w.heap.size<=b
  hNew:∀ b,b∈H'.map Prod.fst->b∈H.map Prod.fst\/v.w.heap.size<=b
  sl:v'.sl=v.sl
  dr:v.sl\/v.w.drawn<=v'.w.drawn
structure Vw.le (v v':Vw):Prop where
  imUp:∀ b,v.im b->v'.im b
  block:∀ b,v.im b->v'.w.heap[b]? = v.w.heap[b]?
  sl:v'.sl=v.sl
structure Fct where
  p:Vw->Prop
  mono:∀ v v',v.le v'->p v->p v'
def aC_:List Fct->Vw->Prop
  | [],_=>True
  | f::l,v=>f.p v/\aC_ l v
theorem gD_ {a b:List Fct} {v:Vw}:aC_ (a++b) v↔aC_ a v/\aC_ b v:=by
  induction a<;>grind[aC_]
theorem ba_ {l:List Fct} {v d:Vw} (h:v.le d):aC_ l v->aC_ l d:=by
  induction l with
  | nil=>exact λ_=>trivial
  | cons f l ih=>exact λ⟨a,b⟩=>⟨f.mono _ _ h a,ih b⟩
theorem Vw.to.le {v d:Vw} {H H':Hp} (k:v.sat H) (h:v.to H d H'):v.le d :=
  ⟨h.imUp,λb e=>h.block b (k.lt b e) (λhm=>by
    obtain⟨p,o,rfl⟩:=yaM_.1 hm;exact (k.own p o).2 e),h.sl⟩
theorem Vw.to.refl (v:Vw) (H:Hp):v.to H v H :=
  ⟨rfl,rfl,rfl,yab_ _,λ_ _ _=>rfl,λ_ h=>h,λ_ h=>.inl h,λ_ h=>.inl h,rfl,.inr (yab_ _)⟩
theorem Vw.to.trans {a b c:Vw} {o u Hc:Hp} (h:a.to o b u) (k:b.to u c Hc):a.to o c Hc where
 os:=k.os.trans h.os
 tape:=k.tape.trans h.tape
 output:=k.output.trans h.output
 size:=yaI_ h.size k.size
 block:=λx e v=>by
   rw[k.block x (ybO_ e h.size) (λhm=>(h.hNew x hm).elim v (λhl=>by omega))];exact h.block x e v
 imUp:=λx e=>k.imUp x (h.imUp x e)
 imNew:=λx e=>by
   rcases k.imNew x e with d|d|d
   . exact h.imNew x d
   . exact .inr (h.hNew x d)
   . exact .inr (.inr (yaI_ h.size d))
 hNew:=λx e=>by
   rcases k.hNew x e with d|d
   . exact h.hNew x d
   . exact .inr (yaI_ h.size d)
 sl:=k.sl.trans h.sl
 dr:=by
   rcases h.dr with d|d
   . grind
   . rcases k.dr with y|y
     all_goals grind[sl]
theorem Vw.to.frame {v x:Vw} {H H' F:Hp} (B:v.sat (H++F)) (o:x.sat H') (h:v.to H x H') :
    x.sat (H'++F)/\v.to (H++F) x (H'++F):=by
  have u:=B.nodup;rw[yaz_,ybA_]at u;have I:∀ p,p∈F->p.1 ∉ H.map Prod.fst:=λp e hm=>u.2.2 _ hm _ (yaU_ e) rfl
  have y:∀ p,p∈F->p.1<v.w.heap.size:=λp e=>by
    have:=(B.own p (ybV_ _ e)).1
    grind
  have E:∀ p,p∈F->p.1 ∉ H'.map Prod.fst:=λp e hm=>by
    rcases h.hNew _ hm with d|d
    all_goals grind
  refine⟨⟨λp e=>?_,?_,o.lt⟩,?_⟩
  . rcases yaj_.1 e with d|d
    . exact o.own p d
    . have A:=B.own p (ybV_ _ d)
      refine⟨by rw[h.block _ (y p d) (I p d)];exact A.1,λhi=>?_⟩;rcases h.imNew _ hi with C|C|C
      all_goals grind
  . grind[sat.nodup]
  . refine⟨h.os,h.tape,h.output,h.size,λb k G=>h.block b k (λhm=>G ?_),h.imUp,λb k=>?_,λb k=>?_,h.sl,h.dr⟩
    . grind
    . rcases h.imNew b k with d|d|d
      all_goals grind
    . rw[yaz_]at k ⊢
      rcases yaj_.1 k with d|d
      . rcases h.hNew b d with A|A
        all_goals grind
      grind
theorem Vw.sat.perm {v:Vw} {H H':Hp} (h:v.sat H) (p:H.Perm H'):v.sat H' :=
  ⟨λx d=>h.own x (p.mem_iff.2 d),(p.map _).nodup_iff.1 h.nodup,h.lt⟩
theorem Vw.sat.sub {v:Vw} {H F:Hp} (h:v.sat (H++F)):v.sat H :=
  ⟨λx d=>h.own x (yaG_ _ d),by have:=h.nodup;grind,h.lt⟩
theorem Vw.to.permL {v k:Vw} {H K H':Hp} (h:v.to H k H') (p:H.Perm K):v.to K k H':=by
  have e:∀ b,b∈H.map Prod.fst↔b∈K.map Prod.fst:=λb=>(p.map _).mem_iff
  exact⟨h.os,h.tape,h.output,h.size,λb d o=>h.block b d (λhm=>o ((e b).1 hm)),h.imUp,
    λb d=>(h.imNew b d).imp id (Or.imp (e b).1 id),λb d=>(h.hNew b d).imp (e b).1 id,h.sl,h.dr⟩
theorem Vw.to.subR {v d:Vw} {H H' K:Hp} (h:v.to H d H') (p:∀ b,b∈K.map Prod.fst->b∈H'.map Prod.fst):v.to H d K :=
  ⟨h.os,h.tape,h.output,h.size,h.block,h.imUp,h.imNew,λb e=>h.hNew b (p b e),h.sl,h.dr⟩
def Ok (N:Nf) (v0:Vw) (H0:Hp) (k:Act->World->Prop) (fr:Fr) (H:Hp) (Γ:List Fct):Prop :=
  ∀ a v,Fr.sat N fr a->v.sat H->v0.to H0 v H->aC_ Γ v->k a v.w
inductive Kt where
  | seq (c:Code)
  | blk (id:Nat)
  | inv (J:Act->World->Prop)
def post (P:Program) (R:Exit->Act->World->Prop):List Kt->Exit->Act->World->Prop
  | [],e,a,w=>R e a w
  | .seq c::K,.normal,a,w=>c.wp P (post P R K) a w
  | .seq _::K,e,a,w=>post P R K e a w
  | .inv J::_,.normal,a,w=>J a w
  | .inv _::K,e,a,w=>post P R K e a w
  | .blk id::K,.exit id',a,w=>if id'=id then post P R K .normal a w else post P R K (.exit id') a w
  | .blk _::K,e,a,w=>post P R K e a w
theorem zF_ (P:Program) (R:Exit->Act->World->Prop) (K:List Kt) (a:Act) (w:World) (h:R .ret a w):post P R K .ret a w:=by
  induction K with
  | nil=>exact h
  | cons x K ih=>cases x<;>exact ih
def unw (id:Nat):List Kt->Option (List Kt)
  | []=>none
  | .blk i::K=>bif Nat.beq id i then some K else unw id K
  | .seq _::K=>unw id K
  | .inv _::K=>unw id K
theorem kh_ {P:Program} {R:Exit->Act->World->Prop} {d:Nat} {k:List Kt} {a:Act} {w:World} :
    ∀ {K:List Kt},unw d K=some k->post P R k .normal a w->post P R K (.exit d) a w
  | [],h,_=>by grind[unw]
  | .seq _::K,h,hp=>kh_ (K:=K) (by grind[unw]) hp
  | .inv _::K,h,hp=>kh_ (K:=K) (by grind[unw]) hp
  | .blk i::K,h,hp=>by
    simp only[unw]at h
    by_cases e:d=i
    . grind[Nat.beq_refl,post]
    . have:Nat.beq d i=false:=by
        grind[Nat.eq_of_beq_eq_true]
      rw[this,cond_false]at h;simp only[post,e,ycm_];exact kh_ h hp
def nxt:List Kt->Option (Code×List Kt)
  | .seq c::K=>some (c,K)
  | .blk _::K=>nxt K
  | _=>none
theorem qO_ {P:Program} {R:Exit->Act->World->Prop} {c:Code} {d:List Kt} {a:Act} {w:World} :
    ∀ {K:List Kt},nxt K=some (c,d)->c.wp P (post P R d) a w->post P R K .normal a w
  | [],h,_=>by grind[nxt]
  | .seq _::K,h,hp=>by simp only[nxt,yai_,ycl_]at h;obtain⟨rfl,rfl⟩:=h;exact hp
  | .blk _::K,h,hp=>qO_ (K:=K) (by grind[nxt]) hp
  | .inv _::K,h,_=>by grind[nxt]
def lf_:List Kt->Option (Act->World->Prop)
  | .inv J::_=>some J
  | .blk _::K=>lf_ K
  | _=>none
theorem tD_ {P:Program} {R:Exit->Act->World->Prop} {J:Act->World->Prop} {a:Act} {w:World} :
    ∀ {K:List Kt},lf_ K=some J->J a w->post P R K .normal a w
  | [],h,_=>by grind[lf_]
  | .inv _::K,h,hp=>by simp only[lf_,yai_]at h;subst h;exact hp
  | .blk _::K,h,hp=>tD_ (K:=K) (by grind[lf_]) hp
  | .seq _::K,h,_=>by grind[lf_]
def gt_:List Kt->Bool
  | []=>true
  | .blk _::K=>gt_ K
  | _=>false
theorem tE_ {P:Program} {R:Exit->Act->World->Prop} {a:Act} {w:World} :
    ∀ {K:List Kt},gt_ K=true->R .normal a w->post P R K .normal a w
  | [],_,hp=>hp
  | .inv _::K,h,_=>by grind[gt_]
  | .blk _::K,h,hp=>tE_ (K:=K) (by grind[gt_]) hp
  | .seq _::K,h,_=>by grind[gt_]
section code
variable {P:Program} {N:Nf} {v0:Vw} {H0:Hp} {R:Exit->Act->World->Prop} {K:List Kt} {fr:Fr} {H:Hp} {Γ:List Fct}
abbrev Run (P:Program) (R:Exit->Act->World->Prop) (N:Nf) (v0:Vw) (H0:Hp) (c:Code) (K:List Kt) (fr:Fr) (H:Hp) (Γ:List Fct):Prop :=
  Ok N v0 H0 (c.wp P (post P R K)) fr H Γ
abbrev Fin (P:Program) (R:Exit->Act->World->Prop) (N:Nf) (v0:Vw) (H0:Hp) (K:List Kt) (fr:Fr) (H:Hp) (Γ:List Fct):Prop :=
  Ok N v0 H0 (post P R K .normal) fr H Γ
abbrev Ops (P:Program) (R:Exit->Act->World->Prop) (N:Nf) (v0:Vw) (H0:Hp) (ops:Array Oper) (l:List Oper) (K:List Kt) (fr:Fr) (H:Hp) (Γ:List Fct):Prop :=
  Ok N v0 H0 (wpList P ops (post P R K) l) fr H Γ
theorem aq_ {x y:Code} (h:Run P R N v0 H0 x (.seq y::K) fr H Γ):Run P R N v0 H0 (.seq x y) K fr H Γ :=
  λa v u k A o=>wp_seq (wp_mono (h a v u k A o) λe a w d=>by cases e<;>exact d)
theorem cC_ {d:Nat} {c:Code} (h:Run P R N v0 H0 c (.blk d::K) fr H Γ):Run P R N v0 H0 (.block d c) K fr H Γ :=
  λa v x o y u=>wp_block (wp_mono (h a v x o y u) λe a w k=>by cases e<;>exact k)
theorem cQ_ (h:Fin P R N v0 H0 K fr H Γ):Run P R N v0 H0 .skip K fr H Γ :=
  λa v d k e o=>wp_skip (h a v d k e o)
theorem ge_ {d:Nat} {e:List Kt} (x:unw d K=some e) (h:Fin P R N v0 H0 e fr H Γ):Run P R N v0 H0 (.exit d) K fr H Γ :=
  λa v u k y o=>wp_exit (kh_ x (h a v u k y o))
theorem dU_ (h:Ok N v0 H0 (R .ret) fr H Γ):Run P R N v0 H0 .ret K fr H Γ :=
  λa v d k e o=>wp_ret (zF_ P R K a v.w (h a v d k e o))
theorem ac_ {c:Code} {d:List Kt} (x:nxt K=some (c,d)) (h:Run P R N v0 H0 c d fr H Γ):Fin P R N v0 H0 K fr H Γ :=
  λa v o e u k=>qO_ x (h a v o e u k)
theorem bE_ {J:Act->World->Prop} (u:lf_ K=some J) (h:Ok N v0 H0 J fr H Γ):Fin P R N v0 H0 K fr H Γ :=
  λa v k d o e=>tD_ u (h a v k d o e)
theorem sz_ (u:gt_ K=true) (h:Ok N v0 H0 (R .normal) fr H Γ):Fin P R N v0 H0 K fr H Γ :=
  λa v k d o e=>tE_ u (h a v k d o e)
theorem S_ {d:Nat} {l:List Oper} (h:Ops P R N v0 H0 l.toArray l K fr H Γ):Run P R N v0 H0 (.region d l.toArray false) K fr H Γ :=
  λa v o e u k=>wp_region_lit (h a v o e u k)
theorem ai_ {d:Array Oper} (h:Fin P R N v0 H0 K fr H Γ):Ops P R N v0 H0 d [] K fr H Γ :=
  λa v o e u k=>wpList_nil (h a v o e u k)
def Fr.ev (fr:Fr):Operand->Option Value
  | .tmp t=>Fr.get fr t
  | .const v=>some v
  | .global g=>some (.pointer (some ⟨g,0,none⟩))
  | .func f=>some (.func (.func f) #[] #[])
theorem Fr.sat.ev {a:Act} {x:Operand} {v:Value} (h:Fr.sat N fr a) (d:Fr.ev fr x=some v):a.eval x=v:=by
  cases x with
  | tmp t=>have:=h.val t v d;simp[Act.eval,this]
  | const c=>grind[Fr.ev,Act.eval]
  | global g=>grind[Fr.ev,Act.eval]
  | func f=>grind[Fr.ev,Act.eval]
theorem Fr.sat.put {a:Act} {d:Nat} {x:Value} (h:Fr.sat N fr a) (y:Nat.blt d N.n=true):Fr.sat N ((d,x)::fr) (a.put (some d) x):=by
 have o:d<N.n:=by grind[Nat.blt_eq]
 refine⟨by grind[Act.put,size],h.defers,λt v k=>?_⟩;simp only[Fr.get]at k
 by_cases e:d=t
 .grind[Nat.beq_refl,Act.put,size]
 have u:Nat.beq d t=false:=by
   grind[Nat.eq_of_beq_eq_true]
 rw[u,cond_false]at k;simp only[Act.put];rw[Array.getElem?_setIfInBounds_ne e];exact h.val t v k
theorem Cc_ {k:Act->World->Prop} (d:Fr) (A:∀ t v,Fr.get d t=some v->Fr.get fr t=some v) (h:Ok N v0 H0 k d H Γ):Ok N v0 H0 k fr H Γ :=
  λa v e o y u=>h a v ⟨e.size,e.defers,λt x B=>e.val t x (A t x B)⟩ o y u
def Fr.le:Fr->Fr->Prop
  | [],_=>True
  | (t,v)::r,fr=>Fr.get fr t=some v/\Fr.le r fr
theorem Fr.le_get {d fr:Fr} (h:Fr.le d fr):∀ t v,Fr.get d t=some v->Fr.get fr t=some v:=by
 induction d with
 | nil=>grind[get]
 | cons p r ih =>
   obtain⟨s,u⟩:=p;intro t v k;simp only[Fr.get]at k
   by_cases e:s=t
   . subst e
     simp only[ydh_,cond_true,yai_]at k;subst k;exact h.1
   . have o:Nat.beq s t=false:=by
       grind[Nat.eq_of_beq_eq_true]
     rw[o,cond_false]at k;exact ih h.2 t v k
theorem bc_ {k:Act->World->Prop} (d:Fr) (e:Fr.le d fr) (h:Ok N v0 H0 k d H Γ):Ok N v0 H0 k fr H Γ :=
  Cc_ d (Fr.le_get e) h
theorem em_ {k:Act->World->Prop} {H' F:Hp} {Γ':List Fct} (u:H.Perm (H'++F)) (e:∀ v,v.sat H->aC_ Γ v->aC_ Γ' v) (h:Ok N v0 H0 k fr H' Γ'):Ok N v0 H0 k fr H Γ :=
  λa v x d y o=>h a v x (d.perm u).sub (y.subR λb A=>by
    grind) (e v d o)
theorem fC_ {k:Act->World->Prop} {Γ':List Fct} (e:∀ v,v.sat H->aC_ Γ v->aC_ Γ' v) (h:Ok N v0 H0 k fr H Γ'):Ok N v0 H0 k fr H Γ :=
  λa v u d x o=>h a v u d x (e v d o)
theorem ok_get {k:Act->World->Prop} {p:Prop} (o:∀ v,v.sat H->aC_ Γ v->p) (h:p->Ok N v0 H0 k fr H Γ):Ok N v0 H0 k fr H Γ :=
  λa v u d x e=>h (o v d e) a v u d x e
theorem tn_ {c:Operand} {x y:Code} {t:Bool} (A:Fr.ev fr c=some (.bool t)) (B:t=true->Run P R N v0 H0 x K fr H Γ) (u:t=false->Run P R N v0 H0 y K fr H Γ) :
    Run P R N v0 H0 (.cond c x y) K fr H Γ :=
  λa v d h o k=>wp_cond_split (d.ev A) (λe=>B e a v d h o k) (λe=>u e a v d h o k)
theorem bT_ {c:Operand} {x y:Code} (d:Fr.ev fr c=some (.bool true)) (h:Run P R N v0 H0 x K fr H Γ):Run P R N v0 H0 (.cond c x y) K fr H Γ :=
  tn_ d (λ_=>h) (λe=>by cases e)
theorem bU_ {c:Operand} {x y:Code} (d:Fr.ev fr c=some (.bool false)) (h:Run P R N v0 H0 y K fr H Γ):Run P R N v0 H0 (.cond c x y) K fr H Γ :=
  tn_ d (λe=>by cases e) (λ_=>h)
def Bh_ {ι:Type} (N:Nf) (v0:Vw) (H0:Hp) (frs:ι->Fr) (Hs:ι->Hp) (Γs:ι->List Fct) (μ:ι->Nat) (n:Nat) (a:Act) (w:World):Prop :=
  ∃ j v,v.w=w/\Fr.sat N (frs j) a/\v.sat (Hs j)/\v0.to H0 v (Hs j)/\aC_ (Γs j) v/\μ j<n
theorem bs_ {ι:Type} {c:Code} (d:ι->Fr) (o:ι->Hp) (x:ι->List Fct) (μ:ι->Nat) (u:ι)
    (h:∀ i,Run P R N v0 H0 c (.inv (Bh_ N v0 H0 d o x μ (μ i))::K) (d i) (o i) (x i)) :
    Run P R N v0 H0 (.loop c) K (d u) (o u) (x u):=by
  intro a v G B L F;refine wp_loop_ghost (λn a w=>∃ i v,v.w=w/\Fr.sat N (d i) a/\v.sat (o i)/\v0.to H0 v (o i)/\aC_ (x i) v/\μ i=n) (μ u) ⟨u,v,rfl,G,B,L,F,rfl⟩ ?_;rintro n a w ⟨i,v,rfl,J,C,Q,I,rfl⟩;refine wp_mono (h i a v J C Q I) λe S w' k=>?_;cases e with
  | normal =>
    obtain⟨j,A,M,k1,k2,E,O,y⟩:=k;exact⟨μ j,y,j,A,M,k1,k2,E,O,rfl⟩
  | exit id=>exact k
  | goto l=>exact k
  | ret=>exact k
  | panic ch=>exact k
  | outgrown=>exact k
theorem Y_ {ι:Type} {c:Code} (d:ι->Fr) (o:ι->Hp) (k:ι->List Fct) (μ:ι->Nat) (h:ι) {F:Hp} (u:Fr.le (d h) fr) (y:H.Perm (o h++F)) (x:∀ v,v.sat H->aC_ Γ v->aC_ (k h) v)
    (e:∀ i,Run P R N v0 H0 c (.inv (Bh_ N v0 H0 d o k μ (μ i))::K) (d i) (o i) (k i)):Run P R N v0 H0 (.loop c) K fr H Γ :=
  bc_ _ u (em_ y x (bs_ d o k μ h e))
theorem w_ {ι:Type} {d:ι->Fr} {k:ι->Hp} {h:ι->List Fct} {μ:ι->Nat} {n:Nat} (j:ι) {F:Hp} (o:μ j<n) (e:Fr.le (d j) fr) (y:H.Perm (k j++F))
    (u:∀ v,v.sat H->aC_ Γ v->aC_ (h j) v):Ok N v0 H0 (Bh_ N v0 H0 d k h μ n) fr H Γ :=
  bc_ (d j) e (em_ y u λ_ v B x C A=>⟨j,v,rfl,B,x,C,A,o⟩)
end code
end Go.Sx
namespace Go.Sx
open Go
section ops
variable {P:Program} {N:Nf} {v0:Vw} {H0:Hp} {R:Exit->Act->World->Prop} {K:List Kt} {fr:Fr} {H:Hp} {Γ:List Fct}
variable {ops:Array Oper} {l:List Oper} {d:Nat} {ty:TypeId} {ps:String} {af:Array Edge}
theorem dl_ {o:Oper} (A:o.guard=none) (h:∀ a v,Fr.sat N fr a->v.sat H->v0.to H0 v H->aC_ Γ v->o.wp P a v.w (wpList P ops (post P R K) l) (post P R K)) :
    Ops P R N v0 H0 ops (o::l) K fr H Γ :=
  λa v u e y k=>wpList_plain A λB x=>Oper.wp_mono x (h a v u e y k)
def Yld (P:Program) (N:Nf) (fr:Fr) (H:Hp) (Γ:List Fct) (op:Op) (ty:TypeId) (x:Value):Prop :=
  ∀ a v,Fr.sat N fr a->v.sat H->aC_ Γ v->∀ d ps af,(execOp a.eval ⟨d,op,ty,ps,af,none⟩).run P v.w=.ok (.value x) v.w
theorem c_ {e:Op} {x:Value} (y:Yld P N fr H Γ e ty x) (B:Nat.blt d N.n=true)
    (u:Ops P R N v0 H0 ops l K ((d,x)::fr) H Γ):Ops P R N v0 H0 ops (⟨some d,e,ty,ps,af,none⟩::l) K fr H Γ :=
  dl_ rfl λa v o h A k=>by
    unfold Oper.wp;rw[y a v o h k (some d) ps af];exact u _ v (o.put B) h A k
theorem A_ {e:Op} {X:Bool} (k:Yld P N fr H Γ e ty (.bool X)) (o:Nat.blt d N.n=true)
    (h:∀ r:Bool,X=r->Ops P R N v0 H0 ops l K ((d,.bool r)::fr) H Γ):Ops P R N v0 H0 ops (⟨some d,e,ty,ps,af,none⟩::l) K fr H Γ :=
  by grind[c_]
def hR_ (ops:Array Oper) (j:Nat):Option Nat:=(ops[j]?).bind (·.dst)
theorem fN_ {a:Act} {j t:Nat} {x:Value} (h:Fr.sat N fr a) (k:hR_ ops j=some t) (o:Fr.get fr t=some x) :
    yielded ops a.tmps j=match x with|.bool b=>some b|_=>none:=by
  have e:((ops[j]?).bind (·.dst)).bind (a.tmps[·]?)=some x:=by
    show (hR_ ops j).bind _=_
    rw[k];exact h.val t x o
  unfold yielded;rw[e];cases x<;>rfl
theorem as_ {o:Op} {k:Option Nat} {j t:Nat} {e:Bool} (A:hR_ ops j=some t) (F:Fr.get fr t=some (.bool e))
    (h:Ops P R N v0 H0 ops (⟨k,o,ty,ps,af,none⟩::l) K fr H Γ):Ops P R N v0 H0 ops (⟨k,o,ty,ps,af,some (j,e)⟩::l) K fr H Γ :=
  λa v x B E C=>by
    have y:Region.wanted (⟨k,o,ty,ps,af,some (j,e)⟩:Oper) (yielded ops a.tmps)=true:=by
      simp[Region.wanted,fN_ x A F]
    have u:Region.wanted (⟨k,o,ty,ps,af,none⟩:Oper) (yielded ops a.tmps)=true:=rfl;have:=h a v x B E C;unfold wpList at this ⊢;rw[yax_ u]at this;rw[yax_ y];exact this
theorem gR_ {k:Op} {j t:Nat} {e:Bool} {x:Value} (y:hR_ ops j=some t) (G:Fr.get fr t=some x) (A:(match x with|.bool b=>Bool.xor b e|_=>true)=true) (F:Nat.blt d N.n=true)
    (h:Ops P R N v0 H0 ops l K ((d,undef)::fr) H Γ):Ops P R N v0 H0 ops (⟨some d,k,ty,ps,af,some (j,e)⟩::l) K fr H Γ :=
  λa v o B E C=>by
    have u:Region.wanted (⟨some d,k,ty,ps,af,some (j,e)⟩:Oper) (yielded ops a.tmps)=false:=by
      simp only[Region.wanted,fN_ o y G];cases x<;>first|rfl|grind
    exact wpList_skip u (h _ v (o.put F) B E C)
theorem P_ {x:Operand} {u:Value} (h:Fr.ev fr x=some u) :
    Yld P N fr H Γ (.move x) ty (u) :=
  λa v e _ _ _ _ _=>by rw[<-e.ev h];rfl
theorem X_ {x:Operand} {u:Value} (h:Fr.ev fr x=some u) :
    Yld P N fr H Γ (.assign x) ty (u) :=
  λa v e _ _ _ _ _=>by rw[<-e.ev h];rfl
theorem dY_ {c x y:Operand} {u:Value} (h:Fr.ev fr c=some (.bool true)) (k:Fr.ev fr x=some u) :
    Yld P N fr H Γ (.pick c x y) ty (u) :=
  λa v e _ _ _ _ _=>by simp[execOp,e.ev h,e.ev k,asBool]
theorem cO_ {c x y:Operand} {u:Value} (h:Fr.ev fr c=some (.bool false)) (k:Fr.ev fr y=some u) :
    Yld P N fr H Γ (.pick c x y) ty (u) :=
  λa v e _ _ _ _ _=>by simp[execOp,e.ev h,e.ev k,asBool]
theorem al_ {t o:TypeId} {x y:Operand} {k:IntKind} {m n:Int} (u:Fr.ev fr x=some (.int k m)) (h:Fr.ev fr y=some (.int k n)) :
    Yld P N fr H Γ (.binOp .eql t x y o) ty (.bool ((m==n))) :=
  λa v e _ _ _ _ _=>by simp[execOp,e.ev u,e.ev h,eqGuard,binOp,Op.intCmp]
theorem cP_ {t o:TypeId} {x y:Operand} {k:IntKind} {m n:Int} (u:Fr.ev fr x=some (.int k m)) (h:Fr.ev fr y=some (.int k n)) :
    Yld P N fr H Γ (.binOp .neq t x y o) ty (.bool ((m != n))) :=
  λa v e _ _ _ _ _=>by simp[execOp,e.ev u,e.ev h,eqGuard,binOp,Op.intCmp]
theorem dw_ {t o:TypeId} {x y:Operand} {k:IntKind} {m n:Int} (u:Fr.ev fr x=some (.int k m)) (h:Fr.ev fr y=some (.int k n)) :
    Yld P N fr H Γ (.binOp .lss t x y o) ty (.bool (decide (m<n))) :=
  λa v e _ _ _ _ _=>by simp[execOp,e.ev u,e.ev h,eqGuard,binOp,Op.intCmp]
theorem dx_ {t o:TypeId} {x y:Operand} {k:IntKind} {m n:Int} (u:Fr.ev fr x=some (.int k m)) (h:Fr.ev fr y=some (.int k n)) :
    Yld P N fr H Γ (.binOp .leq t x y o) ty (.bool (decide (m<=n))) :=
  λa v e _ _ _ _ _=>by simp[execOp,e.ev u,e.ev h,eqGuard,binOp,Op.intCmp]
theorem ec_ {t o:TypeId} {x y:Operand} {k:IntKind} {m n:Int} (u:Fr.ev fr x=some (.int k m)) (h:Fr.ev fr y=some (.int k n)) :
    Yld P N fr H Γ (.binOp .gtr t x y o) ty (.bool (decide (n<m))) :=
  λa v e _ _ _ _ _=>by simp[execOp,e.ev u,e.ev h,eqGuard,binOp,Op.intCmp]
theorem fc_ {t o:TypeId} {x y:Operand} {k:IntKind} {m n:Int} (u:Fr.ev fr x=some (.int k m)) (h:Fr.ev fr y=some (.int k n)) :
    Yld P N fr H Γ (.binOp .geq t x y o) ty (.bool (decide (n<=m))) :=
  λa v e _ _ _ _ _=>by simp[execOp,e.ev u,e.ev h,eqGuard,binOp,Op.intCmp]
def At_:BinOp->Int->Int->Option Int
  | .add,a,b=>some (a+b)
  | .sub,a,b=>some (a - b)
  | .mul,a,b=>some (a*b)
  | _,_,_=>none
theorem aT_ {e:BinOp} {t B:TypeId} {x y:Operand} {k:IntKind} {m n r:Int} (C:Fr.ev fr x=some (.int k m)) (A:Fr.ev fr y=some (.int k n)) (h:At_ e m n=some r) (u:k.wrap r=r) :
    Yld P N fr H Γ (.binOp e t x y B) ty (.int k r) :=
  λa v o _ _ _ _ _=>by
    cases e<;>simp only[At_,yai_,reduceCtorEq]at h<;>subst h <;>
      simp[execOp,o.ev C,o.ev A,eqGuard,binOp,Op.intArith,u]
theorem bB_ {r:Int} (e:-9223372036854775808<=r) (h:r<=9223372036854775807):IntKind.wrap .i64 r=r:=by
  grind[IntWalk.i64_in]
theorem aI_ {x:Operand} {t:TypeId} {b:Bool} (h:Fr.ev fr x=some (.bool b)) :
    Yld P N fr H Γ (.unOp .not t x) ty (.bool !b) :=
  λa v e _ _ _ _ _=>by simp[execOp,e.ev h,Op.unary]
def lg:List Value->Nat->Option Value
  | [],_=>none
  | x::_,0=>some x
  | _::r,n+1=>lg r n
theorem lg_eq:∀ (c:List Value) (i:Nat),lg c i=c[i]?
  | [],i=>by simp[lg]
  | x::r,0=>rfl
  | x::r,n+1=>by simpa [lg] using lg_eq r n
def tV_:List Value->Nat->Nat->Option (List Value)
  | _,_,0=>some []
  | c,off,n+1=>match lg c off with
    | some x=>match tV_ c (off+1) n with
      | some r=>some (x::r)
      | none=>none
    | none=>none
theorem rk_:∀ (n off:Nat) (c r:List Value),tV_ c off n=some r->r.length=n/\∀ j v,r[j]? = some v->c[off+j]? = some v
 | 0,off,c,r,h=>by grind[tV_]
 | n+1,off,c,r,h=>by
   simp only[tV_]at h
   split at h
   . rename_i x u
     split at h
     . rename_i q e
       simp only[yai_]at h;subst h;obtain⟨o,k⟩:=rk_ n (off+1) c q e
       grind[lg_eq]
     . cases h
   . cases h
theorem da_ (b off n:Nat):(⟨b,off,none⟩:Addr).add n=⟨b,off+n,none⟩:=by grind[Addr.add]
theorem cF_ {t:TypeId} {w:World} {ad:Addr} {x:Value} (h:∀ w,(isAgg t).run P w=.ok false w) (e:w.cell? ad=some x):(loadVar t ad).run P w=.ok x w:=by
  simp[loadVar,h,e]
theorem ep_ {t:TypeId} {w:World} {b off n:Nat} {cs:List Value} (e:∀ w,(isAgg t).run P w=.ok true w) (h:∀ w,(sizeOf t).run P w=.ok n w) (k:cs.length=n)
    (u:∀ j v,cs[j]? = some v->w.cell? ⟨b,off+j,none⟩=some v):(loadVar t ⟨b,off,none⟩).run P w=.ok (.agg cs.toArray) w:=by
  have:=run_loadCells_list (P:=P) w ⟨b,off,none⟩ cs (λj v o=>by grind[da_]);rw[k]at this;simp[loadVar,e,h,this]
theorem eZ_ {v:Vw} {i b:Nat} {cur:Array Value} {T:TypeId} {fz:Nat×Nat} (h:v.sat H) (hi:H[i]? = some (b,.cells cur T fz)) (j:Nat):v.w.cell? ⟨b,j,none⟩=cur.toList[j]? := by
  have:=(h.own _ (yad_ hi)).1
  grind[World.cell?]
theorem aK_ {t:TypeId} {x:Operand} {b off:Nat} (i:Nat) {cur:Array Value} {T:TypeId} {fz:Nat×Nat} {u:Value} (e:∀ w,(isAgg t).run P w=.ok false w)
    (k:Fr.ev fr x=some (.pointer (some ⟨b,off,none⟩))) (hi:H[i]? = some (b,.cells cur T fz)) (y:lg cur.toList off=some u) :
    Yld P N fr H Γ (.load t x) ty (u) :=
  λa v h o _ _ _ _=>by
    have:=cF_ (P:=P) (w:=v.w) e (show v.w.cell? ⟨b,off,none⟩=some u by grind[eZ_,lg_eq]);simp[execOp,h.ev k,Instr.loadAt,Instr.sureAddr,this]
theorem cx_ {t:TypeId} {x:Operand} {b off n:Nat} (i:Nat) {cur:Array Value} {T:TypeId} {fz:Nat×Nat} {us:List Value} (u:∀ w,(isAgg t).run P w=.ok true w) (h:∀ w,(sizeOf t).run P w=.ok n w)
    (k:Fr.ev fr x=some (.pointer (some ⟨b,off,none⟩))) (hi:H[i]? = some (b,.cells cur T fz)) (e:tV_ cur.toList off n=some us) :
    Yld P N fr H Γ (.load t x) ty (.agg us.toArray) :=
  λa v A B _ _ _ _=>by
    obtain⟨o,E⟩:=rk_ n off _ _ e;have:=ep_ (P:=P) (w:=v.w) (b:=b) (off:=off) u h o (λj y C=>by grind[eZ_]);simp[execOp,A.ev k,Instr.loadAt,Instr.sureAddr,this]
theorem hB_ {t:TypeId} {x:Operand} {ad:Addr} {u:Value} (y:Fr.ev fr x=some (.pointer (some ad))) (o:∀ v,v.sat H->aC_ Γ v->(loadVar t ad).run P v.w=.ok u v.w) :
    Yld P N fr H Γ (.load t x) ty (u) :=
  λa v k e h _ _ _=>by simp[execOp,k.ev y,Instr.loadAt,Instr.sureAddr,o v e h]
theorem gA_ {v:Vw} {w':World} {o:Obj} (h:v.sat H) (A:w'.heap=v.w.heap.push o) (C:w'.os=v.w.os) (G:w'.tape=v.w.tape) (E:w'.output=v.w.output) (B:v.w.drawn<=w'.drawn) :
    (⟨v.im,w',v.sl⟩:Vw).sat ((v.w.heap.size,o)::H)/\v.to H ⟨v.im,w',v.sl⟩ ((v.w.heap.size,o)::H):=by
  have y:∀ k,k<v.w.heap.size->w'.heap[k]? = v.w.heap[k]? := λk I=>by grind
  have x:∀ p,p∈H->p.1<v.w.heap.size:=λp e=>(yaC_.1 (h.own p e).1).1
  refine⟨⟨λp e=>?_,?_,λb u=>?_⟩,C,G,E,by simp[A],λb F _=>y b F,λ_ h=>h,λ_ h=>.inl h,λb u=>?_,rfl,.inr B⟩
  . rcases yar_.1 e with rfl|e
    . refine⟨by grind,λhi=>?_⟩
      have:=h.lt _ hi;grind
    . exact⟨by show w'.heap[p.1]? = _;rw[y _ (x p e)];exact (h.own p e).1,(h.own p e).2⟩
  . grind[Vw.sat.nodup]
  . have:=h.lt b u
    grind
  grind
theorem pt_ {h:Op} {β:Type} {x:β->Nat->Value} {o:β->Obj} (q:β->Prop) (Q:Nat.blt d N.n=true)
    (M:∀ a v,Fr.sat N fr a->v.sat H->aC_ Γ v->∃ y w',q y/\(execOp a.eval ⟨some d,h,ty,ps,af,none⟩).run P v.w=.ok (.value (x y v.w.heap.size)) w'/\w'.heap=v.w.heap.push (o y)/\w'.os=v.w.os/\w'.tape=v.w.tape/\w'.output=v.w.output/\v.w.drawn<=w'.drawn)
    (I:∀ y b,q y->Ops P R N v0 H0 ops l K ((d,x y b)::fr) ((b,o y)::H) Γ):Ops P R N v0 H0 ops (⟨some d,h,ty,ps,af,none⟩::l) K fr H Γ :=
  dl_ rfl λa v A e F u=>by
    obtain⟨y,w',L,E,B,J,S,O,G⟩:=M a v A e u;unfold Oper.wp;rw[E];obtain⟨C,k⟩:=gA_ e B J S O G;exact I y v.w.heap.size L _ ⟨v.im,w',v.sl⟩ (A.put Q) C (F.trans k) (ba_ (k.le e) u)
theorem in_ {e:Op} {x:Nat->Value} {o:Obj} (B:Nat.blt d N.n=true)
    (k:∀ a v,Fr.sat N fr a->v.sat H->aC_ Γ v->(execOp a.eval ⟨some d,e,ty,ps,af,none⟩).run P v.w=.ok (.value (x v.w.heap.size)) (v.w.alloc o))
    (h:∀ b,Ops P R N v0 H0 ops l K ((d,x b)::fr) ((b,o)::H) Γ):Ops P R N v0 H0 ops (⟨some d,e,ty,ps,af,none⟩::l) K fr H Γ :=
  pt_ (β:=Unit) (x:=λ_ b=>x b) (o:=λ_=>o) (λ_=>True) B (λa v A u y=>⟨(),v.w.alloc o,trivial,k a v A u y,rfl,rfl,rfl,rfl,yab_ _⟩) (λ_ b _=>h b)
theorem Q_ {t:TypeId} {x:Operand} {u:Value} (o:Fr.ev fr x=some u) (k:Nat.blt d N.n=true)
    (e:∀ b,Ops P R N v0 H0 ops l K ((d,.pointer (some ⟨b,0,none⟩))::fr) ((b,.cells u.cells t (0,0))::H) Γ):Ops P R N v0 H0 ops (⟨some d,.box t x,ty,ps,af,none⟩::l) K fr H Γ :=
  in_ (x:=λb=>.pointer (some ⟨b,0,none⟩)) k (λa v h _ _=>by simp[execOp,h.ev o,Instr.box,newVar,newRow,newObj];rfl) e
theorem K_ {t:TypeId} {z:Value} (k:∀ w,(zeroValue t).run P w=.ok z w) (h:Nat.blt d N.n=true)
    (e:∀ b,Ops P R N v0 H0 ops l K ((d,.pointer (some ⟨b,0,none⟩))::fr) ((b,.cells z.cells t (0,0))::H) Γ):Ops P R N v0 H0 ops (⟨some d,.alloc t,ty,ps,af,none⟩::l) K fr H Γ :=
  in_ (x:=λb=>.pointer (some ⟨b,0,none⟩)) h (λa v o _ _=>by simp[execOp,k,Instr.alloc,newVar,newRow,newObj];rfl) e
theorem fw_ {v:Vw} {i b:Nat} {o o':Obj} {w':World} (h:v.sat H) (hi:H[i]? = some (b,o)) (S:w'.os=v.w.os) (J:w'.tape=v.w.tape) (T:w'.output=v.w.output) (O:v.w.drawn<=w'.drawn) (G:w'.heap.size=v.w.heap.size)
    (I:w'.heap[b]? = some o') (C:∀ k,k≠b->w'.heap[k]? = v.w.heap[k]?):(⟨v.im,w',v.sl⟩:Vw).sat (H.set i (b,o'))/\v.to H ⟨v.im,w',v.sl⟩ (H.set i (b,o')):=by
  have hm:=yad_ hi
  have F:(H.set i (b,o')).map Prod.fst=H.map Prod.fst:=by
    rw[List.map_set]
    apply yaT_
    grind
  refine⟨⟨λp L=>?_,by grind[Vw.sat.nodup],λx E=>?_⟩,S,J,T,by simp[G],λx _ Q=>C x (λe=>Q ?_),λ_ h=>h,λ_ h=>.inl h,λx E=>.inl zap_,rfl,.inr O⟩
  . obtain⟨j,u⟩:=yaA_ L
    rw[yck_]at u
    split at u
    . rename_i y
      subst y
      split at u
      . simp only[yai_]at u;subst u
        exact⟨I,(h.own _ hm).2⟩
      . cases u
    . rename_i y
      have A:=yad_ u
      have B:p.1≠b:=λe=>by
        have M:=h.nodup;have V:(H.map Prod.fst)[i]? = some b:=by simp[hi]
        have U:(H.map Prod.fst)[j]? = some b:=by grind
        grind[List.getElem_inj]
      exact⟨by show w'.heap[p.1]? = _;rw[C _ B];exact (h.own p A).1,(h.own p A).2⟩
  . show x<w'.heap.size
    rw[G];exact h.lt x E
  grind
theorem o_ {t:TypeId} {x y:Operand} {b off n:Nat} (i:Nat) {cur:Array Value} {T:TypeId} {u:Value} (M:∀ w,(sizeOf t).run P w=.ok n w)
    (O:Fr.ev fr x=some (.pointer (some ⟨b,off,none⟩))) (J:Fr.ev fr y=some u) (hi:H[i]? = some (b,.cells cur T (0,0))) (A:u.cells.size=n) (G:Nat.ble (off+n) cur.size=true) (h:u.cells.toList.all Value.oneCell'=true)
    (B:Ops P R N v0 H0 ops l K fr (H.set i (b,.cells (cur.toList.take off++u.cells.toList++cur.toList.drop (off+n)).toArray T (0,0))) Γ) :
    Ops P R N v0 H0 ops (⟨none,.store t x y,ty,ps,af,none⟩::l) K fr H Γ :=
  dl_ rfl λa v C o L S=>by
    have E:=(o.own _ (yad_ hi)).1;have e:=run_storeCells_at P b off T u.cells.toList 0 cur v.w E (by simp[A];exact yaF_ G) (λc U=>ybn_.1 h c U)
    have Q:(execOp a.eval ⟨none,.store t x y,ty,ps,af,none⟩).run P v.w=.ok .skip (v.w.setRow b (cur.toList.take off++u.cells.toList++cur.toList.drop (off+n)).toArray):=by
      simp only[Nat.add_zero,ycr_,A]at e;simp[execOp,C.ev O,C.ev J,Instr.storeAt,Instr.sureAddr,storeVar,M,A,e]
    unfold Oper.wp;rw[Q];obtain⟨I,F⟩:=fw_ (w':=v.w.setRow b (cur.toList.take off++u.cells.toList++cur.toList.drop (off+n)).toArray) o hi rfl rfl rfl (yab_ _) zak_ (setRow_heap _ _ _ _ _ _ E) (λk B=>setRow_other _ _ _ _ B);exact B a _ C I (L.trans F) (ba_ (F.le o) S)
theorem bl_ {s:TypeId} {x:Operand} {f b off o:Nat} {h:Array Field} {e:Field} {n:Nat} (y:∀ w,(underlying s).run P w=.ok (.struct h) w) (B:Fr.ev fr x=some (.pointer (some ⟨b,off,none⟩))) (k:h[f]? = some e) (u:e.offset=o)
    (A:∀ w,(sizeOf e.type).run P w=.ok (n+1) w) :
    Yld P N fr H Γ (.fieldAddr s x f) ty (.pointer (some ⟨b,off+o,none⟩)) :=
  λa v C E _ _ _ _=>by simp[execOp,C.ev B,Instr.fieldAt,y,k,Instr.sureAddr,fieldPlace,A,da_,u]
theorem ka_ {t e:TypeId} {x y:Operand} {b off len cap n:Nat} {k:IntKind} {i:Int} (u:∀ w,(underlying t).run P w=.ok (.slice e) w) (B:∀ w,(sizeOf e).run P w=.ok n w)
    (C:Fr.ev fr x=some (.slice (some ⟨b,off,none⟩) len cap)) (o:Fr.ev fr y=some (.int k i)) (A:0<=i) (hl:i<len) :
    Yld P N fr H Γ (.indexAddr t x y) ty (.pointer (some ⟨b,off+i.toNat*n,none⟩)) :=
  λa v h E _ _ _ _=>by simp[execOp,h.ev C,h.ev o,Instr.indexAt,u,asIntOf,B,da_,A,hl]
theorem gL_ {t e:TypeId} {x y:Operand} {b off len n:Nat} {k:IntKind} {i:Int} (u:∀ w,(underlying t).run P w=.ok (.array len e) w) (B:∀ w,(sizeOf e).run P w=.ok n w)
    (C:Fr.ev fr x=some (.pointer (some ⟨b,off,none⟩))) (o:Fr.ev fr y=some (.int k i)) (A:0<=i) (hl:i<len) :
    Yld P N fr H Γ (.indexAddr t x y) ty (.pointer (some ⟨b,off+i.toNat*n,none⟩)) :=
  λa v h E _ _ _ _=>by simp[execOp,h.ev C,h.ev o,Instr.indexAt,u,asIntOf,B,Instr.sureAddr,da_,A,hl]
theorem qt_ {x:Operand} {ad:Addr} (h:Fr.ev fr x=some (.pointer (some ad))) :
    Yld P N fr H Γ (.nilCheck x) ty (.pointer (some ad)) :=
  λa v e k _ _ _ _=>by simp[execOp,e.ev h]
theorem dS_ {x:Operand} {t e:TypeId} {ad:Ao} {len cap:Nat} (k:∀ w,(underlying t).run P w=.ok (.slice e) w) (o:Fr.ev fr x=some (.slice ad len cap)) :
    Yld P N fr H Γ (.call ⟨.builtin .len,#[x],#[t]⟩) ty (.int .i64 (len:Int)) :=
  λa v h u _ _ _ _=>by simp[execOp,resolve,invoke,builtin,Builtin.len_,h.ev o,k,goInt]
theorem cf_ {x:Operand} {i:Nat} {e:Array Value} {u:Value} (o:Fr.ev fr x=some (.tuple e)) (h:lg e.toList i=some u) :
    Yld P N fr H Γ (.extract x i) ty (u) :=
  λa v k y _ _ _ _=>by
    rw[lg_eq,ybT_]at h;simp[execOp,k.ev o,Instr.extract,h]
def str (l:List UInt8):Value:=.string ⟨l.toArray⟩
theorem str_of (s:ByteArray):Value.string s=str s.data.toList:=rfl
theorem dR_ {t k:TypeId} {x y:Operand} {m n:List UInt8} (o:Fr.ev fr x=some (str m)) (h:Fr.ev fr y=some (str n)) :
    Yld P N fr H Γ (.binOp .eql t x y k) ty (.bool ((m==n))) :=
  λa v e _ _ _ _ _=>by simp[execOp,e.ev o,e.ev h,str,eqGuard,binOp,Op.stringOp]
theorem cY_ {t k:TypeId} {x y:Operand} {m n:List UInt8} (o:Fr.ev fr x=some (str m)) (h:Fr.ev fr y=some (str n)) :
    Yld P N fr H Γ (.binOp .neq t x y k) ty (.bool ((m != n))) :=
  λa v e _ _ _ _ _=>by simp[execOp,e.ev o,e.ev h,str,eqGuard,binOp,Op.stringOp,bne]
theorem bn_ {t o:TypeId} {x y:Operand} {m n:List UInt8} (u:Fr.ev fr x=some (str m)) (k:Fr.ev fr y=some (str n)) (hl:m.length+n.length<=9223372036854775807) :
    Yld P N fr H Γ (.binOp .add t x y o) ty (str (m++n)) :=
  λa v e _ _ _ _ _=>by
    have h:=run_string_add_sum (P:=P) v.w ⟨m.toArray⟩ ⟨n.toArray⟩ (by grind[ByteArray.size]);rw[ByteArray.mk_append_mk]at h;simp[execOp,e.ev u,e.ev k,str,eqGuard,binOp_string_add,h]
theorem cK_ {x:Operand} {t:TypeId} {m:List UInt8} (h:∀ w,(underlying t).run P w=.ok .string w) (k:Fr.ev fr x=some (str m)) :
    Yld P N fr H Γ (.call ⟨.builtin .len,#[x],#[t]⟩) ty (.int .i64 (m.length:Int)) :=
  λa v e o _ _ _ _=>by simp[execOp,resolve,invoke,builtin,Builtin.len_,e.ev k,h,goInt,str];rfl
theorem cr_ {x y:Operand} {t:TypeId} {m:List UInt8} {k:IntKind} {i:Int} {c:UInt8} (o:∀ w,(underlying t).run P w=.ok .string w) (B:Fr.ev fr x=some (str m)) (h:Fr.ev fr y=some (.int k i)) (u:0<=i) (C:m[i.toNat]? = some c) :
    Yld P N fr H Γ (.index t x y) ty (.int .u8 (c.toNat:Int)) :=
  λa v e E _ _ _ _=>by
    have hl:i.toNat<m.length:=(yaf_.1 C).1
    have A:(⟨m.toArray⟩:ByteArray)[i.toNat]? = some c:=by
      rw[ByteArray.getElem?_lt' _ _ (by grind[ByteArray.size])];have:(⟨m.toArray⟩:ByteArray)[i.toNat]'(by grind[ByteArray.size])=m[i.toNat]:=rfl
      grind
    simp[execOp,Instr.index,e.ev B,e.ev h,asIntOf,o,str,u,A]
def gp_ (P:Program) (f:FuncId):Prop:=∀ args w,(callFunc f args).run P w=.ok (.enter f args) w
theorem callable {f : FuncId} {fn : Func} {c : Code} (h : P.funcs[f]? = some fn) (k : fn.body = some c) (o : (fn.name == "runtime.NumGoroutine") = false) : gp_ P f := by
  intro args w;have e : ¬ fn.name = "runtime.NumGoroutine" := by grind
  simp[callFunc,run_program,h,k,e]
structure Tri (P:Program) (f:FuncId) (args:Array Value) (H:Hp) (Γ:List Fct) {ι:Type} (ret:ι->Value) (H':ι->Hp) (Γ':ι->List Fct):Prop where
  callable:gp_ P f
  run:∀ v,v.sat H->aC_ Γ v->Calls P f args v.w λe w'=>∃ x v',e=.returned (ret x)/\v'.w=w'/\v'.sat (H' x)/\aC_ (Γ' x) v'/\v.to H v' (H' x)
def Fr.evs (fr:Fr):List Operand->Option (List Value)
  | []=>some []
  | x::r=>match Fr.ev fr x with
    | some v=>match Fr.evs fr r with
      | some vs=>some (v::vs)
      | none=>none
    | none=>none
theorem Fr.sat.evs {a:Act} (h:Fr.sat N fr a):∀ {xs:List Operand} {vs:List Value},Fr.evs fr xs=some vs->xs.map a.eval=vs
 | [],vs,e=>by grind[Fr.evs]
 | x::r,vs,e=>by
   simp only[Fr.evs]at e
   split at e
   . rename_i u o
     split at e
     . rename_i us k
       simp only[yai_]at e;subst e;rw[yaE_,h.ev o,h.evs k]
     . cases e
   . cases e
theorem qU_ {y:Op} {f:FuncId} {A:List Value} {ι:Type} {Hc F:Hp} {E:List Fct} {k:ι->Value} {H':ι->Hp} {Γ':ι->List Fct}
    (S:Tri P f A.toArray Hc E k H' Γ') (Q:∀ a v,Fr.sat N fr a->(execOp a.eval ⟨some d,y,ty,ps,af,none⟩).run P v=.ok (.enter f A.toArray) v)
    (u:H.Perm (Hc++F)) (I:∀ v,v.sat H->aC_ Γ v->aC_ E v) (T:Nat.blt d N.n=true)
    (M:∀ x,Ops P R N v0 H0 ops l K ((d,k x)::fr) (H' x++F) (Γ' x++Γ)):Ops P R N v0 H0 ops (⟨some d,y,ty,ps,af,none⟩::l) K fr H Γ :=
  dl_ rfl λa v C o L B=>by
    unfold Oper.wp;rw[Q a v.w C];have h:=o.perm u;refine (S.run v h.sub (I v o B)).mono ?_;rintro e w' ⟨x,J,rfl,rfl,G,O,U⟩;obtain⟨k1,k2⟩:=U.frame h G;exact M x _ J (C.put T) k1 (L.trans (k2.permL u.symm)) (gD_.2 ⟨O,ba_ (k2.le h) B⟩)
theorem d_ {f:FuncId} {xs:List Operand} {h:Array TypeId} {k:List Value} {ι:Type} {Hc F:Hp} {u:List Fct} {e:ι->Value} {H':ι->Hp} {Γ':ι->List Fct}
    (o:Tri P f k.toArray Hc u e H' Γ') (B:Fr.evs fr xs=some k) (A:H.Perm (Hc++F)) (y:∀ v,v.sat H->aC_ Γ v->aC_ u v) (G:Nat.blt d N.n=true)
    (C:∀ x,Ops P R N v0 H0 ops l K ((d,e x)::fr) (H' x++F) (Γ' x++Γ)) :
    Ops P R N v0 H0 ops (⟨some d,.call ⟨.value (.func f),xs.toArray,h⟩,ty,ps,af,none⟩::l) K fr H Γ :=
  qU_ o (λa w E=>by
    have:=E.evs B;simp[execOp,resolve,Deferred.ofValue,Act.eval,invoke,this,o.callable _ w]) A y G C
theorem U_ {f:FuncId} {xs:List Operand} {e:Array TypeId} {h:List Value} {Hc F:Hp} {k:List Fct} {X:Bool}
    (x:Tri P f h.toArray Hc k (λ_:Unit=>.bool X) (λ_=>Hc) (λ_=>[])) (B:Fr.evs fr xs=some h) (y:H.Perm (Hc++F)) (u:∀ v,v.sat H->aC_ Γ v->aC_ k v) (A:Nat.blt d N.n=true)
    (o:∀ r:Bool,X=r->Ops P R N v0 H0 ops l K ((d,.bool r)::fr) (Hc++F) Γ) :
    Ops P R N v0 H0 ops (⟨some d,.call ⟨.value (.func f),xs.toArray,e⟩,ty,ps,af,none⟩::l) K fr H Γ :=
  d_ x B y u A λ_=>o X rfl
end ops
section body
variable {P:Program} {N:Nf} {fr:Fr} {H:Hp} {Γ:List Fct}
def lm_ {ι:Type} (v0:Vw) (H0:Hp) (ret:ι->Value) (H':ι->Hp) (Γ':ι->List Fct) (e:Ending) (w':World):Prop :=
  ∃ x v',e=.returned (ret x)/\v'.w=w'/\v'.sat (H' x)/\aC_ (Γ' x) v'/\v0.to H0 v' (H' x)
def mM_ (i:Nat):List Value->Fr
  | []=>[]
  | x::r=>(i,x)::mM_ (i+1) r
theorem lh_:∀ (l:List Value) (i t:Nat) (v:Value),Fr.get (mM_ i l) t=some v->i<=t/\l[t - i]? = some v
 | [],i,t,v,h=>by grind[mM_,Fr.get]
 | x::r,i,t,v,h=>by
   simp only[mM_,Fr.get]at h
   by_cases e:i=t
   . grind[Nat.beq_refl]
   . have k:Nat.beq i t=false:=by
       grind[Nat.eq_of_beq_eq_true]
     rw[k,cond_false]at h;obtain⟨u,o⟩:=lh_ r (i+1) t v h
     grind
theorem l_ {N:Nat} {f:FuncId} {fn:Func} {c:Code} {args:List Value} {ι:Type} {e:ι->Value} {H':ι->Hp} {Γ':ι->List Fct}
    (u : P.funcs[f]? = some fn) (y : fn.body = some c) (E : (fn.name == "runtime.NumGoroutine") = false) (G : fn.ntmps = N) (hl : Nat.ble args.length N = true)
    (h:∀ v0,Run P (bodyPost P fn (lm_ v0 H e H' Γ')) N v0 H c [] (mM_ 0 args) H Γ):Tri P f args.toArray H Γ e H' Γ':=by
  refine⟨callable u y E,λv F A=>calls_of_wp u y ?_⟩;have B:args.length<=N:=yaF_ hl;have:=h v ⟨args.toArray++Array.replicate (fn.ntmps - args.toArray.size) undef,[]⟩ v ⟨by simp[G];omega,rfl,λt x C=>?_⟩ F (Vw.to.refl _ _) A
  . exact this
  . obtain⟨_,o⟩:=lh_ args 0 t x C
    simp only[Nat.sub_zero]at o;have k:=(yaf_.1 o).1;rw[ybF_ zaM_];simpa using o
theorem W_ {N:Nat} {fn:Func} {t:Nat} {ι:Type} {v0:Vw} {H0 F:Hp} {ret:ι->Value} {H':ι->Hp} {Γ':ι->List Fct} (u:fn.results=#[.tmp t]) (x:ι) (A:Fr.get fr t=some (ret x)) (o:H.Perm (H' x++F))
    (h:∀ v,v.sat H->aC_ Γ v->aC_ (Γ' x) v):Ok N v0 H0 (bodyPost P fn (lm_ v0 H0 ret H' Γ') .ret) fr H Γ :=
  em_ o h λa v e k y B=>⟨e.defers,ret x,by rw[results_tmp u];have:=e.val t _ A;simp[this],x,v,rfl,rfl,k,B,y⟩
theorem gN_ {N:Nat} {fn:Func} {t s:Nat} {ι:Type} {v0:Vw} {H0 F:Hp} {ret:ι->Value} {H':ι->Hp} {Γ':ι->List Fct} {u o:Value} (C:fn.results=#[.tmp t,.tmp s]) (x:ι) (k:Fr.get fr t=some u) (e:Fr.get fr s=some o) (I:.tuple #[u,o]=ret x) (B:H.Perm (H' x++F))
    (y:∀ v,v.sat H->aC_ Γ v->aC_ (Γ' x) v):Ok N v0 H0 (bodyPost P fn (lm_ v0 H0 ret H' Γ') .ret) fr H Γ :=
  em_ B y λa v h A G L=>⟨h.defers,ret x,by rw[results_tmp2 C,<-I];have J:=h.val t _ k;have E:=h.val s _ e;simp[J,E],x,v,rfl,rfl,A,L,G⟩
theorem n_ {t:Nat} {x y:Bool} (h:Fr.get fr t=some (.bool x)) (e:x=y):Fr.get fr t=some (.bool y):=e▸h
theorem aV_ {t:Nat} {k:IntKind} {x y:Int} (h:Fr.get fr t=some (.int k x)) (e:x=y):Fr.get fr t=some (.int k y):=e▸h
theorem cN_ {t:Nat} {x y:List UInt8} (h:Fr.get fr t=some (str x)) (e:x=y):Fr.get fr t=some (str y):=e▸h
theorem cw_ {t:Nat} {x y:Value} (h:Fr.get fr t=some x) (e:x=y):Fr.get fr t=some y:=e▸h
abbrev Fn0 (P:Program) (f:FuncId) (args:Array Value) (ret:Value):Prop:=Tri P f args [] [] (λ_:Unit=>ret) (λ_=>[]) (λ_=>[])
end body
section cut
variable {P:Program} {N:Nf} {v0:Vw} {H0:Hp} {R:Exit->Act->World->Prop} {K:List Kt} {fr:Fr} {H:Hp} {Γ:List Fct}
def Mid (N:Nf) (v0:Vw) (H0:Hp) {ι:Type} (frs:ι->Fr) (Hs:ι->Hp) (Γs:ι->List Fct) (e:Exit) (a:Act) (w:World):Prop :=
  e=.normal/\∃ i v,v.w=w/\Fr.sat N (frs i) a/\v.sat (Hs i)/\v0.to H0 v (Hs i)/\aC_ (Γs i) v
theorem co_ {ι:Type} {c:Code} (h:ι->Fr) (k:ι->Hp) (o:ι->List Fct) (F:Run P (Mid N v0 H0 h k o) N v0 H0 c [] fr H Γ) (A:∀ i,Fin P R N v0 H0 K (h i) (k i) (o i)):Run P R N v0 H0 c K fr H Γ:=by
  intro a v x B I u;refine wp_mono (F a v x B I u) ?_;rintro e E w' ⟨rfl,i,y,rfl,k1,k2,C,G⟩;exact A i E y k1 k2 C G
theorem aA_ {ι:Type} {e:ι->Fr} {o:ι->Hp} {k:ι->List Fct} (i:ι) {F:Hp} (h:Fr.le (e i) fr) (y:H.Perm (o i++F)) (u:∀ v,v.sat H->aC_ Γ v->aC_ (k i) v) :
    Ok N v0 H0 (Mid N v0 H0 e o k .normal) fr H Γ :=
  bc_ (e i) h (em_ y u λ_ v B x C A=>⟨rfl,i,v,rfl,B,x,C,A⟩)
end cut
end Go.Sx
namespace Go.Sx
open Go
def bW_ (v:Vw) (ad:Ao) (cs:List Value):Prop :=
  cs=[]\/∃ b off arr T fz,ad=some ⟨b,off,none⟩/\v.im b/\v.w.heap[b]? = some (.cells arr T fz)/\∀ j x,cs[j]? = some x->arr[off+j]? = some x
def O_ (ad:Ao) (cs:List Value):Fct where
 p:=λv=>bW_ v ad cs
 mono:=λv v' h hp=>by
   rcases hp with hp|⟨b,off,arr,T,fz,h1,h2,h3,h4⟩
   . exact .inl hp
   . exact .inr ⟨b,off,arr,T,fz,h1,h.imUp b h2,by rw[h.block b h2];exact h3,h4⟩
def bas (ad:Ao):Addr:=ad.getD ⟨0,0,none⟩
def rad (ad:Ao) (k:Nat):Addr:=⟨(bas ad).block,(bas ad).off+k,none⟩
theorem bW_.addr {v:Vw} {ad:Ao} {cs:List Value} (h:bW_ v ad cs) (o:cs≠[]):∃ b off,ad=some ⟨b,off,none⟩:=by
  rcases h with h|⟨b,off,e,T,fz,k,_⟩
  all_goals grind
theorem bW_.cell {v:Vw} {ad:Ao} {cs:List Value} {k:Nat} {x:Value} (h:bW_ v ad cs) (u:cs[k]? = some x):v.w.cell? (rad ad k)=some x:=by
  rcases h with h|⟨b,off,e,T,fz,rfl,_,o,y⟩
  all_goals grind[rad,bas,World.cell?]
theorem bW_.drop {v:Vw} {ad:Ao} {cs:List Value} (h:bW_ v ad cs) (n:Nat) (e:List Value) (y:∀ j x,e[j]? = some x->cs[n+j]? = some x):bW_ v (ad.map (·.add n)) e:=by
 rcases h with h|⟨b,off,k,T,fz,rfl,o,u,B⟩
 .subst h
  left
  cases e with
  | nil=>rfl
  | cons d e=>have:=y 0 d rfl;grind
 exact .inr ⟨b,off+n,k,T,fz,by grind[da_],o,u,λj x A=>by grind⟩
theorem mN_ {α:Type} (f:α->List Value) (n:Nat) (e:∀ x,(f x).length=n):∀ (l:List α) (i j:Nat) (x:α),l[i]? = some x->j<n->(l.flatMap f)[i*n+j]? = (f x)[j]?
  | [],i,j,x,h,_=>by simp at h
  | y::l,0,j,x,h,hj=>by
    grind
  | y::l,i+1,j,x,h,hj=>by
    simp only[yaR_];rw[ybR_ zap_,e,show (i+1)*n+j - n=i*n+j by grind];exact mN_ f n e l i j x zap_ hj
theorem bV_ {α:Type} (f:α->List Value) (n:Nat) (e:∀ x,(f x).length=n):∀ (l:List α),(l.flatMap f).length=l.length*n
  | []=>by simp
  | y::l=>by simp only[yaR_,yae_,e,yap_,bV_ f n e l,ycE_];omega
section ops
variable {P:Program} {N:Nf} {v0:Vw} {H0:Hp} {R:Exit->Act->World->Prop} {K:List Kt} {fr:Fr} {H:Hp} {Γ:List Fct}
variable {ops:Array Oper} {l:List Oper} {d:Nat} {ty:TypeId} {ps:String} {af:Array Edge}
theorem J_ {t e:TypeId} {x y:Operand} {ad:Ao} {len cap n:Nat} {k:IntKind} {i:Int} (A:∀ w,(underlying t).run P w=.ok (.slice e) w) (C:∀ w,(sizeOf e).run P w=.ok n w)
    (E:Fr.ev fr x=some (.slice ad len cap)) (o:Fr.ev fr y=some (.int k i)) (F:∀ v,v.sat H->aC_ Γ v->∃ b off,ad=some ⟨b,off,none⟩) (B:0<=i) (hl:i<len) :
    Yld P N fr H Γ (.indexAddr t x y) ty (.pointer (some (rad ad (i.toNat*n)))) :=
  λa v h u G _ _ _=>by
    obtain⟨b,off,rfl⟩:=F v u G;simp[execOp,h.ev E,h.ev o,Instr.indexAt,A,asIntOf,C,da_,B,hl,rad,bas]
theorem bF_ {s:TypeId} {x:Operand} {f k o:Nat} {ad:Ao} {h:Array Field} {e:Field} {n:Nat} (A:∀ w,(underlying s).run P w=.ok (.struct h) w) (C:Fr.ev fr x=some (.pointer (some (rad ad k)))) (u:h[f]? = some e) (y:e.offset=o)
    (B:∀ w,(sizeOf e.type).run P w=.ok (n+1) w) :
    Yld P N fr H Γ (.fieldAddr s x f) ty (.pointer (some (rad ad (k+o)))) :=
  λa v E F _ _ _ _=>by simp[execOp,E.ev C,Instr.fieldAt,A,u,Instr.sureAddr,fieldPlace,B,rad,da_,y,Nat.add_assoc]
theorem aS_ {t:TypeId} {x:Operand} {ad:Ao} {k:Nat} {cs:List Value} {u:Value} (e:∀ w,(isAgg t).run P w=.ok false w) (B:Fr.ev fr x=some (.pointer (some (rad ad k))))
    (y:∀ v,v.sat H->aC_ Γ v->bW_ v ad cs) (A:cs[k]? = some u):Yld P N fr H Γ (.load t x) ty u :=
  hB_ B (λv h o=>cF_ e ((y v h o).cell A))
theorem ax_ {t:TypeId} {x:Operand} {ad:Ao} {k n:Nat} {cs us:List Value} (E:∀ w,(isAgg t).run P w=.ok true w) (u:∀ w,(sizeOf t).run P w=.ok n w) (A:Fr.ev fr x=some (.pointer (some (rad ad k))))
    (h:∀ v,v.sat H->aC_ Γ v->bW_ v ad cs) (B:us.length=n) (o:∀ j y,us[j]? = some y->cs[k+j]? = some y):Yld P N fr H Γ (.load t x) ty (.agg us.toArray) :=
  hB_ A (λv e F=>ep_ E u B (λj y C=>by
    have:=(h v e F).cell (o j y C)
    grind[rad]))
theorem fW_ {k:Act->World->Prop} {b:Nat} {o:Obj} {F:Hp} (f:Fct) (C:H.Perm ((b,o)::F)) (L:∀ v:Vw,v.im b->v.w.heap[b]? = some o->aC_ Γ v->f.p v) (h:Ok N v0 H0 k fr F (f::Γ)):Ok N v0 H0 k fr H Γ:=by
 intro a v O G u J;have g:=G.perm C;have I:=g.own (b,o) (yaq_);have M:b<v.w.heap.size:=(yaC_.1 I.1).1;have y:=g.nodup;rw[yaE_,yby_]at y;have B:v.le ⟨λx=>v.im x\/x=b,v.w,v.sl⟩:=⟨λx e=>.inl e,λ_ _=>rfl,rfl⟩;have A:b∈H.map Prod.fst:=(C.map Prod.fst).mem_iff.2 zak_;refine h a ⟨λx=>v.im x\/x=b,v.w,v.sl⟩ O ⟨λp E=>⟨(g.own p (yaN_ _ E)).1,λhi=>?_⟩,y.2,λx e=>?_⟩ ?_ ⟨L _ (.inr rfl) I.1 (ba_ B J),ba_ B J⟩
 .rcases hi with hi|hi
  .exact (g.own p (yaN_ _ E)).2 hi
  grind
 .rcases e with e|e
  .exact G.lt x e
  grind
 refine⟨u.os,u.tape,u.output,u.size,u.block,λx e=>.inl (u.imUp x e),λx e=>?_,λx e=>u.hNew x ((C.map Prod.fst).mem_iff.2 zap_),u.sl,u.dr⟩;rcases e with e|e
 .exact u.imNew x e
 exact .inr (e▸u.hNew b A)
def av_ (e:TypeId) (sz:Nat) (sv:Value) (n:Nat) (xs:List Value) (Hr:Hp):Prop :=
  xs.length=n*sz/\((sv=.slice none 0 0/\n=0/\Hr=[])\/
    ∃ g cap cur,sv=.slice (some ⟨g,0,none⟩) n cap/\Hr=[(g,.cells cur e (0,0))]/\n<=cap/\cap<=maxLen/\cur.size=cap*sz/\cur.toList.take (n*sz)=xs)
theorem av_.nil (e:TypeId) (sz:Nat):av_ e sz (.slice none 0 0) 0 [] []:=⟨by simp,.inl ⟨rfl,rfl,rfl⟩⟩
theorem av_.owns {e:TypeId} {sz n:Nat} {sv:Value} {xs:List Value} {Hr F:Hp} {v:Vw} (h:av_ e sz sv n xs Hr) (u:v.sat (Hr++F)):v.w.ownsRow 0 e sz sv n xs:=by
 refine⟨h.1,?_⟩;rcases h.2 with⟨k,B,_⟩|⟨g,cap,cur,k,rfl,o,y,A,x⟩
 .grind
 exact .inr ⟨g,cap,cur,k,yaV_ _,(u.own (g,.cells cur e (0,0)) zak_).1,o,y,A,x⟩
theorem rr_ {e:TypeId} {sz n Q:Nat} {sv I:Value} {xs ys:List Value} {Hr F:Hp} {v:Vw} {w':World} (h:av_ e sz sv n xs Hr) (C:v.sat (Hr++F)) (O:w'.ownsRow 0 e sz I Q ys) (x:v.w.grownBy w' sv.ownBlock) (T:v.w.drawn<=w'.drawn)
    (E:∀ g,I.ownBlock=some g->sv.ownBlock=some g\/v.w.heap.size<=g) :
    ∃ k,av_ e sz I Q ys k/\(⟨v.im,w',v.sl⟩:Vw).sat (k++F)/\v.to (Hr++F) ⟨v.im,w',v.sl⟩ (k++F):=by
  have M:∀ p,p∈Hr++F->p.1<v.w.heap.size:=λp o=>(yaC_.1 (C.own p o).1).1
  have y:∀ b,sv.ownBlock=some b->b∈Hr.map Prod.fst:=λb A=>by
    rcases h.2 with⟨rfl,_,_⟩|⟨g,cap,cur,rfl,rfl,_⟩
    all_goals grind[Value.ownBlock]
  have B:=C.nodup;rw[yaz_,ybA_]at B;have Y:∀ p,p∈F->some p.1≠sv.ownBlock:=λp o e=>B.2.2 _ (y p.1 e.symm) _ (yaU_ o) rfl
  have G:∀ p,p∈F->w'.heap[p.1]? = some p.2/\¬ v.im p.1:=λp o=>by
    have:=C.own p (ybV_ _ o);exact⟨by rw[x.block _ (M p (ybV_ _ o)) (Y p o)];grind,this.2⟩
  have J:∀ k:Hp,(∀ b,b∈k.map Prod.fst->b∈Hr.map Prod.fst\/v.w.heap.size<=b)->v.to (Hr++F) ⟨v.im,w',v.sl⟩ (k++F):=λk hh=>by
    refine⟨x.os,x.tape,x.output,x.size,λb A hn=>x.block b A (λe=>hn ?_),λ_ h=>h,λ_ h=>.inl h,λb A=>?_,rfl,.inr T⟩
    all_goals grind
  rcases O.2 with⟨L,U⟩|⟨g,cap,cur,L,_,Z,V,W,h6,X⟩
  . refine⟨[],⟨O.1,.inl ⟨L,U,rfl⟩⟩,⟨λp o=>G p zap_,by grind,λb A=>ybO_ (C.lt b A) x.size⟩,J [] zak_⟩
  . have u:g∈Hr.map Prod.fst\/v.w.heap.size<=g:=(E g (by rw[L];rfl)).imp (y g) id
    refine⟨[(g,.cells cur e (0,0))],⟨O.1,.inr ⟨g,cap,cur,L,rfl,V,W,h6,X⟩⟩,⟨λp o=>?_,?_,λb A=>ybO_ (C.lt b A) x.size⟩,J _ zap_⟩
    . rcases yaj_.1 o with o|o
      . simp only[yal_]at o
        subst o;refine⟨Z,λhi=>?_⟩;rcases u with u|u
        . obtain⟨q,S,rfl⟩:=yaM_.1 u
          exact (C.own q (yaG_ _ S)).2 hi
        . have:=C.lt _ hi;omega
      grind
    . simp only[yaz_,yaE_,ybz_,List.singleton_append,yby_]
      refine⟨λhm=>?_,B.2.1⟩;obtain⟨q,S,e⟩:=yaM_.1 hm
      grind
theorem mt_ (w:World) {t k e:TypeId} {i:TypeInfo} {z:Value} {n m c sz:Nat} {sv J:Value} {w':World} {xs news:List Value} {ad:Addr} (B:P.underlying t=some (.slice e)) (hi:P.info? e=some i) (L:i.zero=some z)
    (E:i.size=sz) (o:w.ownsRow 0 e sz sv n xs) (hl:news.length=m*sz) (h:∀ j u,news[j]? = some u->w.cell? (ad.add j)=some u) (O:∀ u∈news,u.oneCell'=true) (Q:n+m<=maxLen) (M:(n+m)*i.bytes<=140737488355328)
    (x:(Builtin.append_ #[t,t] k #[sv,.slice (some ad) m c]).run P w=.ok J w'):w.drawn<=w'.drawn/\∀ g,J.ownBlock=some g->sv.ownBlock=some g\/w.heap.size<=g:=by
  subst E;have A:n+m<=9223372036854775807:=by grind[maxLen]
  rcases o.2 with⟨rfl,rfl⟩|⟨b,cap,cur,rfl,_,G,S,_,I,F⟩
  . by_cases hm:m=0
    . subst hm
      have T:news=[]:=yau_ zap_;subst T
      have:(Builtin.append_ #[t,t] k #[.slice none 0 0,.slice (some ad) 0 c]).run P w=.ok (.slice none 0 0) w:=by
        simp[Builtin.append_,run_underlying B,sizeOf,typeInfo,hi,Builtin.lenOf,Builtin.firstCells,loadCells,loadCellsFrom]
      grind
    . have:=run_append_nil (P:=P) w t k e i z B hi L ad m c news hl h zaa_ zaa_ zap_
      rw[this]at x;cases x;refine⟨by simp,λg C=>?_⟩
      grind[Value.ownBlock]
  . by_cases v:n+m<=cap
    . have y:n*i.size+news.length<=cur.size:=by rw[hl,I,<-ycE_];exact ybc_ _ v
      have:=run_append_room (P:=P) w t k e i B hi b n cap cur G ad m c news hl h O v y;rw[this]at x;cases x;exact⟨by simp,λg C=>.inl C⟩
    . have aC_:∀ j u,xs[j]? = some u->w.cell? ((⟨b,0,none⟩:Addr).add j)=some u:=o.cells (g:=b) rfl
      have:=run_append_grow (P:=P) w t k e i z B hi L ⟨b,0,none⟩ n cap xs o.1 aC_ ad m c news hl h zaa_ zaa_ (growslice_fits zaa_ M);rw[this]at x;cases x;refine⟨by simp,λg C=>?_⟩
      grind[Value.ownBlock]
structure Elt (P:Program) (t e:TypeId) (sz by':Nat):Prop where
  und:P.underlying t=some (.slice e)
  info:∃ i z,P.info? e=some i/\i.zero=some z/\i.size=sz/\i.bytes=by'/\z.cells.size=sz
  pos:0<sz
theorem am_ {x y:Operand} {t e:TypeId} {sz by' n m c:Nat} {sv:Value} {xs news:List Value} {Hr F:Hp} {ad:Addr} (C:Elt P t e sz by') (k:av_ e sz sv n xs Hr)
    (hx:Fr.ev fr x=some sv) (Y:Fr.ev fr y=some (.slice (some ad) m c)) (I:H.Perm (Hr++F)) (hl:news.length=m*sz) (o:∀ v,v.sat H->aC_ Γ v->∀ j u,news[j]? = some u->v.w.cell? (ad.add j)=some u) (B:∀ u∈news,u.oneCell'=true)
    (A:n+m<=maxLen) (U:(n+m)*by'<=140737488355328) (hN:Nat.blt d N.n=true)
    (V:∀ sv' h,av_ e sz sv' (n+m) (xs++news) h->Ops P R N v0 H0 ops l K ((d,sv')::fr) (h++F) Γ) :
    Ops P R N v0 H0 ops (⟨some d,.call ⟨.builtin .append,#[x,y],#[t,t]⟩,ty,ps,af,none⟩::l) K fr H Γ :=
  dl_ rfl λa v G E h3 L=>by
    obtain⟨i,z,hi,M,es,X,Z⟩:=C.info;have g:=E.perm I;have S:=o v E L;have O:=k.owns g;obtain⟨T,w',Q,W,q2,_⟩:=run_append_own (P:=P) v.w 0 t ty e i z sz by' C.und hi M es X Z C.pos sv n xs O ad m c news hl S B A U (yaV_ _)
    obtain⟨a1,a2⟩:=mt_ v.w C.und hi M es O hl S B A zap_ Q;obtain⟨h,k1,k2,J⟩:=rr_ k g W q2 a1 a2;unfold Oper.wp execOp;simp only[resolve,invoke,builtin,Sem.run_bind,Sem.run_pure,Result.andThen_ok,ybd_,yaE_,ybz_,G.ev hx,G.ev Y,Q];exact V T h k1 _ ⟨v.im,w',v.sl⟩ (G.put hN) k2 (h3.trans (J.permL I.symm)) (ba_ ((J.permL I.symm).le E) L)
theorem xk_ {t:TypeId} {parts:Array (Nat×Operand)} {u:Value} (o:∀ a:Act,Fr.sat N fr a->∀ w,(Instr.build t (parts.map λ(i,x)=>(i,a.eval x))).run P w=.ok u w) :
    Yld P N fr H Γ (.build t parts) ty (u) :=
  λa v k e h _ _ _=>by
    grind[execOp,Sem.run_bind,Result.andThen_ok,Sem.run_pure]
def Fr.evp (fr:Fr):List (Nat×Operand)->Option (List (Nat×Value))
  | []=>some []
  | (i,x)::r=>match Fr.ev fr x with
    | some v=>match Fr.evp fr r with
      | some vs=>some ((i,v)::vs)
      | none=>none
    | none=>none
theorem Fr.sat.evp {a:Act} (h:Fr.sat N fr a):∀ {xs:List (Nat×Operand)} {vs:List (Nat×Value)},Fr.evp fr xs=some vs->xs.map (λ(i,x)=>(i,a.eval x))=vs
 | [],vs,e=>by grind[Fr.evp]
 | (i,x)::r,vs,e=>by
   simp only[Fr.evp]at e
   split at e
   . rename_i u o
     split at e
     . rename_i us k
       simp only[yai_]at e;subst e;show (i,a.eval x)::_=_
       rw[h.ev o];exact yag_ _ (h.evp k)
     . cases e
   . cases e
def ow_:List Value->Nat->List Value->List Value
  | cs,0,[]=>cs
  | _::cs,0,v::vs=>v::ow_ cs 0 vs
  | c::cs,n+1,vs=>c::ow_ cs n vs
  | [],_,_=>[]
theorem tS_:∀ (cs:List Value) (n:Nat),ow_ cs n []=cs
  | [],0=>rfl
  | [],n+1=>rfl
  | c::cs,0=>rfl
  | c::cs,n+1=>by simp only[ow_];rw[tS_ cs n]
theorem rh_:∀ (cs:List Value) (n:Nat) (v:Value) (e:List Value),ow_ cs n (v::e)=ow_ (cs.set n v) (n+1) e
  | [],0,v,e=>by simp[ow_]
  | [],n+1,v,e=>by simp[ow_]
  | c::cs,0,v,e=>by simp[ow_]
  | c::cs,n+1,v,e=>by simp only[ow_,ycy_];rw[rh_ cs n v e]
theorem ru_ (off:Nat):∀ (e:List Value) (k:Nat) (cs:List Value),
    (e.zipIdx k).foldl (λ(cs:Array Value) (p:Value×Nat)=>cs.setIfInBounds (off+p.2) p.1) cs.toArray=(ow_ cs (off+k) e).toArray
  | [],k,cs=>by simp[tS_]
  | v::e,k,cs=>by
    simp only[List.zipIdx_cons,List.foldl_cons];rw[rh_,show cs.toArray.setIfInBounds (off+k) v=(cs.set (off+k) v).toArray by simp,ru_ off e (k+1)];rfl
def pS_ (place:Nat->Option (Nat×Nat)):List Value->List (Nat×Value)->Option (List Value)
  | cells,[]=>some cells
  | cells,(i,v)::rest=>match place i with
    | none=>none
    | some (off,size)=>bif Nat.beq v.cells.toList.length size&&Nat.ble (off+size) cells.length then pS_ place (ow_ cells off v.cells.toList) rest else none
theorem mk_ (e:Nat->Option (Nat×Nat)):∀ (k:List (Nat×Value)) (cells cs:List Value),pS_ e cells k=some cs->Instr.fill e cells.toArray k=some cs.toArray
  | [],cells,cs,h=>by simp only[pS_,yai_]at h;subst h;rfl
  | (i,v)::rest,cells,cs,h=>by
    simp only[pS_]at h;cases hp:e i with
    | none=>grind
    | some q =>
      obtain⟨off,size⟩:=q;rw[hp]at h;simp only at h;cases hb:(Nat.beq v.cells.toList.length size&&Nat.ble (off+size) cells.length) with
      | false=>grind
      | true =>
        rw[hb,cond_true]at h;simp only[yaJ_]at hb;have o:v.cells.size=size:=by grind[Nat.eq_of_beq_eq_true]
        have x:off+size<=cells.length:=yaF_ hb.2;have u:=mk_ e rest _ _ h;have y:=ru_ off v.cells.toList 0 cells
        grind[Array.toList_zipIdx,Instr.fill]
def iJ_ (P:Program) (t:TypeId) (pl:List (Nat×Nat)) (z:List Value):Prop :=
  ∃ fs:Array Field,(∀ w,(zeroValue t).run P w=.ok (.agg z.toArray) w)/\(∀ w,(underlying t).run P w=.ok (.struct fs) w)/\(∀ w,(fs.mapM (λ(f:Field)=>(do pure (f.offset,<-sizeOf f.type):Sem (Nat×Nat)))).run P w=.ok pl.toArray w)
theorem x_ {t:TypeId} {parts:List (Nat×Operand)} {e:List (Nat×Value)} {pl:List (Nat×Nat)} {z cs:List Value} (u:iJ_ P t pl z) (x:Fr.evp fr parts=some e) (k:pS_ (λi=>pl[i]?) z e=some cs) :
    Yld P N fr H Γ (.build t parts.toArray) ty (.agg cs.toArray) :=
  xk_ (λa B w=>by
    obtain⟨C,y,o,A⟩:=u;have:=B.evp x;rw[ybd_,this];have h:=mk_ _ _ _ _ k;have v:Instr.fill (λi=>pl.toArray[i]?) z.toArray e=some cs.toArray:=by simpa using h
    simp only[Instr.build,Sem.run_bind,y,Result.andThen_ok,o,A,Value.cells,v,Sem.run_pure])
def kq_ (z:List Value):Nat->List Value
  | 0=>[]
  | n+1=>z++kq_ z n
theorem sS_ (z:List Value) (e:0<z.length):∀ (n i:Nat),i<n*z.length->(kq_ z n)[i]? = z[i%z.length]?
 | 0,i,h=>by simp at h
 | n+1,i,h=>by
   simp only[kq_]
   by_cases hi:i<z.length
   . grind[Nat.mod_eq_of_lt]
   . rw[ybR_ zaa_,sS_ z e n (i - z.length) zap_]
     grind[Nat.mod_eq_sub_mod]
theorem oQ_ (z:List Value):∀ n,(kq_ z n).length=n*z.length
  | 0=>by simp[kq_]
  | n+1=>by simp only[kq_,yae_,oQ_ z n,ycE_];omega
theorem kZ_ (z:List Value) (e:0<z.length) (n:Nat):(Array.range (n*z.length)).map (λi=>z.toArray[i%z.toArray.size]!)=(kq_ z n).toArray:=by
  apply Array.ext'
  apply yaT_
  grind[sS_,oQ_]
theorem p_ {t e:TypeId} {len sz:Nat} {parts:List (Nat×Operand)} {E:List (Nat×Value)} {o:Value} {cs:List Value} (I:∀ w,(underlying t).run P w=.ok (.slice e) w) (J:∀ w,(sizeOf e).run P w=.ok sz w) (S:∀ w,(zeroValue e).run P w=.ok o w)
    (B:o.cells.toList.length=sz) (T:Nat.blt 0 (len*sz)=true) (A:Nat.ble (len*sz) 16777216=true) (L:Fr.evp fr parts=some E) (G:pS_ (λi=>some (i*sz,sz)) (kq_ o.cells.toList len) E=some cs) (M:Nat.blt d N.n=true)
    (O:∀ b,Ops P R N v0 H0 ops l K ((d,.slice (some ⟨b,0,none⟩) len len)::fr) ((b,.cells cs.toArray e (0,0))::H) Γ):Ops P R N v0 H0 ops (⟨some d,.buildSlice t len parts.toArray,ty,ps,af,none⟩::l) K fr H Γ :=
  in_ (x:=λb=>.slice (some ⟨b,0,none⟩) len len) M (λa v Q U V=>by
    have u:=Q.evp L;have h:=mk_ _ _ _ _ G;have k:0<len*sz:=by grind[Nat.blt_eq]
    have F:0<sz:=Nat.pos_of_mul_pos_left k;have C:len*sz<=16777216:=yaF_ A;have y:=kZ_ o.cells.toList zaa_ len;rw[B]at y;simp only[ycL_]at y;rw[<-y]at h;simp only[execOp,Instr.buildSlice,Sem.run_bind,I,Result.andThen_ok,J,ybd_,u];rw[yam_ zaa_,yam_ zaa_];simp only[Sem.run_bind,Sem.run_pure,S,Result.andThen_ok,h];rfl) O
end ops
end Go.Sx
namespace Go.Sx
open Go
section ops
variable {P:Program} {N:Nf} {v0:Vw} {H0:Hp} {R:Exit->Act->World->Prop} {K:List Kt} {fr:Fr} {H:Hp} {Γ:List Fct}
variable {ops:Array Oper} {l:List Oper} {d:Nat} {ty:TypeId} {ps:String} {af:Array Edge}
theorem tB_ (h:Array Obj) (o:Obj) (f:Obj->Obj):(h.push o).modify h.size f=h.push (f o):=by
  grind
def bytesV (m:List UInt8):List Value:=m.map λc=>.int .u8 (c.toNat:Int)
theorem Cb_ {x:Operand} {s t e:TypeId} {m:List UInt8} (C:∀ w,(underlying s).run P w=.ok .string w) (B:∀ w,(underlying t).run P w=.ok (.slice e) w) (L:∀ w,(underlying e).run P w=.ok (.int .u8) w)
    (E:Fr.ev fr x=some (str m)) (F:Nat.blt d N.n=true)
    (G:∀ cap b,m.length<=cap->Ops P R N v0 H0 ops l K ((d,.slice (some ⟨b,0,none⟩) m.length cap)::fr) ((b,.cells (bytesV m++List.replicate (cap - m.length) (Value.int .u8 0)).toArray e (cap,cap+1))::H) Γ) :
    Ops P R N v0 H0 ops (⟨some d,.convert s t x,ty,ps,af,none⟩::l) K fr H Γ :=
  pt_ (β:=Nat) (x:=λcap b=>.slice (some ⟨b,0,none⟩) m.length cap) (o:=λcap=>.cells (bytesV m++List.replicate (cap - m.length) (Value.int .u8 0)).toArray e (cap,cap+1)) (λcap=>m.length<=cap) F
    (λa v M O Q=>by
      have h:m.length<=(Question.appendCap m.length 0 e).cut (v.w.tape v.w.drawn (.appendCap m.length 0 e)):=by grind[Question.cut]
      generalize S:(Question.appendCap m.length 0 e).cut (v.w.tape v.w.drawn (.appendCap m.length 0 e))=cap at h
      have k:(bytesV m++List.replicate (cap - m.length) (Value.int .u8 0)).length=cap:=by grind[bytesV]
      have I:(⟨m.toArray⟩:ByteArray).size=m.length:=by grind[ByteArray.size]
      have A:(Array.map (λ(b:UInt8)=>Value.int .u8 (b.toNat:Int)) m.toArray++Array.replicate (cap - m.length) (Value.int .u8 0))=(bytesV m++List.replicate (cap - m.length) (Value.int .u8 0)).toArray:=by grind[bytesV]
      refine⟨cap,{ v.w with heap:=v.w.heap.push (.cells (bytesV m++List.replicate (cap - m.length) (Value.int .u8 0)).toArray e (cap,cap+1)),drawn:=v.w.drawn+1 },h,?_,rfl,rfl,rfl,rfl,Nat.le_succ _⟩
      have u:(Conv.stringToBytes e ⟨m.toArray⟩).run P v.w=.ok (.slice (some ⟨v.w.heap.size,0,none⟩) m.length cap) { v.w with heap:=v.w.heap.push (.cells (bytesV m++List.replicate (cap - m.length) (Value.int .u8 0)).toArray e (cap,cap+1)),drawn:=v.w.drawn+1 }:=by
        generalize bytesV m++List.replicate (cap - m.length) (Value.int .u8 0)=cs at k A ⊢
        simp only[Conv.stringToBytes,I];show Sem.run P (choose _ >>= _) v.w=_
        rw[Sem.run_bind]
        have y:(choose (.appendCap m.length 0 e)).run P v.w=.ok cap { v.w with drawn:=v.w.drawn+1 }:=by
          grind[choose,Sem.run,Question.forced]
        rw[y,Result.andThen_ok,A];simp only[newRow,Sem.run_bind,newObj,markStringish,shape,freeze];simp only[Sem.run,Result.andThen_ok,World.shape?,Array.getElem?_push_size,ycD_,k,World.freeze,Nat.one_ne_zero,ycm_,Sem.run_pure]
        grind[tB_]
      simp only[execOp,Sem.run_bind,convert,C,B,L,Result.andThen_ok,M.ev E,str,u,Sem.run_pure])
    (λcap b J=>G cap b J)
theorem fK_ {t:TypeId} {x:Operand} {lo hi:Option Operand} {m:List UInt8} {i j:Nat} {kl kh:IntKind} (u:∀ w,(underlying t).run P w=.ok .string w) (A:Fr.ev fr x=some (str m))
    (h:match lo with|some y=>Fr.ev fr y=some (.int kl (i:Int))|none=>i=0) (e:match hi with|some y=>Fr.ev fr y=some (.int kh (j:Int))|none=>j=m.length) (o:i<=j) (E:j<=m.length) :
    Yld P N fr H Γ (.slice t x lo hi none) ty (str ((m.drop i).take (j - i))) :=
  λa v k F G _ _ _=>by
    have B:(⟨m.toArray⟩:ByteArray).size=m.length:=by simp[ByteArray.size]
    have C:=ByteArray.extract_mk m i j;cases lo<;>cases hi<;>simp only at h e
    . subst h e;simp[execOp,Instr.sliceAt,Instr.slice,u,k.ev A,str,Instr.sliceBounds,B,C]
    . subst h;simp[execOp,Instr.sliceAt,Instr.slice,u,k.ev A,k.ev e,str,Instr.sliceBounds,Instr.sliceBound,asIntOf,B,C,E]
    . subst e;simp[execOp,Instr.sliceAt,Instr.slice,u,k.ev A,k.ev h,str,Instr.sliceBounds,Instr.sliceBound,asIntOf,B,C,o]
    . simp[execOp,Instr.sliceAt,Instr.slice,u,k.ev A,k.ev h,k.ev e,str,Instr.sliceBounds,Instr.sliceBound,asIntOf,B,C,o,E]
def sad (ad:Ao) (cap i n:Nat):Ao:=if cap=i then ad else ad.map (·.add (i*n))
theorem cq_ {t e:TypeId} {x:Operand} {lo hi:Option Operand} {ad:Ao} {len cap i j n:Nat} {kl kh:IntKind} (A:∀ w,(underlying t).run P w=.ok (.slice e) w) (B:∀ w,(sizeOf e).run P w=.ok n w) (C:Fr.ev fr x=some (.slice ad len cap))
    (h:match lo with|some y=>Fr.ev fr y=some (.int kl (i:Int))|none=>i=0) (k:match hi with|some y=>Fr.ev fr y=some (.int kh (j:Int))|none=>j=len) (u:i<=j) (E:j<=cap) :
    Yld P N fr H Γ (.slice t x lo hi none) ty (.slice (sad ad cap i n) (j - i) (cap - i)) :=
  λa v o F G _ _ _=>by
    cases lo<;>cases hi<;>simp only at h k
    . subst h k;simp[execOp,Instr.sliceAt,Instr.slice,A,B,o.ev C,Instr.sliceBounds,sad]
    . subst h;simp[execOp,Instr.sliceAt,Instr.slice,A,B,o.ev C,o.ev k,Instr.sliceBounds,Instr.sliceBound,asIntOf,E,sad]
    . subst k;simp[execOp,Instr.sliceAt,Instr.slice,A,B,o.ev C,o.ev h,Instr.sliceBounds,Instr.sliceBound,asIntOf,u,sad]
    . simp[execOp,Instr.sliceAt,Instr.slice,A,B,o.ev C,o.ev h,o.ev k,Instr.sliceBounds,Instr.sliceBound,asIntOf,u,E,sad]
theorem bW_.sad {v:Vw} {ad:Ao} {cs:List Value} {cap i n:Nat} (h:bW_ v ad cs) (e:List Value) (o:∀ j x,e[j]? = some x->cs[i*n+j]? = some x) (u:cs.length<=cap*n):bW_ v (sad ad cap i n) e:=by
 unfold Sx.sad
 split
 .rename_i k
  subst k;left
  cases e with
  | nil=>rfl
  | cons d e =>
    have:=o 0 d rfl
    grind
 exact h.drop (i*n) e o
theorem ft_ {fn:Fn} {xs ys:List Operand} {us e:List Value} (x:Fr.evs fr xs=some us) (o:Fr.evs fr ys=some e):Yld P N fr H Γ (.makeFunc fn xs.toArray ys.toArray) ty (.func fn us.toArray e.toArray) :=
  λa v h y A _ _ _=>by
    have k:=h.evs x;have u:=h.evs o;simp[execOp,Instr.makeFunc,k,u]
theorem bb_ {f:FuncId} {g:Operand} {first cap:List Value} {xs:List Operand} {k:Array TypeId} {h:List Value} {ι:Type} {Hc F:Hp} {y:List Fct} {e:ι->Value} {H':ι->Hp} {Γ':ι->List Fct}
    (o:Tri P f (first++h++cap).toArray Hc y e H' Γ') (C:Fr.ev fr g=some (.func (.func f) first.toArray cap.toArray)) (E:Fr.evs fr xs=some h) (B:H.Perm (Hc++F)) (A:∀ v,v.sat H->aC_ Γ v->aC_ y v) (J:Nat.blt d N.n=true)
    (G:∀ x,Ops P R N v0 H0 ops l K ((d,e x)::fr) (H' x++F) (Γ' x++Γ)) :
    Ops P R N v0 H0 ops (⟨some d,.call ⟨.value g,xs.toArray,k⟩,ty,ps,af,none⟩::l) K fr H Γ :=
  qU_ o (λa w u=>by
    have I:=u.evs E;have L:=o.callable (first++h++cap).toArray w;simp only[execOp,resolve,Deferred.ofValue,u.ev C,invoke,ybd_,I,Sem.run_bind,Sem.run_pure,Result.andThen_ok,List.append_toArray,L]) B A J G
end ops
end Go.Sx
namespace Go.Sx
open Go
class NoPan (R:Exit->Act->World->Prop):Prop where
  st:∀ c a d x w,R (.panic c) (a.put d x) w->R (.panic c) a w
instance {P:Program} {fn:Func} {ι:Type} {v0:Vw} {H0:Hp} {ret:ι->Value} {H':ι->Hp} {Γ':ι->List Fct}:NoPan (bodyPost P fn (lm_ v0 H0 ret H' Γ')) :=
  ⟨λc a d x w h=>by obtain⟨_,y,v',e,_⟩:=h;cases e⟩
instance {N:Nf} {v0:Vw} {H0:Hp} {ι:Type} {frs:ι->Fr} {Hs:ι->Hp} {Γs:ι->List Fct}:NoPan (Mid N v0 H0 frs Hs Γs) :=
  ⟨λc a d x w h=>by cases h.1⟩
theorem lY_ {P:Program} {R:Exit->Act->World->Prop} [hR:NoPan R] {c:List PanicEntry} {a:Act} {d:Option Tmp} {x:Value} {w:World}:∀ (K:List Kt),post P R K (.panic c) (a.put d x) w->post P R K (.panic c) a w
  | [],h=>hR.st c a d x w h
  | .seq _::K,h=>lY_ K h
  | .inv _::K,h=>lY_ K h
  | .blk _::K,h=>lY_ K h
def SW (Hs:Hp) (Γs:List Fct) (w:World):Prop:=∃ v:Vw,v.w=w/\v.sat Hs/\aC_ Γs v
section any
variable {P:Program} {N:Nf} {v0:Vw} {H0:Hp} {R:Exit->Act->World->Prop} {K:List Kt} {fr:Fr} {H Hs:Hp} {Γ Γs:List Fct}
variable {ops:Array Oper} {d:Nat} {ty:TypeId} {ps:String} {af:Array Edge} {fuel:Nat} {listed:Array Bool}
abbrev Any (P:Program) (R:Exit->Act->World->Prop) (N:Nf) (v0:Vw) (H0:Hp) (ops:Array Oper) (Hs:Hp) (Γs:List Fct) (fuel:Nat) (listed:Array Bool) (K:List Kt) (fr:Fr) (H:Hp) (Γ:List Fct):Prop :=
  Ok N v0 H0 (wpAnyH P .any ops (post P R K) (SW Hs Γs) fuel listed) fr H Γ
theorem tm_ {u:Nat} (Hs:Hp) (Γs:List Fct) (hm:P.follows .mixedOrders=true) (h:Any P R N v0 H0 ops Hs Γs ops.size (Array.replicate ops.size false) K fr H Γ):Run P R N v0 H0 (.region u ops true) K fr H Γ :=
  λa v y k e x=>wp_region_held hm (by
    have o:v.le ⟨v.im,{ v.w with drawn:=v.w.drawn+1 },v.sl⟩:=⟨λ_ h=>h,λ_ _=>rfl,rfl⟩;exact h a ⟨v.im,{ v.w with drawn:=v.w.drawn+1 },v.sl⟩ y ⟨k.own,k.nodup,k.lt⟩ ⟨e.os,e.tape,e.output,e.size,e.block,e.imUp,e.imNew,e.hNew,e.sl,e.dr.imp (λh=>h) λh=>yaW_ h⟩ (ba_ o x))
theorem xA_ {e:Nat} (hm:P.follows .mixedOrders=true) (h:Any P R N v0 H0 ops H Γ ops.size (Array.replicate ops.size false) K fr H Γ):Run P R N v0 H0 (.region e ops true) K fr H Γ:=tm_ H Γ hm h
theorem Vw.sat.tail {v:Vw} {p:Nat×Obj} (h:v.sat (p::H)):v.sat H :=
  ⟨λx e=>h.own x (yaN_ _ e),by have:=h.nodup;grind,h.lt⟩
theorem sO_ [NoPan R] (i:Nat) {e:Oper} {x:Value} (hi:ops[i]? = some e) (G:Region.noSelect ops=true) (A:Region.free .any ops listed i=true) (C:(Region.ready .any ops listed).contains i=true)
    (y:e.dst=some d) (J:Nat.blt d N.n=true) (B:∀ a,Fr.sat N fr a->YieldsIf P ops (SW Hs Γs) e x a) (F:∀ v,v.sat H->aC_ Γ v->v.sat Hs/\aC_ Γs v)
    (h:Any P R N v0 H0 ops Hs Γs fuel (listed.setIfInBounds i true) K ((d,x)::fr) H Γ):Any P R N v0 H0 ops Hs Γs (fuel+1) listed K fr H Γ :=
  λa v u k E o=>wpAnyH_take hi G A C (λc a w I=>lY_ K I) (B a u) ⟨v,rfl,F v k o⟩ (by
    rw[y];exact h _ v (u.put J) k E o)
theorem Bb_ [NoPan R] (i:Nat) {k:Op} {x:Value} (hi:ops[i]? = some ⟨some d,k,ty,ps,af,none⟩) (E:Region.noSelect ops=true) (o:Region.free .any ops listed i=true) (y:(Region.ready .any ops listed).contains i=true)
    (u:Yld P N fr Hs Γs k ty x) (C:Nat.blt d N.n=true) (B:∀ v,v.sat H->aC_ Γ v->v.sat Hs/\aC_ Γs v)
    (h:Any P R N v0 H0 ops Hs Γs fuel (listed.setIfInBounds i true) K ((d,x)::fr) H Γ):Any P R N v0 H0 ops Hs Γs (fuel+1) listed K fr H Γ :=
  sO_ i hi E o y rfl C (λa A=>.inl ⟨rfl,λw ⟨v,e,k1,k2⟩=>by subst e;exact u a v A k1 k2 (some d) ps af⟩) B h
theorem yK_ [NoPan R] (i:Nat) {o:Op} {x:Value} {j t:Nat} {k:Bool} (hi:ops[i]? = some ⟨some d,o,ty,ps,af,some (j,k)⟩) (E:Region.noSelect ops=true) (y:Region.free .any ops listed i=true) (A:(Region.ready .any ops listed).contains i=true)
    (F:hR_ ops j=some t) (C:Fr.get fr t=some (.bool k)) (G:Yld P N fr Hs Γs o ty x) (I:Nat.blt d N.n=true) (B:∀ v,v.sat H->aC_ Γ v->v.sat Hs/\aC_ Γs v)
    (h:Any P R N v0 H0 ops Hs Γs fuel (listed.setIfInBounds i true) K ((d,x)::fr) H Γ):Any P R N v0 H0 ops Hs Γs (fuel+1) listed K fr H Γ :=
  sO_ i hi E y A rfl I (λa u=>.inl ⟨by simp[Region.wanted,fN_ u F C],λw ⟨v,e,k1,k2⟩=>by subst e;exact G a v u k1 k2 (some d) ps af⟩) B h
theorem any_no [NoPan R] (i:Nat) {C:Op} {x:Value} {j t:Nat} {e:Bool} (hi:ops[i]? = some ⟨some d,C,ty,ps,af,some (j,e)⟩) (B:Region.noSelect ops=true) (k:Region.free .any ops listed i=true) (u:(Region.ready .any ops listed).contains i=true)
    (E:hR_ ops j=some t) (A:Fr.get fr t=some x) (o:(match x with|.bool b=>Bool.xor b e|_=>true)=true) (G:Nat.blt d N.n=true) (y:∀ v,v.sat H->aC_ Γ v->v.sat Hs/\aC_ Γs v)
    (h:Any P R N v0 H0 ops Hs Γs fuel (listed.setIfInBounds i true) K ((d,undef)::fr) H Γ):Any P R N v0 H0 ops Hs Γs (fuel+1) listed K fr H Γ :=
  sO_ i hi B k u rfl G (λa F=>.inr ⟨by
    simp only[Region.wanted,fN_ F E A];cases x<;>first|rfl|grind,rfl⟩) y h
def ke_ (ops:Array Oper):Array Bool->List Nat->Bool
  | _,[]=>true
  | listed,i::is=>Region.free .any ops listed i&&((Region.ready .any ops listed).contains i&&ke_ ops (listed.setIfInBounds i true) is)
def Sq (P:Program) (R:Exit->Act->World->Prop) (N:Nf) (v0:Vw) (H0:Hp) (ops:Array Oper) (Hs:Hp) (Γs:List Fct) (is:List Nat) (fuel:Nat) (listed:Array Bool) (K:List Kt) (fr:Fr) (H:Hp) (Γ:List Fct):Prop :=
  (Region.noSelect ops&&ke_ ops listed is)=true->(∀ v,v.sat H->aC_ Γ v->v.sat Hs/\aC_ Γs v)->Any P R N v0 H0 ops Hs Γs (fuel+is.length) listed K fr H Γ
theorem C_ (fuel:Nat) (e:List Nat) (k:(Region.noSelect ops&&ke_ ops listed e)=true) (o:∀ v,v.sat H->aC_ Γ v->v.sat Hs/\aC_ Γs v) (h:Sq P R N v0 H0 ops Hs Γs e fuel listed K fr H Γ):Any P R N v0 H0 ops Hs Γs (fuel+e.length) listed K fr H Γ:=h k o
theorem bd_ (h:Any P R N v0 H0 ops Hs Γs fuel listed K fr H Γ):Sq P R N v0 H0 ops Hs Γs [] fuel listed K fr H Γ:=λ_ _=>h
theorem pe_ {i:Nat} {e:List Nat} (h:(Region.noSelect ops&&ke_ ops listed (i::e))=true):Region.noSelect ops=true/\Region.free .any ops listed i=true/\(Region.ready .any ops listed).contains i=true/\(Region.noSelect ops&&ke_ ops (listed.setIfInBounds i true) e)=true:=by
  grind[ke_]
theorem G_ [NoPan R] {i:Nat} {o:List Nat} {e:Op} {x:Value} (hi:ops[i]? = some ⟨some d,e,ty,ps,af,none⟩) (y:Yld P N fr Hs Γs e ty x) (E:Nat.blt d N.n=true)
    (h:Sq P R N v0 H0 ops Hs Γs o fuel (listed.setIfInBounds i true) K ((d,x)::fr) H Γ):Sq P R N v0 H0 ops Hs Γs (i::o) fuel listed K fr H Γ:=λu k=>by
  obtain⟨A,C,B,v⟩:=pe_ u;exact Bb_ i hi A C B y E k (h v k)
theorem kd_ [NoPan R] {i:Nat} {k:List Nat} {e:Op} {X:Bool} (hi:ops[i]? = some ⟨some d,e,ty,ps,af,none⟩) (o:Yld P N fr Hs Γs e ty (.bool X)) (u:Nat.blt d N.n=true)
    (h:∀ r:Bool,X=r->Sq P R N v0 H0 ops Hs Γs k fuel (listed.setIfInBounds i true) K ((d,.bool r)::fr) H Γ):Sq P R N v0 H0 ops Hs Γs (i::k) fuel listed K fr H Γ:=by grind[G_]
theorem bL_ [NoPan R] {i:Nat} {k:List Nat} {u:Op} {x:Value} {j t:Nat} {e:Bool} (hi:ops[i]? = some ⟨some d,u,ty,ps,af,some (j,e)⟩) (B:hR_ ops j=some t) (y:Fr.get fr t=some (.bool e)) (C:Yld P N fr Hs Γs u ty x) (G:Nat.blt d N.n=true)
    (h:Sq P R N v0 H0 ops Hs Γs k fuel (listed.setIfInBounds i true) K ((d,x)::fr) H Γ):Sq P R N v0 H0 ops Hs Γs (i::k) fuel listed K fr H Γ:=λA o=>by
  obtain⟨E,I,F,v⟩:=pe_ A;exact yK_ i hi E I F B y C G o (h v o)
theorem eo_ [NoPan R] {i:Nat} {o:List Nat} {k:Op} {X:Bool} {j t:Nat} {e:Bool} (hi:ops[i]? = some ⟨some d,k,ty,ps,af,some (j,e)⟩) (u:hR_ ops j=some t) (x:Fr.get fr t=some (.bool e)) (v:Yld P N fr Hs Γs k ty (.bool X)) (y:Nat.blt d N.n=true)
    (h:∀ r:Bool,X=r->Sq P R N v0 H0 ops Hs Γs o fuel (listed.setIfInBounds i true) K ((d,.bool r)::fr) H Γ):Sq P R N v0 H0 ops Hs Γs (i::o) fuel listed K fr H Γ:=by grind[bL_]
theorem sq_no [NoPan R] {i:Nat} {o:List Nat} {A:Op} {x:Value} {j t:Nat} {e:Bool} (hi:ops[i]? = some ⟨some d,A,ty,ps,af,some (j,e)⟩) (C:hR_ ops j=some t) (y:Fr.get fr t=some x) (k:(match x with|.bool b=>Bool.xor b e|_=>true)=true) (G:Nat.blt d N.n=true)
    (h:Sq P R N v0 H0 ops Hs Γs o fuel (listed.setIfInBounds i true) K ((d,undef)::fr) H Γ):Sq P R N v0 H0 ops Hs Γs (i::o) fuel listed K fr H Γ:=λB u=>by
  obtain⟨E,I,F,v⟩:=pe_ B;exact any_no i hi E I F C y k G u (h v u)
def Nx (P:Program) (R:Exit->Act->World->Prop) (ops:Array Oper) (Hs:Hp) (Γs:List Fct) (fuel:Nat) (listed:Array Bool) (K:List Kt) (a:Act) (w:World):Prop :=
  SW Hs Γs w/\wpAnyH P .any ops (post P R K) (SW Hs Γs) fuel listed a w
theorem j_ (i:Nat) {o:Oper} (hi:ops[i]? = some o) (B:Region.ready .any ops listed=[i]) (h:Ops P R N v0 H0 ops [o] (.inv (Nx P R ops Hs Γs fuel (listed.setIfInBounds i true) K)::K) fr H Γ):Any P R N v0 H0 ops Hs Γs (fuel+1) listed K fr H Γ:=by
 intro a v C y E A;refine wpAnyH_all B zak_ λj k=>?_;simp only[yal_]at k;subst k;have:=h a v C y E A;unfold wpOp;simp only[hi];unfold wpList at this
 split
 .rename_i e
  rw[yax_ e]at this;rcases this with q|q
  .left
   unfold Oper.wp at q ⊢;generalize (execOp a.eval o).run P v.w=r at q ⊢
   cases r with
   | ok n w' =>
     cases n<;>simp only[Oper.upon]at q ⊢<;>exact q
   | halt x w' =>
     cases x<;>simp only[Oper.upon]at q ⊢
     case panic u=>exact q
  exact .inr q
 rename_i e
 rw[yam_ e]at this;exact this
theorem y_ (x:∀ v,v.sat H->aC_ Γ v->v.sat Hs/\aC_ Γs v) (h:Any P R N v0 H0 ops Hs Γs fuel listed K fr H Γ):Ok N v0 H0 (Nx P R ops Hs Γs fuel listed K) fr H Γ :=
  λa v o e u k=>⟨⟨v,rfl,x v e k⟩,h a v o e u k⟩
theorem fG_ (o:Region.ready .any ops listed=[]) (h:Fin P R N v0 H0 K fr H Γ):Any P R N v0 H0 ops Hs Γs fuel listed K fr H Γ :=
  λa v u e x k=>wpAnyH_done o (h a v u e x k) fuel
theorem dd_ {α:Type} [BEq α] [LawfulBEq α] {a b:α} (h:(a != b)=true):a≠b:=by grind
theorem de_ {α:Type} [BEq α] [LawfulBEq α] {a b:α} (h:(a != b)=false):a=b:=by simp_all
theorem hJ_ {N:Nat} {fn:Func} {t s u:Nat} {ι:Type} {F:Hp} {ret:ι->Value} {H':ι->Hp} {Γ':ι->List Fct} {y A B:Value} (I:fn.results=#[.tmp t,.tmp s,.tmp u]) (x:ι) (o:Fr.get fr t=some y) (h:Fr.get fr s=some A) (k:Fr.get fr u=some B) (M:.tuple #[y,A,B]=ret x) (G:H.Perm (H' x++F))
    (C:∀ v,v.sat H->aC_ Γ v->aC_ (Γ' x) v):Ok N v0 H0 (bodyPost P fn (lm_ v0 H0 ret H' Γ') .ret) fr H Γ :=
  em_ G C λa v e E L S=>⟨e.defers,ret x,by rw[<-M];have O:=e.val t _ o;have J:=e.val s _ h;have Q:=e.val u _ k;simp[results,I,O,J,Q],x,v,rfl,rfl,E,S,L⟩
theorem sv_ {f:FuncId} {args:Array Value} {r:Value} (C:gp_ P f) (h:∀ w,Calls P f args w λe w'=>e=.returned r/\w'.heap=w.heap/\w'.os=w.os/\w'.tape=w.tape/\w'.output=w.output/\w.drawn<=w'.drawn):Fn0 P f args r :=
  ⟨C,λv B _=>(h v.w).mono λe w' ⟨y,k,E,x,A,u⟩=>⟨(),⟨v.im,w',v.sl⟩,y,rfl,⟨by simp,by simp,λb o=>by show b<w'.heap.size;rw[k];exact B.lt b o⟩,trivial,
    ⟨E,x,A,by simp[k],λb _ _=>by grind,λ_ h=>h,λ_ h=>.inl h,λ_ h=>by simp at h,rfl,.inr u⟩⟩⟩
theorem le_ {f:FuncId} {g:Operand} {first cap:List Value} {l:List Oper} {xs:List Operand} {e:Array TypeId} {h:List Value} {Hc F:Hp} {k:List Fct} {X:Bool}
    (B:Tri P f (first++h++cap).toArray Hc k (λ_:Unit=>.bool X) (λ_=>Hc) (λ_=>[])) (x:Fr.ev fr g=some (.func (.func f) first.toArray cap.toArray)) (y:Fr.evs fr xs=some h) (u:H.Perm (Hc++F)) (o:∀ v,v.sat H->aC_ Γ v->aC_ k v) (C:Nat.blt d N.n=true)
    (A:∀ r:Bool,X=r->Ops P R N v0 H0 ops l K ((d,.bool r)::fr) (Hc++F) Γ) :
    Ops P R N v0 H0 ops (⟨some d,.call ⟨.value g,xs.toArray,e⟩,ty,ps,af,none⟩::l) K fr H Γ :=
  bb_ B x y u o C λ_=>A X rfl
theorem s_ {k:Act->World->Prop} {H':Hp} (e:H.Perm H') (h:Ok N v0 H0 k fr H' Γ):Ok N v0 H0 k fr H Γ :=
  λa v x o y u=>h a v x (o.perm e) (y.subR λb A=>(e.map Prod.fst).mem_iff.2 A) u
theorem gC_:∀ {H:Hp} {i:Nat} {p:Nat×Obj},H[i]? = some p->H.Perm (p::H.eraseIdx i)
  | [],i,p,h=>by simp at h
  | x::H,0,p,h=>by simp at h;simp_all
  | x::H,i+1,p,h=>by
    have:=gC_ (H:=H) (i:=i) (p:=p) zap_;exact (List.Perm.cons x this).trans (List.Perm.swap p x _)
theorem tG_:∀ {H:Hp} {i:Nat} {p q:Nat×Obj},H[i]? = some p->(q::H.eraseIdx i).Perm (H.set i q)
  | [],i,p,q,h=>by simp at h
  | x::H,0,p,q,h=>by exact .refl _
  | x::H,i+1,p,q,h=>by
    have:=tG_ (H:=H) (i:=i) (p:=p) (q:=q) zap_;exact (List.Perm.swap x q _).trans (List.Perm.cons x this)
theorem yf_ {f:FuncId} {l:List Oper} {xs:List Operand} {e:Array TypeId} {h:List Value} (i:Nat) {b:Nat} {o o':Obj} {k:List Fct} {r:Value}
    (A:Tri P f h.toArray [(b,o)] k (λ_:Unit=>r) (λ_=>[(b,o')]) (λ_=>[])) (x:Fr.evs fr xs=some h) (hi:H[i]? = some (b,o)) (u:∀ v,v.sat H->aC_ Γ v->aC_ k v) (B:Nat.blt d N.n=true)
    (y:Ops P R N v0 H0 ops l K ((d,r)::fr) (H.set i (b,o')) Γ) :
    Ops P R N v0 H0 ops (⟨some d,.call ⟨.value (.func f),xs.toArray,e⟩,ty,ps,af,none⟩::l) K fr H Γ :=
  d_ A x (gC_ hi) u B λ_=>s_ (tG_ hi) y
theorem pv_ {f:FuncId} {l:List Oper} {xs:List Operand} {e:Array TypeId} {h:List Value} (i:Nat) {b:Nat} {o o':Obj} {k:List Fct} {X:Bool}
    (A:Tri P f h.toArray [(b,o)] k (λ_:Unit=>.bool X) (λ_=>[(b,o')]) (λ_=>[])) (x:Fr.evs fr xs=some h) (hi:H[i]? = some (b,o)) (u:∀ v,v.sat H->aC_ Γ v->aC_ k v) (B:Nat.blt d N.n=true)
    (y:∀ r:Bool,X=r->Ops P R N v0 H0 ops l K ((d,.bool r)::fr) (H.set i (b,o')) Γ) :
    Ops P R N v0 H0 ops (⟨some d,.call ⟨.value (.func f),xs.toArray,e⟩,ty,ps,af,none⟩::l) K fr H Γ :=
  by grind[yf_]
end any
end Go.Sx
namespace Go.Sx
open Go
structure Opn (F:Fence):Prop where
  fn:∀ f,F.fn f
  depth:F.depth=none
theorem bh_:Opn Fence.wide:=⟨λ_=>trivial,rfl⟩
theorem aa_ (l:Nat):Opn (Fence.wide.inRound l):=⟨λ_=>trivial,rfl⟩
theorem mq_ {F:Fence} {n:Nat} {P:Program} {f:FuncId} {args:Array Value} {w:World} {R:Ending->World->Prop} (h:Calls P f args w R) (l:Nat):CallsIn (Fence.wide.inRound l) n P f args w R :=
  (callsIn_wide (n:=n)).2 h
structure SatD (N:Nat) (D:List Deferred) (fr:Fr) (a:Act):Prop where
  sat:Fr.sat N fr ⟨a.tmps,[]⟩
  defers:a.defers=D
theorem SatD.put {N:Nat} {D:List Deferred} {fr:Fr} {a:Act} {d:Nat} {x:Value} (h:SatD N D fr a) (e:Nat.blt d N=true):SatD N D ((d,x)::fr) (a.put (some d) x) :=
  ⟨h.sat.put e,h.defers⟩
def OkD (N:Nat) (D:List Deferred) (v0:Vw) (H0:Hp) (k:Act->World->Prop) (fr:Fr) (H:Hp) (Γ:List Fct):Prop :=
  ∀ a v,SatD N D fr a->v.sat H->v0.to H0 v H->aC_ Γ v->k a v.w
def eM_ (F:Fence) (n:Nat) (P:Program) (R:Exit->Act->World->Prop):List Kt->Exit->Act->World->Prop
  | [],e,a,w=>R e a w
  | .seq c::K,.normal,a,w=>c.wpIn F n P (eM_ F n P R K) a w
  | .seq _::K,e,a,w=>eM_ F n P R K e a w
  | .inv J::_,.normal,a,w=>J a w
  | .inv _::K,e,a,w=>eM_ F n P R K e a w
  | .blk id::K,.exit id',a,w=>if id'=id then eM_ F n P R K .normal a w else eM_ F n P R K (.exit id') a w
  | .blk _::K,e,a,w=>eM_ F n P R K e a w
section code
variable {F:Fence} {n:Nat} {P:Program} {N:Nat} {D:List Deferred} {v0:Vw} {H0:Hp} {R:Exit->Act->World->Prop} {K:List Kt} {fr:Fr} {H:Hp} {Γ:List Fct}
theorem qP_ (K:List Kt) (a:Act) (w:World) (h:R .ret a w):eM_ F n P R K .ret a w:=by
  induction K with
  | nil=>exact h
  | cons x K ih=>cases x<;>exact ih
theorem po_ {c:Code} {e:List Kt} {a:Act} {w:World}:∀ {K:List Kt},nxt K=some (c,e)->c.wpIn F n P (eM_ F n P R e) a w->eM_ F n P R K .normal a w
  | [],h,_=>by grind[nxt]
  | .seq _::K,h,hp=>by simp only[nxt,yai_,ycl_]at h;obtain⟨rfl,rfl⟩:=h;exact hp
  | .blk _::K,h,hp=>po_ (K:=K) (by grind[nxt]) hp
  | .inv _::K,h,_=>by grind[nxt]
theorem mF_ {a:Act} {w:World}:∀ {K:List Kt},gt_ K=true->R .normal a w->eM_ F n P R K .normal a w
  | [],_,hp=>hp
  | .inv _::K,h,_=>by grind[gt_]
  | .blk _::K,h,hp=>mF_ (K:=K) (by grind[gt_]) hp
  | .seq _::K,h,_=>by grind[gt_]
abbrev iK_ (F:Fence) (n:Nat) (P:Program) (R:Exit->Act->World->Prop) (N:Nat) (D:List Deferred) (v0:Vw) (H0:Hp) (c:Code) (K:List Kt) (fr:Fr) (H:Hp) (Γ:List Fct):Prop :=
  OkD N D v0 H0 (c.wpIn F n P (eM_ F n P R K)) fr H Γ
abbrev vS_ (F:Fence) (n:Nat) (P:Program) (R:Exit->Act->World->Prop) (N:Nat) (D:List Deferred) (v0:Vw) (H0:Hp) (K:List Kt) (fr:Fr) (H:Hp) (Γ:List Fct):Prop :=
  OkD N D v0 H0 (eM_ F n P R K .normal) fr H Γ
abbrev fH_ (F:Fence) (n:Nat) (P:Program) (R:Exit->Act->World->Prop) (N:Nat) (D:List Deferred) (v0:Vw) (H0:Hp) (ops:Array Oper) (l:List Oper) (K:List Kt) (fr:Fr) (H:Hp) (Γ:List Fct):Prop :=
  OkD N D v0 H0 (wpListIn F n P ops (eM_ F n P R K) l) fr H Γ
theorem cZ_ {x y:Code} (h:iK_ F n P R N D v0 H0 x (.seq y::K) fr H Γ):iK_ F n P R N D v0 H0 (.seq x y) K fr H Γ :=
  λa v A o B u=>wpIn_seq (wpIn_mono (h a v A o B u) λe a w k=>by cases e<;>exact k)
theorem dZ_ {k:Nat} {c:Code} (h:iK_ F n P R N D v0 H0 c (.blk k::K) fr H Γ):iK_ F n P R N D v0 H0 (.block k c) K fr H Γ :=
  λa v y u A x=>wpIn_block (wpIn_mono (h a v y u A x) λe a w o=>by cases e<;>exact o)
theorem mB_ (h:vS_ F n P R N D v0 H0 K fr H Γ):iK_ F n P R N D v0 H0 .skip K fr H Γ :=
  λa v e o k u=>wpIn_skip (h a v e o k u)
theorem hH_ (h:OkD N D v0 H0 (R .ret) fr H Γ):iK_ F n P R N D v0 H0 .ret K fr H Γ :=
  λa v e o k u=>wpIn_ret (qP_ K a v.w (h a v e o k u))
theorem cm_ {c:Code} {e:List Kt} (y:nxt K=some (c,e)) (h:iK_ F n P R N D v0 H0 c e fr H Γ):vS_ F n P R N D v0 H0 K fr H Γ :=
  λa v u k x o=>po_ y (h a v u k x o)
theorem cL_ (x:gt_ K=true) (h:OkD N D v0 H0 (R .normal) fr H Γ):vS_ F n P R N D v0 H0 K fr H Γ :=
  λa v o e u k=>mF_ x (h a v o e u k)
theorem aR_ {e:Nat} {l:List Oper} (h:fH_ F n P R N D v0 H0 l.toArray l K fr H Γ):iK_ F n P R N D v0 H0 (.region e l.toArray false) K fr H Γ :=
  λa v u k x o=>wpIn_region_lit (h a v u k x o)
theorem bK_ {ops:Array Oper} (h:vS_ F n P R N D v0 H0 K fr H Γ):fH_ F n P R N D v0 H0 ops [] K fr H Γ :=
  λa v o e u k=>wpListIn_nil (h a v o e u k)
theorem gf_ {c:Operand} {x y:Code} (u:Fr.ev fr c=some (.bool true)) (A:iK_ F n P R N D v0 H0 x K fr H Γ):iK_ F n P R N D v0 H0 (.cond c x y) K fr H Γ :=
  λa v e h o k=>wpIn_cond_true (e.sat.ev u) (A a v e h o k)
theorem oe_ {c:Operand} {x y:Code} (A:Fr.ev fr c=some (.bool false)) (h:iK_ F n P R N D v0 H0 y K fr H Γ):iK_ F n P R N D v0 H0 (.cond c x y) K fr H Γ :=
  λa v e k u o=>wpIn_cond_false (e.sat.ev A) (h a v e k u o)
def gU_:Op->Bool
  | .defer _=>false
  | _=>true
theorem semAt_eq {o:Oper} (h:gU_ o.op=true) (k:Option Nat) (ρ:Operand->Value):o.semAt k ρ=execOp ρ o :=
  Oper.semAt_eq k ρ o (λc e=>by rw[e]at h;cases h)
variable {ops:Array Oper} {l:List Oper} {d:Nat} {ty:TypeId} {ps:String} {af:Array Edge}
theorem uM_ {o:Oper} {a:Act} {w:World} {A B:Act->World->Prop} {Q:Exit->Act->World->Prop} (C:∀ a w,A a w->B a w) (h:o.wpIn F n P a w A Q):o.wpIn F n P a w B Q:=by
  refine⟨h.1,?_⟩;have k:=h.2;generalize (o.semAt F.round a.eval).run P w=r at k ⊢
  cases r with
  | ok nx w' =>
    cases nx<;>simp only[Oper.uponIn]at k ⊢<;>first|grind|exact k|skip
    case enter f args=>exact⟨k.1,k.2.mono λe u y=>by grind⟩
    case row row args=>exact⟨k.1,k.2.mono λv u y=>C _ _ y⟩
    case round l f tmps assign body=>exact⟨k.1,k.2.mono λe u y=>by grind⟩
  | halt x w'=>cases x<;>simp only[Oper.uponIn]at k ⊢<;>exact k
theorem eE_ {o:Oper} (A:o.guard=none) (h:∀ a v,SatD N D fr a->v.sat H->v0.to H0 v H->aC_ Γ v->o.wpIn F n P a v.w (wpListIn F n P ops (eM_ F n P R K) l) (eM_ F n P R K)) :
    fH_ F n P R N D v0 H0 ops (o::l) K fr H Γ :=
  λa v u e y k=>wpListIn_plain A λB x=>uM_ x (h a v u e y k)
theorem Z_ {e:Op} {x:Value} (E:Opn F) (A:Yld P N fr H Γ e ty x) (h:gU_ e=true) (C:Nat.blt d N=true)
    (y:fH_ F n P R N D v0 H0 ops l K ((d,x)::fr) H Γ):fH_ F n P R N D v0 H0 ops (⟨some d,e,ty,ps,af,none⟩::l) K fr H Γ :=
  eE_ rfl λa v u k B o=>by
    refine⟨λf _=>E.fn f,?_⟩;rw[semAt_eq h];have:=A ⟨a.tmps,[]⟩ v u.sat k o (some d) ps af;rw[show a.eval=Act.eval ⟨a.tmps,[]⟩ from rfl,this];exact y _ v (u.put C) k B o
theorem qV_ {e:Op} {X:Bool} (v:Opn F) (o:Yld P N fr H Γ e ty (.bool X)) (h:gU_ e=true) (u:Nat.blt d N=true)
    (k:∀ r:Bool,X=r->fH_ F n P R N D v0 H0 ops l K ((d,.bool r)::fr) H Γ):fH_ F n P R N D v0 H0 ops (⟨some d,e,ty,ps,af,none⟩::l) K fr H Γ :=
  by grind[Z_]
theorem pw_ {t:TypeId} {z:Value} (E:Opn F) (G:∀ w,(zeroValue t).run P w=.ok z w) (C:Nat.blt d N=true)
    (x:∀ b,fH_ F n P R N D v0 H0 ops l K ((d,.pointer (some ⟨b,0,none⟩))::fr) ((b,.cells z.cells t (0,0))::H) Γ):fH_ F n P R N D v0 H0 ops (⟨some d,.alloc t,ty,ps,af,none⟩::l) K fr H Γ :=
  eE_ rfl λa v B e u A=>by
    refine⟨λf _=>E.fn f,?_⟩;rw[semAt_eq rfl]
    have y:(execOp a.eval ⟨some d,.alloc t,ty,ps,af,none⟩).run P v.w=.ok (.value (.pointer (some ⟨v.w.heap.size,0,none⟩))) (v.w.alloc (.cells z.cells t (0,0))):=by
      simp[execOp,G,Instr.alloc,newVar,newRow,newObj];rfl
    rw[y];obtain⟨k,h⟩:=gA_ (w':=v.w.alloc (.cells z.cells t (0,0))) (o:=.cells z.cells t (0,0)) e rfl rfl rfl rfl (yab_ _);exact x v.w.heap.size _ ⟨v.im,_,v.sl⟩ (B.put C) k (u.trans h) (ba_ (h.le e) A)
theorem eD_ {t:TypeId} {x y:Operand} {b off m:Nat} (L:Opn F) (i:Nat) {cur:Array Value} {T:TypeId} {u:Value} (U:∀ w,(sizeOf t).run P w=.ok m w)
    (V:Fr.ev fr x=some (.pointer (some ⟨b,off,none⟩))) (Q:Fr.ev fr y=some u) (hi:H[i]? = some (b,.cells cur T (0,0))) (C:u.cells.size=m) (M:Nat.ble (off+m) cur.size=true) (B:u.cells.toList.all Value.oneCell'=true)
    (o:fH_ F n P R N D v0 H0 ops l K fr (H.set i (b,.cells (cur.toList.take off++u.cells.toList++cur.toList.drop (off+m)).toArray T (0,0))) Γ) :
    fH_ F n P R N D v0 H0 ops (⟨none,.store t x y,ty,ps,af,none⟩::l) K fr H Γ :=
  eE_ rfl λa v A h S I=>by
    refine⟨λf _=>L.fn f,?_⟩;rw[semAt_eq rfl];have E:=(h.own _ (yad_ hi)).1;have e:=run_storeCells_at P b off T u.cells.toList 0 cur v.w E (by simp[C];exact yaF_ M) (λc Y=>ybn_.1 B c Y)
    have X:(execOp a.eval ⟨none,.store t x y,ty,ps,af,none⟩).run P v.w=.ok .skip (v.w.setRow b (cur.toList.take off++u.cells.toList++cur.toList.drop (off+m)).toArray):=by
      simp only[Nat.add_zero,ycr_,C]at e;have W:a.eval x=.pointer (some ⟨b,off,none⟩):=A.sat.ev V;have J:a.eval y=u:=A.sat.ev Q;simp[execOp,W,J,Instr.storeAt,Instr.sureAddr,storeVar,U,C,e]
    rw[X];obtain⟨O,G⟩:=fw_ (w':=v.w.setRow b (cur.toList.take off++u.cells.toList++cur.toList.drop (off+m)).toArray) h hi rfl rfl rfl (yab_ _) zak_ (setRow_heap _ _ _ _ _ _ E) (λk o=>setRow_other _ _ _ _ o);exact o a _ A O (S.trans G) (ba_ (G.le h) I)
theorem yg_ {r:Nat} {f:FuncId} {xs:List Operand} {u:Array TypeId} {y:List Value} {ι:Type} {Hc G:Hp} {J:List Fct} {o:ι->Value} {H':ι->Hp} {Γ':ι->List Fct}
    (C:Tri P f y.toArray Hc J o H' Γ') (U:Fr.evs fr xs=some y) (I:H.Perm (Hc++G)) (S:∀ v,v.sat H->aC_ Γ v->aC_ J v) (X:Nat.blt d N=true)
    (M:∀ x,fH_ (Fence.wide.inRound r) n P R N D v0 H0 ops l K ((d,o x)::fr) (H' x++G) (Γ' x++Γ)) :
    fH_ (Fence.wide.inRound r) n P R N D v0 H0 ops (⟨some d,.call ⟨.value (.func f),xs.toArray,u⟩,ty,ps,af,none⟩::l) K fr H Γ :=
  eE_ rfl λa v E A T B=>by
    refine⟨λf _=>trivial,?_⟩;rw[semAt_eq rfl]
    have W:(execOp a.eval ⟨some d,.call ⟨.value (.func f),xs.toArray,u⟩,ty,ps,af,none⟩).run P v.w=.ok (.enter f y.toArray) v.w:=by
      have V:xs.map a.eval=y:=E.sat.evs U;simp[execOp,resolve,Deferred.ofValue,Act.eval,invoke,V,C.callable _ v.w]
    rw[W];have k:=A.perm I;refine⟨λh=>(by cases h),(mq_ (F:=Fence.wide) (C.run v k.sub (S v A B)) r).mono ?_⟩;rintro e w' ⟨x,L,rfl,rfl,Q,O,Y⟩;obtain⟨k1,k2⟩:=Y.frame k Q;exact M x _ L (E.put X) k1 (T.trans (k2.permL I.symm)) (gD_.2 ⟨O,ba_ (k2.le k) B⟩)
def jY_ (P:Program) (l:Nat) (x:Value) (H:Hp) (Γ:List Fct) {ι:Type} (ret:ι->Value) (H':ι->Hp) (Γ':ι->List Fct):Prop :=
  ∀ v,v.sat H->aC_ Γ v->∃ fn tmps assign body,(Instr.yield l #[x]).run P v.w=.ok (.round l fn tmps assign body) v.w/\
    ∀ n,RoundIn Fence.wide n P l fn tmps assign body v.w λe w'=>∃ x v',e=.returned (ret x)/\v'.w=w'/\v'.sat (H' x)/\aC_ (Γ' x) v'/\v.to H v' (H' x)
theorem gS_ {r:Nat} {g y:Operand} {E:Array TypeId} {u:Value} {ι:Type} {Hc G:Hp} {O:List Fct} {C:ι->Value} {H':ι->Hp} {Γ':ι->List Fct}
    (V:jY_ P r u Hc O C H' Γ') (S:Fr.ev fr g=some (.func (.yield r) #[] #[])) (Z:Fr.ev fr y=some u) (M:H.Perm (Hc++G)) (Y:∀ v,v.sat H->aC_ Γ v->aC_ O v) (hN:Nat.blt d N=true)
    (T:∀ x,fH_ Fence.wide n P R N D v0 H0 ops l K ((d,C x)::fr) (H' x++G) (Γ' x++Γ)) :
    fH_ Fence.wide n P R N D v0 H0 ops (⟨some d,.call ⟨.value g,#[y],E⟩,ty,ps,af,none⟩::l) K fr H Γ :=
  eE_ rfl λa v I J h3 L=>by
    refine⟨λf _=>trivial,?_⟩;rw[semAt_eq rfl];have o:=J.perm M;obtain⟨fn,B,k,A,W,hR⟩:=V v o.sub (Y v J L)
    have he:(execOp a.eval ⟨some d,.call ⟨.value g,#[y],E⟩,ty,ps,af,none⟩).run P v.w=.ok (.round r fn B k A) v.w:=by
      have e1:a.eval g=.func (.yield r) #[] #[]:=I.sat.ev S;have e2:a.eval y=u:=I.sat.ev Z
      grind[execOp,resolve,Deferred.ofValue,invoke]
    rw[he];refine⟨λh=>(by cases h),(hR _).mono ?_⟩;rintro e w' ⟨x,Q,rfl,rfl,X,U,g3⟩;obtain⟨k1,k2⟩:=g3.frame o X;exact T x _ Q (I.put hN) k1 (h3.trans (k2.permL M.symm)) (gD_.2 ⟨U,ba_ (k2.le o) L⟩)
theorem ef_ {k:Act->World->Prop}:OkD N [] v0 H0 k fr H Γ↔Ok N v0 H0 k fr H Γ :=
  ⟨λh a v e o x u=>h a v ⟨⟨e.size,rfl,e.val⟩,e.defers⟩ o x u,λh a v e o x u=>h a v ⟨e.sat.size,e.defers,e.sat.val⟩ o x u⟩
end code
end Go.Sx
namespace Go.Sx
open Go
section
variable {F:Fence} {n:Nat} {P:Program} {N:Nat} {D:List Deferred} {v0:Vw} {H0:Hp} {R:Exit->Act->World->Prop} {K:List Kt} {fr:Fr} {H:Hp} {Γ:List Fct}
variable {ops:Array Oper} {l:List Oper} {d:Nat} {ty:TypeId} {ps:String} {af:Array Edge}
theorem gT_ (J:Opn F) {u:Op} {o:Option Nat} {j t:Nat} {k:Bool} (B:hR_ ops j=some t) (I:Fr.get fr t=some (.bool k))
    (h:fH_ F n P R N D v0 H0 ops (⟨o,u,ty,ps,af,none⟩::l) K fr H Γ):fH_ F n P R N D v0 H0 ops (⟨o,u,ty,ps,af,some (j,k)⟩::l) K fr H Γ :=
  λa v y C G E=>by
    have A:Region.wanted (⟨o,u,ty,ps,af,some (j,k)⟩:Oper) (yielded ops a.tmps)=true:=by
      have e:=fN_ (a:=⟨a.tmps,[]⟩) y.sat B I
      grind[Region.wanted]
    have x:Region.wanted (⟨o,u,ty,ps,af,none⟩:Oper) (yielded ops a.tmps)=true:=rfl;have:=h a v y C G E;unfold wpListIn at this ⊢;rw[yax_ x]at this;rw[yax_ A];exact this
theorem sc_ (J:Opn F) {o:Op} {j t:Nat} {k:Bool} {x:Value} (E:hR_ ops j=some t) (C:Fr.get fr t=some x) (y:(match x with|.bool b=>Bool.xor b k|_=>true)=true) (I:Nat.blt d N=true)
    (h:fH_ F n P R N D v0 H0 ops l K ((d,undef)::fr) H Γ):fH_ F n P R N D v0 H0 ops (⟨some d,o,ty,ps,af,some (j,k)⟩::l) K fr H Γ :=
  λa v u A B G=>by
    have L:Region.wanted (⟨some d,o,ty,ps,af,some (j,k)⟩:Oper) (yielded ops a.tmps)=false:=by
      have e:=fN_ (a:=⟨a.tmps,[]⟩) u.sat E C;simp only at e;simp only[Region.wanted,e];cases x<;>first|rfl|grind
    unfold wpListIn;rw[yam_ zap_];exact⟨λf _=>J.fn f,h _ v (u.put I) A B G⟩
end
end Go.Sx
