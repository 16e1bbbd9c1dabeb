/-
  Lemmas for the law ModuleGoal (no condition).
-/
import Derived.Test.YtbffkokbdeppaaaGreatDoorQModuleGoal0
import Derived.WalkKit
import Derived.OrdersHeld
import Derived.Deep.LoopGhost
import Derived.RangeFuncIn
import Derived.RangeFuncLeaves
import Derived.TacticsIn
set_option linter.unusedVariables false
set_option linter.unusedSimpArgs false
set_option linter.unusedSectionVars false
set_option maxHeartbeats 1000000
namespace Go.Sx
open Go
structure Vw where
  im:Nat->Prop
  w:World
  sl:Prop
abbrev Fr:=List (Nat×Value)
abbrev Hp:=List (Nat×Obj)
def Fr.get:Fr->Nat->Option Value
  | [],_=>none
  | (t,v)::r,n=>bif Nat.beq t n then some v else Fr.get r n
structure Nf where
  n:Nat
  D:List Deferred
instance:Coe Nat Nf:=⟨λn=>⟨n,[]⟩⟩
structure Fr.sat (N:Nf) (fr:Fr) (a:Act):Prop where
  size:a.tmps.size=N.n
  defers:a.defers=N.D
  val:∀ t v,Fr.get fr t=some v->a.tmps[t]? = some v
structure Vw.sat (v:Vw) (H:Hp):Prop where
  own:∀ p,p∈H->v.w.heap[p.1]? = some p.2/\¬ v.im p.1
  nodup:(H.map Prod.fst).Nodup
  lt:∀ b,v.im b->b<v.w.heap.size
structure Vw.to (v:Vw) (H:Hp) (v':Vw) (H':Hp):Prop where
  os:v'.w.os=v.w.os
  tape:v'.w.tape=v.w.tape
  output:v'.w.output=v.w.output
  size:v.w.heap.size<=v'.w.heap.size
  block:∀ b,b<v.w.heap.size->b ∉ H.map Prod.fst->v'.w.heap[b]? = v.w.heap[b]?
  imUp:∀ b,v.im b->v'.im b
  imNew:∀ b,v'.im b->v.im b\/b∈H.map Prod.fst\/v.w.heap.size<=b
  hNew:∀ b,b∈H'.map Prod.fst->b∈H.map Prod.fst\/v.w.heap.size<=b
  sl:v'.sl=v.sl
  dr:v.sl\/v.w.drawn<=v'.w.drawn
structure Vw.le (v v':Vw):Prop where
  imUp:∀ b,v.im b->v'.im b
  block:∀ b,v.im b->v'.w.heap[b]? = v.w.heap[b]?
  sl:v'.sl=v.sl
structure Fct where
  p:Vw->Prop
  mono:∀ v v',v.le v'->p v->p v'
def ag_:List Fct->Vw->Prop
  | [],_=>True
  | f::l,v=>f.p v/\ag_ l v
theorem ff_ {a b:List Fct} {v:Vw}:ag_ (a++b) v↔ag_ a v/\ag_ b v:=by
  induction a<;>grind[ag_]
theorem aT_ {l:List Fct} {v d:Vw} (h:v.le d):ag_ l v->ag_ l d:=by
  induction l with
  | nil=>exact λ_=>trivial
  | cons f l ih=>exact λ⟨a,b⟩=>⟨f.mono _ _ h a,ih b⟩
theorem Vw.to.le {v d:Vw} {H H':Hp} (k:v.sat H) (h:v.to H d H'):v.le d :=
  ⟨h.imUp,λb e=>h.block b (k.lt b e) (λhm=>by
    obtain⟨p,m,rfl⟩:=yan_.1 hm;exact (k.own p m).2 e),h.sl⟩
theorem Vw.to.refl (v:Vw) (H:Hp):v.to H v H :=
  ⟨rfl,rfl,rfl,yad_ _,λ_ _ _=>rfl,λ_ h=>h,λ_ h=>.inl h,λ_ h=>.inl h,rfl,.inr (yad_ _)⟩
theorem Vw.to.trans {a b c:Vw} {m v Hc:Hp} (h:a.to m b v) (k:b.to v c Hc):a.to m c Hc where
 os:=k.os.trans h.os
 tape:=k.tape.trans h.tape
 output:=k.output.trans h.output
 size:=ybn_ h.size k.size
 block:=λx e y=>by
   rw[k.block x (ybz_ e h.size) (λhm=>(h.hNew x hm).elim y (λhl=>by omega))];exact h.block x e y
 imUp:=λx e=>k.imUp x (h.imUp x e)
 imNew:=λx e=>by
   rcases k.imNew x e with d|d|d
   . exact h.imNew x d
   . exact .inr (h.hNew x d)
   . exact .inr (.inr (ybn_ h.size d))
 hNew:=λx e=>by
   rcases k.hNew x e with d|d
   . exact h.hNew x d
   . exact .inr (ybn_ h.size d)
 sl:=k.sl.trans h.sl
 dr:=by
   rcases h.dr with d|d
   . grind
   . rcases k.dr with A|A
     all_goals grind[sl]
theorem Vw.to.frame {v y:Vw} {H H' F:Hp} (C:v.sat (H++F)) (m:y.sat H') (h:v.to H y H') :
    y.sat (H'++F)/\v.to (H++F) y (H'++F):=by
  have x:=C.nodup;rw[yaz_,ybe_]at x;have J:∀ p,p∈F->p.1 ∉ H.map Prod.fst:=λp e hm=>x.2.2 _ hm _ (yaZ_ e) rfl
  have A:∀ p,p∈F->p.1<v.w.heap.size:=λp e=>by
    have:=(C.own p (yaF_ _ e)).1
    grind
  have G:∀ p,p∈F->p.1 ∉ H'.map Prod.fst:=λp e hm=>by
    rcases h.hNew _ hm with d|d
    all_goals grind
  refine⟨⟨λp e=>?_,?_,m.lt⟩,?_⟩
  . rcases yai_.1 e with d|d
    . exact m.own p d
    . have B:=C.own p (yaF_ _ d)
      refine⟨by rw[h.block _ (A p d) (J p d)];exact B.1,λhi=>?_⟩;rcases h.imNew _ hi with E|E|E
      all_goals grind
  . grind[sat.nodup]
  . refine⟨h.os,h.tape,h.output,h.size,λb k I=>h.block b k (λhm=>I ?_),h.imUp,λb k=>?_,λb k=>?_,h.sl,h.dr⟩
    . grind
    . rcases h.imNew b k with d|d|d
      all_goals grind
    . rw[yaz_]at k ⊢
      rcases yai_.1 k with d|d
      . rcases h.hNew b d with B|B
        all_goals grind
      grind
theorem Vw.sat.perm {v:Vw} {H H':Hp} (h:v.sat H) (p:H.Perm H'):v.sat H' :=
  ⟨λx d=>h.own x (p.mem_iff.2 d),(p.map _).nodup_iff.1 h.nodup,h.lt⟩
theorem Vw.sat.sub {v:Vw} {H F:Hp} (h:v.sat (H++F)):v.sat H :=
  ⟨λx d=>h.own x (yax_ _ d),by have:=h.nodup;grind,h.lt⟩
theorem Vw.to.permL {v k:Vw} {H K H':Hp} (h:v.to H k H') (p:H.Perm K):v.to K k H':=by
  have e:∀ b,b∈H.map Prod.fst↔b∈K.map Prod.fst:=λb=>(p.map _).mem_iff
  exact⟨h.os,h.tape,h.output,h.size,λb d m=>h.block b d (λhm=>m ((e b).1 hm)),h.imUp,
    λb d=>(h.imNew b d).imp id (Or.imp (e b).1 id),λb d=>(h.hNew b d).imp (e b).1 id,h.sl,h.dr⟩
theorem Vw.to.subR {v d:Vw} {H H' K:Hp} (h:v.to H d H') (p:∀ b,b∈K.map Prod.fst->b∈H'.map Prod.fst):v.to H d K :=
  ⟨h.os,h.tape,h.output,h.size,h.block,h.imUp,h.imNew,λb e=>h.hNew b (p b e),h.sl,h.dr⟩
def Ok (N:Nf) (v0:Vw) (H0:Hp) (k:Act->World->Prop) (fr:Fr) (H:Hp) (Γ:List Fct):Prop :=
  ∀ a v,Fr.sat N fr a->v.sat H->v0.to H0 v H->ag_ Γ v->k a v.w
inductive Kt where
  | seq (c:Code)
  | blk (id:Nat)
  | inv (J:Act->World->Prop)
def post (P:Program) (R:Exit->Act->World->Prop):List Kt->Exit->Act->World->Prop
  | [],e,a,w=>R e a w
  | .seq c::K,.normal,a,w=>c.wp P (post P R K) a w
  | .seq _::K,e,a,w=>post P R K e a w
  | .inv J::_,.normal,a,w=>J a w
  | .inv _::K,e,a,w=>post P R K e a w
  | .blk id::K,.exit id',a,w=>if id'=id then post P R K .normal a w else post P R K (.exit id') a w
  | .blk _::K,e,a,w=>post P R K e a w
theorem zS_ (P:Program) (R:Exit->Act->World->Prop) (K:List Kt) (a:Act) (w:World) (h:R .ret a w):post P R K .ret a w:=by
  induction K with
  | nil=>exact h
  | cons x K ih=>cases x<;>exact ih
def unw (id:Nat):List Kt->Option (List Kt)
  | []=>none
  | .blk i::K=>bif Nat.beq id i then some K else unw id K
  | .seq _::K=>unw id K
  | .inv _::K=>unw id K
theorem jJ_ {P:Program} {R:Exit->Act->World->Prop} {d:Nat} {k:List Kt} {a:Act} {w:World} :
    ∀ {K:List Kt},unw d K=some k->post P R k .normal a w->post P R K (.exit d) a w
  | [],h,_=>by grind[unw]
  | .seq _::K,h,hp=>jJ_ (K:=K) (by grind[unw]) hp
  | .inv _::K,h,hp=>jJ_ (K:=K) (by grind[unw]) hp
  | .blk i::K,h,hp=>by
    simp only[unw]at h
    by_cases e:d=i
    . grind[Nat.beq_refl,post]
    . have:Nat.beq d i=false:=by
        grind[Nat.eq_of_beq_eq_true]
      rw[this,cond_false]at h;simp only[post,e,ycF_];exact jJ_ h hp
def nxt:List Kt->Option (Code×List Kt)
  | .seq c::K=>some (c,K)
  | .blk _::K=>nxt K
  | _=>none
theorem qE_ {P:Program} {R:Exit->Act->World->Prop} {c:Code} {d:List Kt} {a:Act} {w:World} :
    ∀ {K:List Kt},nxt K=some (c,d)->c.wp P (post P R d) a w->post P R K .normal a w
  | [],h,_=>by grind[nxt]
  | .seq _::K,h,hp=>by simp only[nxt,yah_,ybN_]at h;obtain⟨rfl,rfl⟩:=h;exact hp
  | .blk _::K,h,hp=>qE_ (K:=K) (by grind[nxt]) hp
  | .inv _::K,h,_=>by grind[nxt]
def kz_:List Kt->Option (Act->World->Prop)
  | .inv J::_=>some J
  | .blk _::K=>kz_ K
  | _=>none
theorem tk_ {P:Program} {R:Exit->Act->World->Prop} {J:Act->World->Prop} {a:Act} {w:World} :
    ∀ {K:List Kt},kz_ K=some J->J a w->post P R K .normal a w
  | [],h,_=>by grind[kz_]
  | .inv _::K,h,hp=>by simp only[kz_,yah_]at h;subst h;exact hp
  | .blk _::K,h,hp=>tk_ (K:=K) (by grind[kz_]) hp
  | .seq _::K,h,_=>by grind[kz_]
def gb_:List Kt->Bool
  | []=>true
  | .blk _::K=>gb_ K
  | _=>false
theorem tl_ {P:Program} {R:Exit->Act->World->Prop} {a:Act} {w:World} :
    ∀ {K:List Kt},gb_ K=true->R .normal a w->post P R K .normal a w
  | [],_,hp=>hp
  | .inv _::K,h,_=>by grind[gb_]
  | .blk _::K,h,hp=>tl_ (K:=K) (by grind[gb_]) hp
  | .seq _::K,h,_=>by grind[gb_]
section code
variable {P:Program} {N:Nf} {v0:Vw} {H0:Hp} {R:Exit->Act->World->Prop} {K:List Kt} {fr:Fr} {H:Hp} {Γ:List Fct}
abbrev Run (P:Program) (R:Exit->Act->World->Prop) (N:Nf) (v0:Vw) (H0:Hp) (c:Code) (K:List Kt) (fr:Fr) (H:Hp) (Γ:List Fct):Prop :=
  Ok N v0 H0 (c.wp P (post P R K)) fr H Γ
abbrev Fin (P:Program) (R:Exit->Act->World->Prop) (N:Nf) (v0:Vw) (H0:Hp) (K:List Kt) (fr:Fr) (H:Hp) (Γ:List Fct):Prop :=
  Ok N v0 H0 (post P R K .normal) fr H Γ
abbrev Ops (P:Program) (R:Exit->Act->World->Prop) (N:Nf) (v0:Vw) (H0:Hp) (ops:Array Oper) (l:List Oper) (K:List Kt) (fr:Fr) (H:Hp) (Γ:List Fct):Prop :=
  Ok N v0 H0 (wpList P ops (post P R K) l) fr H Γ
theorem au_ {x y:Code} (h:Run P R N v0 H0 x (.seq y::K) fr H Γ):Run P R N v0 H0 (.seq x y) K fr H Γ :=
  λa v A k B m=>wp_seq (wp_mono (h a v A k B m) λe a w d=>by cases e<;>exact d)
theorem dX_ {d:Nat} {c:Code} (h:Run P R N v0 H0 c (.blk d::K) fr H Γ):Run P R N v0 H0 (.block d c) K fr H Γ :=
  λa v y m A x=>wp_block (wp_mono (h a v y m A x) λe a w k=>by cases e<;>exact k)
theorem dr_ (h:Fin P R N v0 H0 K fr H Γ):Run P R N v0 H0 .skip K fr H Γ :=
  λa v d k e m=>wp_skip (h a v d k e m)
theorem jh_ {d:Nat} {e:List Kt} (y:unw d K=some e) (h:Fin P R N v0 H0 e fr H Γ):Run P R N v0 H0 (.exit d) K fr H Γ :=
  λa v x k A m=>wp_exit (jJ_ y (h a v x k A m))
theorem gl_ (h:Ok N v0 H0 (R .ret) fr H Γ):Run P R N v0 H0 .ret K fr H Γ :=
  λa v d k e m=>wp_ret (zS_ P R K a v.w (h a v d k e m))
theorem ap_ {c:Code} {d:List Kt} (y:nxt K=some (c,d)) (h:Run P R N v0 H0 c d fr H Γ):Fin P R N v0 H0 K fr H Γ :=
  λa v m e x k=>qE_ y (h a v m e x k)
theorem dw_ {J:Act->World->Prop} (x:kz_ K=some J) (h:Ok N v0 H0 J fr H Γ):Fin P R N v0 H0 K fr H Γ :=
  λa v k d m e=>tk_ x (h a v k d m e)
theorem sa_ (x:gb_ K=true) (h:Ok N v0 H0 (R .normal) fr H Γ):Fin P R N v0 H0 K fr H Γ :=
  λa v k d m e=>tl_ x (h a v k d m e)
theorem ad_ {d:Nat} {l:List Oper} (h:Ops P R N v0 H0 l.toArray l K fr H Γ):Run P R N v0 H0 (.region d l.toArray false) K fr H Γ :=
  λa v m e x k=>wp_region_lit (h a v m e x k)
theorem aD_ {d:Array Oper} (h:Fin P R N v0 H0 K fr H Γ):Ops P R N v0 H0 d [] K fr H Γ :=
  λa v m e x k=>wpList_nil (h a v m e x k)
def Fr.ev (fr:Fr):Operand->Option Value
  | .tmp t=>Fr.get fr t
  | .const v=>some v
  | .global g=>some (.pointer (some ⟨g,0,none⟩))
  | .func f=>some (.func (.func f) #[] #[])
theorem Fr.sat.ev {a:Act} {x:Operand} {v:Value} (h:Fr.sat N fr a) (d:Fr.ev fr x=some v):a.eval x=v:=by
  cases x with
  | tmp t=>have:=h.val t v d;simp[Act.eval,this]
  | const c=>grind[Fr.ev,Act.eval]
  | global g=>grind[Fr.ev,Act.eval]
  | func f=>grind[Fr.ev,Act.eval]
theorem Fr.sat.put {a:Act} {d:Nat} {x:Value} (h:Fr.sat N fr a) (A:Nat.blt d N.n=true):Fr.sat N ((d,x)::fr) (a.put (some d) x):=by
 have m:d<N.n:=by grind[Nat.blt_eq]
 refine⟨by grind[Act.put,size],h.defers,λt v k=>?_⟩;simp only[Fr.get]at k
 by_cases e:d=t
 .grind[Nat.beq_refl,Act.put,size]
 have y:Nat.beq d t=false:=by
   grind[Nat.eq_of_beq_eq_true]
 rw[y,cond_false]at k;simp only[Act.put];rw[Array.getElem?_setIfInBounds_ne e];exact h.val t v k
theorem Cv_ {k:Act->World->Prop} (d:Fr) (B:∀ t v,Fr.get d t=some v->Fr.get fr t=some v) (h:Ok N v0 H0 k d H Γ):Ok N v0 H0 k fr H Γ :=
  λa v e m A y=>h a v ⟨e.size,e.defers,λt x C=>e.val t x (B t x C)⟩ m A y
def Fr.le:Fr->Fr->Prop
  | [],_=>True
  | (t,v)::r,fr=>Fr.get fr t=some v/\Fr.le r fr
theorem Fr.le_get {d fr:Fr} (h:Fr.le d fr):∀ t v,Fr.get d t=some v->Fr.get fr t=some v:=by
 induction d with
 | nil=>grind[get]
 | cons p r ih =>
   obtain⟨s,u⟩:=p;intro t v k;simp only[Fr.get]at k
   by_cases e:s=t
   . subst e
     simp only[ycY_,cond_true,yah_]at k;subst k;exact h.1
   . have m:Nat.beq s t=false:=by
       grind[Nat.eq_of_beq_eq_true]
     rw[m,cond_false]at k;exact ih h.2 t v k
theorem bF_ {k:Act->World->Prop} (d:Fr) (e:Fr.le d fr) (h:Ok N v0 H0 k d H Γ):Ok N v0 H0 k fr H Γ :=
  Cv_ d (Fr.le_get e) h
theorem es_ {k:Act->World->Prop} {H' F:Hp} {Γ':List Fct} (x:H.Perm (H'++F)) (e:∀ v,v.sat H->ag_ Γ v->ag_ Γ' v) (h:Ok N v0 H0 k fr H' Γ'):Ok N v0 H0 k fr H Γ :=
  λa v y d A m=>h a v y (d.perm x).sub (A.subR λb B=>by
    grind) (e v d m)
theorem lb_ {k:Act->World->Prop} {Γ':List Fct} (e:∀ v,v.sat H->ag_ Γ v->ag_ Γ' v) (h:Ok N v0 H0 k fr H Γ'):Ok N v0 H0 k fr H Γ :=
  λa v x d y m=>h a v x d y (e v d m)
theorem Ad_ {k:Act->World->Prop} {p:Prop} (m:∀ v,v.sat H->ag_ Γ v->p) (h:p->Ok N v0 H0 k fr H Γ):Ok N v0 H0 k fr H Γ :=
  λa v x d y e=>h (m v d e) a v x d y e
theorem sW_ {c:Operand} {x y:Code} {t:Bool} (B:Fr.ev fr c=some (.bool t)) (C:t=true->Run P R N v0 H0 x K fr H Γ) (A:t=false->Run P R N v0 H0 y K fr H Γ) :
    Run P R N v0 H0 (.cond c x y) K fr H Γ :=
  λa v d h m k=>wp_cond_split (d.ev B) (λe=>C e a v d h m k) (λe=>A e a v d h m k)
theorem bG_ {c:Operand} {x y:Code} (d:Fr.ev fr c=some (.bool true)) (h:Run P R N v0 H0 x K fr H Γ):Run P R N v0 H0 (.cond c x y) K fr H Γ :=
  sW_ d (λ_=>h) (λe=>by cases e)
theorem cu_ {c:Operand} {x y:Code} (d:Fr.ev fr c=some (.bool false)) (h:Run P R N v0 H0 y K fr H Γ):Run P R N v0 H0 (.cond c x y) K fr H Γ :=
  sW_ d (λe=>by cases e) (λ_=>h)
def Bw_ {ι:Type} (N:Nf) (v0:Vw) (H0:Hp) (frs:ι->Fr) (Hs:ι->Hp) (Γs:ι->List Fct) (μ:ι->Nat) (n:Nat) (a:Act) (w:World):Prop :=
  ∃ j v,v.w=w/\Fr.sat N (frs j) a/\v.sat (Hs j)/\v0.to H0 v (Hs j)/\ag_ (Γs j) v/\μ j<n
theorem bY_ {ι:Type} {c:Code} (d:ι->Fr) (Hs:ι->Hp) (x:ι->List Fct) (μ:ι->Nat) (m:ι)
    (h:∀ i,Run P R N v0 H0 c (.inv (Bw_ N v0 H0 d Hs x μ (μ i))::K) (d i) (Hs i) (x i)) :
    Run P R N v0 H0 (.loop c) K (d m) (Hs m) (x m):=by
  intro a v G B L F;refine wp_loop_ghost (λn a w=>∃ i v,v.w=w/\Fr.sat N (d i) a/\v.sat (Hs i)/\v0.to H0 v (Hs i)/\ag_ (x i) v/\μ i=n) (μ m) ⟨m,v,rfl,G,B,L,F,rfl⟩ ?_;rintro n a w ⟨i,v,rfl,J,C,Q,I,rfl⟩;refine wp_mono (h i a v J C Q I) λe S w' k=>?_;cases e with
  | normal =>
    obtain⟨j,A,M,k1,k2,E,O,y⟩:=k;exact⟨μ j,y,j,A,M,k1,k2,E,O,rfl⟩
  | exit id=>exact k
  | goto l=>exact k
  | ret=>exact k
  | panic ch=>exact k
  | outgrown=>exact k
theorem J_ {ι:Type} {c:Code} (d:ι->Fr) (Hs:ι->Hp) (k:ι->List Fct) (μ:ι->Nat) (h:ι) {F:Hp} (m:Fr.le (d h) fr) (y:H.Perm (Hs h++F)) (x:∀ v,v.sat H->ag_ Γ v->ag_ (k h) v)
    (e:∀ i,Run P R N v0 H0 c (.inv (Bw_ N v0 H0 d Hs k μ (μ i))::K) (d i) (Hs i) (k i)):Run P R N v0 H0 (.loop c) K fr H Γ :=
  bF_ _ m (es_ y x (bY_ d Hs k μ h e))
theorem w_ {ι:Type} {d:ι->Fr} {Hs:ι->Hp} {h:ι->List Fct} {μ:ι->Nat} {n:Nat} (j:ι) {F:Hp} (k:μ j<n) (e:Fr.le (d j) fr) (y:H.Perm (Hs j++F))
    (m:∀ v,v.sat H->ag_ Γ v->ag_ (h j) v):Ok N v0 H0 (Bw_ N v0 H0 d Hs h μ n) fr H Γ :=
  bF_ (d j) e (es_ y m λ_ v B x C A=>⟨j,v,rfl,B,x,C,A,k⟩)
end code
end Go.Sx
namespace Go.Sx
open Go
section ops
variable {P:Program} {N:Nf} {v0:Vw} {H0:Hp} {R:Exit->Act->World->Prop} {K:List Kt} {fr:Fr} {H:Hp} {Γ:List Fct}
variable {ops:Array Oper} {l:List Oper} {d:Nat} {ty:TypeId} {ps:String} {af:Array Edge}
theorem cQ_ {o:Oper} (A:o.guard=none) (h:∀ a v,Fr.sat N fr a->v.sat H->v0.to H0 v H->ag_ Γ v->o.wp P a v.w (wpList P ops (post P R K) l) (post P R K)) :
    Ops P R N v0 H0 ops (o::l) K fr H Γ :=
  λa v m e y k=>wpList_plain A λB x=>Oper.wp_mono x (h a v m e y k)
def Yld (P:Program) (N:Nf) (fr:Fr) (H:Hp) (Γ:List Fct) (op:Op) (ty:TypeId) (x:Value):Prop :=
  ∀ a v,Fr.sat N fr a->v.sat H->ag_ Γ v->∀ d ps af,(execOp a.eval ⟨d,op,ty,ps,af,none⟩).run P v.w=.ok (.value x) v.w
theorem d_ {e:Op} {x:Value} (y:Yld P N fr H Γ e ty x) (B:Nat.blt d N.n=true)
    (hk:Ops P R N v0 H0 ops l K ((d,x)::fr) H Γ):Ops P R N v0 H0 ops (⟨some d,e,ty,ps,af,none⟩::l) K fr H Γ :=
  cQ_ rfl λa v m h A k=>by
    unfold Oper.wp;rw[y a v m h k (some d) ps af];exact hk _ v (m.put B) h A k
theorem F_ {e:Op} {X:Bool} (h:Yld P N fr H Γ e ty (.bool X)) (k:Nat.blt d N.n=true)
    (hk:∀ r:Bool,X=r->Ops P R N v0 H0 ops l K ((d,.bool r)::fr) H Γ):Ops P R N v0 H0 ops (⟨some d,e,ty,ps,af,none⟩::l) K fr H Γ :=
  by grind[d_]
def hQ_ (ops:Array Oper) (j:Nat):Option Nat:=(ops[j]?).bind (·.dst)
theorem fu_ {a:Act} {j t:Nat} {x:Value} (h:Fr.sat N fr a) (k:hQ_ ops j=some t) (m:Fr.get fr t=some x) :
    yielded ops a.tmps j=match x with|.bool b=>some b|_=>none:=by
  have e:((ops[j]?).bind (·.dst)).bind (a.tmps[·]?)=some x:=by
    show (hQ_ ops j).bind _=_
    rw[k];exact h.val t x m
  unfold yielded;rw[e];cases x<;>rfl
theorem ar_ {m:Op} {k:Option Nat} {j t:Nat} {e:Bool} (B:hQ_ ops j=some t) (G:Fr.get fr t=some (.bool e))
    (h:Ops P R N v0 H0 ops (⟨k,m,ty,ps,af,none⟩::l) K fr H Γ):Ops P R N v0 H0 ops (⟨k,m,ty,ps,af,some (j,e)⟩::l) K fr H Γ :=
  λa v y C F E=>by
    have A:Region.wanted (⟨k,m,ty,ps,af,some (j,e)⟩:Oper) (yielded ops a.tmps)=true:=by
      simp[Region.wanted,fu_ y B G]
    have x:Region.wanted (⟨k,m,ty,ps,af,none⟩:Oper) (yielded ops a.tmps)=true:=rfl;have:=h a v y C F E;unfold wpList at this ⊢;rw[yaq_ x]at this;rw[yaq_ A];exact this
theorem gN_ {k:Op} {j t:Nat} {e:Bool} {x:Value} (A:hQ_ ops j=some t) (I:Fr.get fr t=some x) (B:(match x with|.bool b=>Bool.xor b e|_=>true)=true) (G:Nat.blt d N.n=true)
    (h:Ops P R N v0 H0 ops l K ((d,undef)::fr) H Γ):Ops P R N v0 H0 ops (⟨some d,k,ty,ps,af,some (j,e)⟩::l) K fr H Γ :=
  λa v m C F E=>by
    have y:Region.wanted (⟨some d,k,ty,ps,af,some (j,e)⟩:Oper) (yielded ops a.tmps)=false:=by
      simp only[Region.wanted,fu_ m A I];cases x<;>first|rfl|grind
    exact wpList_skip y (h _ v (m.put G) C F E)
theorem ab_ {x:Operand} {u:Value} (h:Fr.ev fr x=some u) :
    Yld P N fr H Γ (.move x) ty (u) :=
  λa v e _ _ _ _ _=>by rw[<-e.ev h];rfl
theorem ay_ {x:Operand} {u:Value} (h:Fr.ev fr x=some u) :
    Yld P N fr H Γ (.assign x) ty (u) :=
  λa v e _ _ _ _ _=>by rw[<-e.ev h];rfl
theorem gH_ {c x y:Operand} {u:Value} (h:Fr.ev fr c=some (.bool true)) (k:Fr.ev fr x=some u) :
    Yld P N fr H Γ (.pick c x y) ty (u) :=
  λa v e _ _ _ _ _=>by simp[execOp,e.ev h,e.ev k,asBool]
theorem fr_ {c x y:Operand} {u:Value} (h:Fr.ev fr c=some (.bool false)) (k:Fr.ev fr y=some u) :
    Yld P N fr H Γ (.pick c x y) ty (u) :=
  λa v e _ _ _ _ _=>by simp[execOp,e.ev h,e.ev k,asBool]
theorem aV_ {t A:TypeId} {x y:Operand} {k:IntKind} {m n:Int} (B:Fr.ev fr x=some (.int k m)) (h:Fr.ev fr y=some (.int k n)) :
    Yld P N fr H Γ (.binOp .eql t x y A) ty (.bool ((m==n))) :=
  λa v e _ _ _ _ _=>by simp[execOp,e.ev B,e.ev h,eqGuard,binOp,Op.intCmp]
theorem cq_ {t A:TypeId} {x y:Operand} {k:IntKind} {m n:Int} (B:Fr.ev fr x=some (.int k m)) (h:Fr.ev fr y=some (.int k n)) :
    Yld P N fr H Γ (.binOp .neq t x y A) ty (.bool ((m != n))) :=
  λa v e _ _ _ _ _=>by simp[execOp,e.ev B,e.ev h,eqGuard,binOp,Op.intCmp]
theorem cO_ {t A:TypeId} {x y:Operand} {k:IntKind} {m n:Int} (B:Fr.ev fr x=some (.int k m)) (h:Fr.ev fr y=some (.int k n)) :
    Yld P N fr H Γ (.binOp .lss t x y A) ty (.bool (decide (m<n))) :=
  λa v e _ _ _ _ _=>by simp[execOp,e.ev B,e.ev h,eqGuard,binOp,Op.intCmp]
theorem dN_ {t A:TypeId} {x y:Operand} {k:IntKind} {m n:Int} (B:Fr.ev fr x=some (.int k m)) (h:Fr.ev fr y=some (.int k n)) :
    Yld P N fr H Γ (.binOp .leq t x y A) ty (.bool (decide (m<=n))) :=
  λa v e _ _ _ _ _=>by simp[execOp,e.ev B,e.ev h,eqGuard,binOp,Op.intCmp]
theorem dq_ {t A:TypeId} {x y:Operand} {k:IntKind} {m n:Int} (B:Fr.ev fr x=some (.int k m)) (h:Fr.ev fr y=some (.int k n)) :
    Yld P N fr H Γ (.binOp .gtr t x y A) ty (.bool (decide (n<m))) :=
  λa v e _ _ _ _ _=>by simp[execOp,e.ev B,e.ev h,eqGuard,binOp,Op.intCmp]
theorem er_ {t A:TypeId} {x y:Operand} {k:IntKind} {m n:Int} (B:Fr.ev fr x=some (.int k m)) (h:Fr.ev fr y=some (.int k n)) :
    Yld P N fr H Γ (.binOp .geq t x y A) ty (.bool (decide (n<=m))) :=
  λa v e _ _ _ _ _=>by simp[execOp,e.ev B,e.ev h,eqGuard,binOp,Op.intCmp]
def AJ_:BinOp->Int->Int->Option Int
  | .add,a,b=>some (a+b)
  | .sub,a,b=>some (a - b)
  | .mul,a,b=>some (a*b)
  | _,_,_=>none
theorem aC_ {e:BinOp} {t E:TypeId} {x y:Operand} {k:IntKind} {m n r:Int} (F:Fr.ev fr x=some (.int k m)) (C:Fr.ev fr y=some (.int k n)) (h:AJ_ e m n=some r) (B:k.wrap r=r) :
    Yld P N fr H Γ (.binOp e t x y E) ty (.int k r) :=
  λa v A _ _ _ _ _=>by
    cases e<;>simp only[AJ_,yah_,reduceCtorEq]at h<;>subst h <;>
      simp[execOp,A.ev F,A.ev C,eqGuard,binOp,Op.intArith,B]
theorem bx_ {r:Int} (e:-9223372036854775808<=r) (h:r<=9223372036854775807):IntKind.wrap .i64 r=r:=by
  grind[IntWalk.i64_in]
theorem aK_ {x:Operand} {t:TypeId} {b:Bool} (h:Fr.ev fr x=some (.bool b)) :
    Yld P N fr H Γ (.unOp .not t x) ty (.bool !b) :=
  λa v e _ _ _ _ _=>by simp[execOp,e.ev h,Op.unary]
def lg:List Value->Nat->Option Value
  | [],_=>none
  | x::_,0=>some x
  | _::r,n+1=>lg r n
theorem lg_eq:∀ (c:List Value) (i:Nat),lg c i=c[i]?
  | [],i=>by simp[lg]
  | x::r,0=>rfl
  | x::r,n+1=>by simpa [lg] using lg_eq r n
def tJ_:List Value->Nat->Nat->Option (List Value)
  | _,_,0=>some []
  | c,off,n+1=>match lg c off with
    | some x=>match tJ_ c (off+1) n with
      | some r=>some (x::r)
      | none=>none
    | none=>none
theorem qT_:∀ (n off:Nat) (c r:List Value),tJ_ c off n=some r->r.length=n/\∀ j v,r[j]? = some v->c[off+j]? = some v
 | 0,off,c,r,h=>by grind[tJ_]
 | n+1,off,c,r,h=>by
   simp only[tJ_]at h
   split at h
   . rename_i x y
     split at h
     . rename_i q e
       simp only[yah_]at h;subst h;obtain⟨m,k⟩:=qT_ n (off+1) c q e
       grind[lg_eq]
     . cases h
   . cases h
theorem ck_ (b off n:Nat):(⟨b,off,none⟩:Addr).add n=⟨b,off+n,none⟩:=by grind[Addr.add]
theorem cc_ {t:TypeId} {w:World} {ad:Addr} {x:Value} (h:∀ w,(isAgg t).run P w=.ok false w) (e:w.cell? ad=some x):(loadVar t ad).run P w=.ok x w:=by
  simp[loadVar,h,e]
theorem dT_ {t:TypeId} {w:World} {b off n:Nat} {cs:List Value} (e:∀ w,(isAgg t).run P w=.ok true w) (h:∀ w,(sizeOf t).run P w=.ok n w) (k:cs.length=n)
    (x:∀ j v,cs[j]? = some v->w.cell? ⟨b,off+j,none⟩=some v):(loadVar t ⟨b,off,none⟩).run P w=.ok (.agg cs.toArray) w:=by
  have:=run_loadCells_list (P:=P) w ⟨b,off,none⟩ cs (λj v m=>by grind[ck_]);rw[k]at this;simp[loadVar,e,h,this]
theorem fc_ {v:Vw} {i b:Nat} {cur:Array Value} {T:TypeId} {fz:Nat×Nat} (h:v.sat H) (hi:H[i]? = some (b,.cells cur T fz)) (j:Nat):v.w.cell? ⟨b,j,none⟩=cur.toList[j]? := by
  have:=(h.own _ (yab_ hi)).1
  grind[World.cell?]
theorem bU_ {t:TypeId} {x:Operand} {b off:Nat} (i:Nat) {cur:Array Value} {T:TypeId} {fz:Nat×Nat} {u:Value} (e:∀ w,(isAgg t).run P w=.ok false w)
    (k:Fr.ev fr x=some (.pointer (some ⟨b,off,none⟩))) (hi:H[i]? = some (b,.cells cur T fz)) (y:lg cur.toList off=some u) :
    Yld P N fr H Γ (.load t x) ty (u) :=
  λa v h m _ _ _ _=>by
    have:=cc_ (P:=P) (w:=v.w) e (show v.w.cell? ⟨b,off,none⟩=some u by grind[fc_,lg_eq]);simp[execOp,h.ev k,Instr.loadAt,Instr.sureAddr,this]
theorem cW_ {t:TypeId} {x:Operand} {b off n:Nat} (i:Nat) {cur:Array Value} {T:TypeId} {fz:Nat×Nat} {us:List Value} (A:∀ w,(isAgg t).run P w=.ok true w) (h:∀ w,(sizeOf t).run P w=.ok n w)
    (k:Fr.ev fr x=some (.pointer (some ⟨b,off,none⟩))) (hi:H[i]? = some (b,.cells cur T fz)) (e:tJ_ cur.toList off n=some us) :
    Yld P N fr H Γ (.load t x) ty (.agg us.toArray) :=
  λa v B C _ _ _ _=>by
    obtain⟨m,F⟩:=qT_ n off _ _ e;have:=dT_ (P:=P) (w:=v.w) (b:=b) (off:=off) A h m (λj y E=>by grind[fc_]);simp[execOp,B.ev k,Instr.loadAt,Instr.sureAddr,this]
theorem gs_ {t:TypeId} {x:Operand} {ad:Addr} {u:Value} (y:Fr.ev fr x=some (.pointer (some ad))) (m:∀ v,v.sat H->ag_ Γ v->(loadVar t ad).run P v.w=.ok u v.w) :
    Yld P N fr H Γ (.load t x) ty (u) :=
  λa v k e h _ _ _=>by simp[execOp,k.ev y,Instr.loadAt,Instr.sureAddr,m v e h]
theorem ij_ {v:Vw} {w':World} {o:Obj} (h:v.sat H) (A:w'.heap=v.w.heap.push o) (C:w'.os=v.w.os) (G:w'.tape=v.w.tape) (E:w'.output=v.w.output) (B:v.w.drawn<=w'.drawn) :
    (⟨v.im,w',v.sl⟩:Vw).sat ((v.w.heap.size,o)::H)/\v.to H ⟨v.im,w',v.sl⟩ ((v.w.heap.size,o)::H):=by
  have y:∀ k,k<v.w.heap.size->w'.heap[k]? = v.w.heap[k]? := λk hk=>by grind
  have x:∀ p,p∈H->p.1<v.w.heap.size:=λp e=>(yaA_.1 (h.own p e).1).1
  refine⟨⟨λp e=>?_,?_,λb m=>?_⟩,C,G,E,by simp[A],λb F _=>y b F,λ_ h=>h,λ_ h=>.inl h,λb m=>?_,rfl,.inr B⟩
  . rcases yal_.1 e with rfl|e
    . refine⟨by grind,λhi=>?_⟩
      have:=h.lt _ hi;grind
    . exact⟨by show w'.heap[p.1]? = _;rw[y _ (x p e)];exact (h.own p e).1,(h.own p e).2⟩
  . grind[Vw.sat.nodup]
  . have:=h.lt b m
    grind
  grind
theorem oZ_ {h:Op} {β:Type} {x:β->Nat->Value} {o:β->Obj} (q:β->Prop) (O:Nat.blt d N.n=true)
    (L:∀ a v,Fr.sat N fr a->v.sat H->ag_ Γ v->∃ y w',q y/\(execOp a.eval ⟨some d,h,ty,ps,af,none⟩).run P v.w=.ok (.value (x y v.w.heap.size)) w'/\w'.heap=v.w.heap.push (o y)/\w'.os=v.w.os/\w'.tape=v.w.tape/\w'.output=v.w.output/\v.w.drawn<=w'.drawn)
    (hk:∀ y b,q y->Ops P R N v0 H0 ops l K ((d,x y b)::fr) ((b,o y)::H) Γ):Ops P R N v0 H0 ops (⟨some d,h,ty,ps,af,none⟩::l) K fr H Γ :=
  cQ_ rfl λa v A e F m=>by
    obtain⟨y,w',J,E,B,I,Q,M,G⟩:=L a v A e m;unfold Oper.wp;rw[E];obtain⟨C,k⟩:=ij_ e B I Q M G;exact hk y v.w.heap.size J _ ⟨v.im,w',v.sl⟩ (A.put O) C (F.trans k) (aT_ (k.le e) m)
theorem hm_ {e:Op} {x:Nat->Value} {o:Obj} (A:Nat.blt d N.n=true)
    (h:∀ a v,Fr.sat N fr a->v.sat H->ag_ Γ v->(execOp a.eval ⟨some d,e,ty,ps,af,none⟩).run P v.w=.ok (.value (x v.w.heap.size)) (v.w.alloc o))
    (hk:∀ b,Ops P R N v0 H0 ops l K ((d,x b)::fr) ((b,o)::H) Γ):Ops P R N v0 H0 ops (⟨some d,e,ty,ps,af,none⟩::l) K fr H Γ :=
  oZ_ (β:=Unit) (x:=λ_ b=>x b) (o:=λ_=>o) (λ_=>True) A (λa v y k m=>⟨(),v.w.alloc o,trivial,h a v y k m,rfl,rfl,rfl,rfl,yad_ _⟩) (λ_ b _=>hk b)
theorem L_ {t:TypeId} {x:Operand} {u:Value} (k:Fr.ev fr x=some u) (h:Nat.blt d N.n=true)
    (hk:∀ b,Ops P R N v0 H0 ops l K ((d,.pointer (some ⟨b,0,none⟩))::fr) ((b,.cells u.cells t (0,0))::H) Γ):Ops P R N v0 H0 ops (⟨some d,.box t x,ty,ps,af,none⟩::l) K fr H Γ :=
  hm_ (x:=λb=>.pointer (some ⟨b,0,none⟩)) h (λa v e _ _=>by simp[execOp,e.ev k,Instr.box,newVar,newRow,newObj];rfl) hk
theorem C_ {t:TypeId} {z:Value} (h:∀ w,(zeroValue t).run P w=.ok z w) (e:Nat.blt d N.n=true)
    (hk:∀ b,Ops P R N v0 H0 ops l K ((d,.pointer (some ⟨b,0,none⟩))::fr) ((b,.cells z.cells t (0,0))::H) Γ):Ops P R N v0 H0 ops (⟨some d,.alloc t,ty,ps,af,none⟩::l) K fr H Γ :=
  hm_ (x:=λb=>.pointer (some ⟨b,0,none⟩)) e (λa v k _ _=>by simp[execOp,h,Instr.alloc,newVar,newRow,newObj];rfl) hk
theorem gj_ {v:Vw} {i b:Nat} {o o':Obj} {w':World} (h:v.sat H) (hi:H[i]? = some (b,o)) (S:w'.os=v.w.os) (J:w'.tape=v.w.tape) (T:w'.output=v.w.output) (O:v.w.drawn<=w'.drawn) (G:w'.heap.size=v.w.heap.size)
    (I:w'.heap[b]? = some o') (C:∀ k,k≠b->w'.heap[k]? = v.w.heap[k]?):(⟨v.im,w',v.sl⟩:Vw).sat (H.set i (b,o'))/\v.to H ⟨v.im,w',v.sl⟩ (H.set i (b,o')):=by
  have hm:=yab_ hi
  have F:(H.set i (b,o')).map Prod.fst=H.map Prod.fst:=by
    rw[List.map_set]
    apply yaS_
    grind
  refine⟨⟨λp L=>?_,by grind[Vw.sat.nodup],λx E=>?_⟩,S,J,T,by simp[G],λx _ Q=>C x (λe=>Q ?_),λ_ h=>h,λ_ h=>.inl h,λx E=>.inl zak_,rfl,.inr O⟩
  . obtain⟨j,m⟩:=yaJ_ L
    rw[yck_]at m
    split at m
    . rename_i y
      subst y
      split at m
      . simp only[yah_]at m;subst m
        exact⟨I,(h.own _ hm).2⟩
      . cases m
    . rename_i y
      have A:=yab_ m
      have B:p.1≠b:=λe=>by
        have M:=h.nodup;have V:(H.map Prod.fst)[i]? = some b:=by simp[hi]
        have U:(H.map Prod.fst)[j]? = some b:=by grind
        grind[List.getElem_inj]
      exact⟨by show w'.heap[p.1]? = _;rw[C _ B];exact (h.own p A).1,(h.own p A).2⟩
  . show x<w'.heap.size
    rw[G];exact h.lt x E
  grind
theorem p_ {t:TypeId} {x y:Operand} {b off n:Nat} (i:Nat) {cur:Array Value} {T:TypeId} {u:Value} (L:∀ w,(sizeOf t).run P w=.ok n w)
    (M:Fr.ev fr x=some (.pointer (some ⟨b,off,none⟩))) (I:Fr.ev fr y=some u) (hi:H[i]? = some (b,.cells cur T (0,0))) (A:u.cells.size=n) (F:Nat.ble (off+n) cur.size=true) (h:u.cells.toList.all Value.oneCell'=true)
    (hk:Ops P R N v0 H0 ops l K fr (H.set i (b,.cells (cur.toList.take off++u.cells.toList++cur.toList.drop (off+n)).toArray T (0,0))) Γ) :
    Ops P R N v0 H0 ops (⟨none,.store t x y,ty,ps,af,none⟩::l) K fr H Γ :=
  cQ_ rfl λa v B m J Q=>by
    have C:=(m.own _ (yab_ hi)).1;have e:=run_storeCells_at P b off T u.cells.toList 0 cur v.w C (by simp[A];exact yaG_ F) (λc S=>ybb_.1 h c S)
    have O:(execOp a.eval ⟨none,.store t x y,ty,ps,af,none⟩).run P v.w=.ok .skip (v.w.setRow b (cur.toList.take off++u.cells.toList++cur.toList.drop (off+n)).toArray):=by
      simp only[ycX_,ycc_,A]at e;simp[execOp,B.ev M,B.ev I,Instr.storeAt,Instr.sureAddr,storeVar,L,A,e]
    unfold Oper.wp;rw[O];obtain⟨G,E⟩:=gj_ (w':=v.w.setRow b (cur.toList.take off++u.cells.toList++cur.toList.drop (off+n)).toArray) m hi rfl rfl rfl (yad_ _) zai_ (setRow_heap _ _ _ _ _ _ C) (λk hk=>setRow_other _ _ _ _ hk);exact hk a _ B G (J.trans E) (aT_ (E.le m) Q)
theorem eQ_ {s:TypeId} {x:Operand} {f b off o:Nat} {h:Array Field} {e:Field} {n:Nat} (y:∀ w,(underlying s).run P w=.ok (.struct h) w) (B:Fr.ev fr x=some (.pointer (some ⟨b,off,none⟩))) (k:h[f]? = some e) (m:e.offset=o)
    (A:∀ w,(sizeOf e.type).run P w=.ok (n+1) w) :
    Yld P N fr H Γ (.fieldAddr s x f) ty (.pointer (some ⟨b,off+o,none⟩)) :=
  λa v C E _ _ _ _=>by simp[execOp,C.ev B,Instr.fieldAt,y,k,Instr.sureAddr,fieldPlace,A,ck_,m]
theorem ft_ {t e:TypeId} {x y:Operand} {b off len cap n:Nat} {k:IntKind} {i:Int} (A:∀ w,(underlying t).run P w=.ok (.slice e) w) (C:∀ w,(sizeOf e).run P w=.ok n w)
    (E:Fr.ev fr x=some (.slice (some ⟨b,off,none⟩) len cap)) (m:Fr.ev fr y=some (.int k i)) (B:0<=i) (hl:i<len) :
    Yld P N fr H Γ (.indexAddr t x y) ty (.pointer (some ⟨b,off+i.toNat*n,none⟩)) :=
  λa v h F _ _ _ _=>by simp[execOp,h.ev E,h.ev m,Instr.indexAt,A,asIntOf,C,ck_,B,hl]
theorem db_ {t e:TypeId} {x y:Operand} {b off len n:Nat} {k:IntKind} {i:Int} (A:∀ w,(underlying t).run P w=.ok (.array len e) w) (C:∀ w,(sizeOf e).run P w=.ok n w)
    (E:Fr.ev fr x=some (.pointer (some ⟨b,off,none⟩))) (m:Fr.ev fr y=some (.int k i)) (B:0<=i) (hl:i<len) :
    Yld P N fr H Γ (.indexAddr t x y) ty (.pointer (some ⟨b,off+i.toNat*n,none⟩)) :=
  λa v h F _ _ _ _=>by simp[execOp,h.ev E,h.ev m,Instr.indexAt,A,asIntOf,C,Instr.sureAddr,ck_,B,hl]
theorem lH_ {x:Operand} {ad:Addr} (h:Fr.ev fr x=some (.pointer (some ad))) :
    Yld P N fr H Γ (.nilCheck x) ty (.pointer (some ad)) :=
  λa v e k _ _ _ _=>by simp[execOp,e.ev h]
theorem dS_ {x:Operand} {t e:TypeId} {ad:Ao} {len cap:Nat} (k:∀ w,(underlying t).run P w=.ok (.slice e) w) (m:Fr.ev fr x=some (.slice ad len cap)) :
    Yld P N fr H Γ (.call ⟨.builtin .len,#[x],#[t]⟩) ty (.int .i64 (len:Int)) :=
  λa v h y _ _ _ _=>by simp[execOp,resolve,invoke,builtin,Builtin.len_,h.ev m,k,goInt]
theorem dK_ {x:Operand} {i:Nat} {vs:Array Value} {u:Value} (k:Fr.ev fr x=some (.tuple vs)) (e:lg vs.toList i=some u) :
    Yld P N fr H Γ (.extract x i) ty (u) :=
  λa v h m _ _ _ _=>by
    rw[lg_eq,ybU_]at e;simp[execOp,h.ev k,Instr.extract,e]
def str (l:List UInt8):Value:=.string ⟨l.toArray⟩
theorem str_of (s:ByteArray):Value.string s=str s.data.toList:=rfl
theorem dR_ {t k:TypeId} {x y:Operand} {m n:List UInt8} (A:Fr.ev fr x=some (str m)) (h:Fr.ev fr y=some (str n)) :
    Yld P N fr H Γ (.binOp .eql t x y k) ty (.bool ((m==n))) :=
  λa v e _ _ _ _ _=>by simp[execOp,e.ev A,e.ev h,str,eqGuard,binOp,Op.stringOp]
theorem dQ_ {t k:TypeId} {x y:Operand} {m n:List UInt8} (A:Fr.ev fr x=some (str m)) (h:Fr.ev fr y=some (str n)) :
    Yld P N fr H Γ (.binOp .neq t x y k) ty (.bool ((m != n))) :=
  λa v e _ _ _ _ _=>by simp[execOp,e.ev A,e.ev h,str,eqGuard,binOp,Op.stringOp,bne]
theorem cP_ {t A:TypeId} {x y:Operand} {m n:List UInt8} (B:Fr.ev fr x=some (str m)) (k:Fr.ev fr y=some (str n)) (hl:m.length+n.length<=9223372036854775807) :
    Yld P N fr H Γ (.binOp .add t x y A) ty (str (m++n)) :=
  λa v e _ _ _ _ _=>by
    have h:=run_string_add_sum (P:=P) v.w ⟨m.toArray⟩ ⟨n.toArray⟩ (by grind[ByteArray.size]);rw[ByteArray.mk_append_mk]at h;simp[execOp,e.ev B,e.ev k,str,eqGuard,binOp_string_add,h]
theorem dp_ {x:Operand} {t:TypeId} {m:List UInt8} (h:∀ w,(underlying t).run P w=.ok .string w) (k:Fr.ev fr x=some (str m)) :
    Yld P N fr H Γ (.call ⟨.builtin .len,#[x],#[t]⟩) ty (.int .i64 (m.length:Int)) :=
  λa v e y _ _ _ _=>by simp[execOp,resolve,invoke,builtin,Builtin.len_,e.ev k,h,goInt,str];rfl
theorem cs_ {x y:Operand} {t:TypeId} {m:List UInt8} {k:IntKind} {i:Int} {c:UInt8} (A:∀ w,(underlying t).run P w=.ok .string w) (E:Fr.ev fr x=some (str m)) (h:Fr.ev fr y=some (.int k i)) (B:0<=i) (F:m[i.toNat]? = some c) :
    Yld P N fr H Γ (.index t x y) ty (.int .u8 (c.toNat:Int)) :=
  λa v e G _ _ _ _=>by
    have hl:i.toNat<m.length:=(yaf_.1 F).1
    have C:(⟨m.toArray⟩:ByteArray)[i.toNat]? = some c:=by
      rw[ByteArray.getElem?_lt' _ _ (by grind[ByteArray.size])];have:(⟨m.toArray⟩:ByteArray)[i.toNat]'(by grind[ByteArray.size])=m[i.toNat]:=rfl
      grind
    simp[execOp,Instr.index,e.ev E,e.ev h,asIntOf,A,str,B,C]
def fk_ (P:Program) (f:FuncId):Prop:=∀ args w,(callFunc f args).run P w=.ok (.enter f args) w
theorem callable {f : FuncId} {fn : Func} {c : Code} (h : P.funcs[f]? = some fn) (k : fn.body = some c) (m : (fn.name == "runtime.NumGoroutine") = false) : fk_ P f := by
  intro args w;have e : ¬ fn.name = "runtime.NumGoroutine" := by grind
  simp[callFunc,run_program,h,k,e]
structure Tri (P:Program) (f:FuncId) (args:Array Value) (H:Hp) (Γ:List Fct) {ι:Type} (ret:ι->Value) (H':ι->Hp) (Γ':ι->List Fct):Prop where
  callable:fk_ P f
  run:∀ v,v.sat H->ag_ Γ v->Calls P f args v.w λe w'=>∃ x v',e=.returned (ret x)/\v'.w=w'/\v'.sat (H' x)/\ag_ (Γ' x) v'/\v.to H v' (H' x)
def Fr.evs (fr:Fr):List Operand->Option (List Value)
  | []=>some []
  | x::r=>match Fr.ev fr x with
    | some v=>match Fr.evs fr r with
      | some vs=>some (v::vs)
      | none=>none
    | none=>none
theorem Fr.sat.evs {a:Act} (h:Fr.sat N fr a):∀ {xs:List Operand} {vs:List Value},Fr.evs fr xs=some vs->xs.map a.eval=vs
 | [],vs,e=>by grind[Fr.evs]
 | x::r,vs,e=>by
   simp only[Fr.evs]at e
   split at e
   . rename_i u m
     split at e
     . rename_i us k
       simp only[yah_]at e;subst e;rw[yar_,h.ev m,h.evs k]
     . cases e
   . cases e
theorem qI_ {A:Op} {f:FuncId} {vs:List Value} {ι:Type} {Hc F:Hp} {E:List Fct} {k:ι->Value} {H':ι->Hp} {Γ':ι->List Fct}
    (Q:Tri P f vs.toArray Hc E k H' Γ') (O:∀ a v,Fr.sat N fr a->(execOp a.eval ⟨some d,A,ty,ps,af,none⟩).run P v=.ok (.enter f vs.toArray) v)
    (y:H.Perm (Hc++F)) (I:∀ v,v.sat H->ag_ Γ v->ag_ E v) (S:Nat.blt d N.n=true)
    (hk:∀ x,Ops P R N v0 H0 ops l K ((d,k x)::fr) (H' x++F) (Γ' x++Γ)):Ops P R N v0 H0 ops (⟨some d,A,ty,ps,af,none⟩::l) K fr H Γ :=
  cQ_ rfl λa v C m L B=>by
    unfold Oper.wp;rw[O a v.w C];have h:=m.perm y;refine (Q.run v h.sub (I v m B)).mono ?_;rintro e w' ⟨x,J,rfl,rfl,G,M,T⟩;obtain⟨k1,k2⟩:=T.frame h G;exact hk x _ J (C.put S) k1 (L.trans (k2.permL y.symm)) (ff_.2 ⟨M,aT_ (k2.le h) B⟩)
theorem f_ {f:FuncId} {xs:List Operand} {h:Array TypeId} {vs:List Value} {ι:Type} {Hc F:Hp} {m:List Fct} {e:ι->Value} {H':ι->Hp} {Γ':ι->List Fct}
    (k:Tri P f vs.toArray Hc m e H' Γ') (B:Fr.evs fr xs=some vs) (A:H.Perm (Hc++F)) (y:∀ v,v.sat H->ag_ Γ v->ag_ m v) (E:Nat.blt d N.n=true)
    (hk:∀ x,Ops P R N v0 H0 ops l K ((d,e x)::fr) (H' x++F) (Γ' x++Γ)) :
    Ops P R N v0 H0 ops (⟨some d,.call ⟨.value (.func f),xs.toArray,h⟩,ty,ps,af,none⟩::l) K fr H Γ :=
  qI_ k (λa w C=>by
    have:=C.evs B;simp[execOp,resolve,Deferred.ofValue,Act.eval,invoke,this,k.callable _ w]) A y E hk
theorem aq_ {f:FuncId} {xs:List Operand} {e:Array TypeId} {vs:List Value} {Hc F:Hp} {h:List Fct} {X:Bool}
    (m:Tri P f vs.toArray Hc h (λ_:Unit=>.bool X) (λ_=>Hc) (λ_=>[])) (A:Fr.evs fr xs=some vs) (x:H.Perm (Hc++F)) (k:∀ v,v.sat H->ag_ Γ v->ag_ h v) (y:Nat.blt d N.n=true)
    (hk:∀ r:Bool,X=r->Ops P R N v0 H0 ops l K ((d,.bool r)::fr) (Hc++F) Γ) :
    Ops P R N v0 H0 ops (⟨some d,.call ⟨.value (.func f),xs.toArray,e⟩,ty,ps,af,none⟩::l) K fr H Γ :=
  f_ m A x k y λ_=>hk X rfl
end ops
section body
variable {P:Program} {N:Nf} {fr:Fr} {H:Hp} {Γ:List Fct}
def nF_ {ι:Type} (v0:Vw) (H0:Hp) (ret:ι->Value) (H':ι->Hp) (Γ':ι->List Fct) (e:Ending) (w':World):Prop :=
  ∃ x v',e=.returned (ret x)/\v'.w=w'/\v'.sat (H' x)/\ag_ (Γ' x) v'/\v0.to H0 v' (H' x)
def lX_ (i:Nat):List Value->Fr
  | []=>[]
  | x::r=>(i,x)::lX_ (i+1) r
theorem kC_:∀ (l:List Value) (i t:Nat) (v:Value),Fr.get (lX_ i l) t=some v->i<=t/\l[t - i]? = some v
 | [],i,t,v,h=>by grind[lX_,Fr.get]
 | x::r,i,t,v,h=>by
   simp only[lX_,Fr.get]at h
   by_cases e:i=t
   . grind[Nat.beq_refl]
   . have k:Nat.beq i t=false:=by
       grind[Nat.eq_of_beq_eq_true]
     rw[k,cond_false]at h;obtain⟨y,m⟩:=kC_ r (i+1) t v h
     grind
theorem j_ {N:Nat} {f:FuncId} {fn:Func} {c:Code} {args:List Value} {ι:Type} {e:ι->Value} {H':ι->Hp} {Γ':ι->List Fct}
    (y : P.funcs[f]? = some fn) (A : fn.body = some c) (F : (fn.name == "runtime.NumGoroutine") = false) (I : fn.ntmps = N) (hl : Nat.ble args.length N = true)
    (h:∀ v0,Run P (bodyPost P fn (nF_ v0 H e H' Γ')) N v0 H c [] (lX_ 0 args) H Γ):Tri P f args.toArray H Γ e H' Γ':=by
  refine⟨callable y A F,λv G B=>calls_of_wp y A ?_⟩;have C:args.length<=N:=yaG_ hl;have:=h v ⟨args.toArray++Array.replicate (fn.ntmps - args.toArray.size) undef,[]⟩ v ⟨by simp[I];omega,rfl,λt x E=>?_⟩ G (Vw.to.refl _ _) B
  . exact this
  . obtain⟨_,m⟩:=kC_ args 0 t x E
    simp only[Nat.sub_zero]at m;have k:=(yaf_.1 m).1;rw[ybC_ zaC_];simpa using m
theorem ac_ {N:Nat} {fn:Func} {t:Nat} {ι:Type} {v0:Vw} {H0 F:Hp} {ret:ι->Value} {H':ι->Hp} {Γ':ι->List Fct} (y:fn.results=#[.tmp t]) (x:ι) (B:Fr.get fr t=some (ret x)) (m:H.Perm (H' x++F))
    (h:∀ v,v.sat H->ag_ Γ v->ag_ (Γ' x) v):Ok N v0 H0 (bodyPost P fn (nF_ v0 H0 ret H' Γ') .ret) fr H Γ :=
  es_ m h λa v e k A C=>⟨e.defers,ret x,by rw[results_tmp y];have:=e.val t _ B;simp[this],x,v,rfl,rfl,k,C,A⟩
theorem eI_ {N:Nat} {fn:Func} {t s:Nat} {ι:Type} {v0:Vw} {H0 F:Hp} {ret:ι->Value} {H':ι->Hp} {Γ':ι->List Fct} {y m:Value} (E:fn.results=#[.tmp t,.tmp s]) (x:ι) (k:Fr.get fr t=some y) (e:Fr.get fr s=some m) (J:.tuple #[y,m]=ret x) (C:H.Perm (H' x++F))
    (A:∀ v,v.sat H->ag_ Γ v->ag_ (Γ' x) v):Ok N v0 H0 (bodyPost P fn (nF_ v0 H0 ret H' Γ') .ret) fr H Γ :=
  es_ C A λa v h B I M=>⟨h.defers,ret x,by rw[results_tmp2 E,<-J];have L:=h.val t _ k;have G:=h.val s _ e;simp[L,G],x,v,rfl,rfl,B,M,I⟩
theorem z_ {t:Nat} {x y:Bool} (h:Fr.get fr t=some (.bool x)) (e:x=y):Fr.get fr t=some (.bool y):=e▸h
theorem bi_ {t:Nat} {k:IntKind} {x y:Int} (h:Fr.get fr t=some (.int k x)) (e:x=y):Fr.get fr t=some (.int k y):=e▸h
theorem fK_ {t:Nat} {x y:List UInt8} (h:Fr.get fr t=some (str x)) (e:x=y):Fr.get fr t=some (str y):=e▸h
theorem ec_ {t:Nat} {x y:Value} (h:Fr.get fr t=some x) (e:x=y):Fr.get fr t=some y:=e▸h
abbrev Fn0 (P:Program) (f:FuncId) (args:Array Value) (ret:Value):Prop:=Tri P f args [] [] (λ_:Unit=>ret) (λ_=>[]) (λ_=>[])
end body
section cut
variable {P:Program} {N:Nf} {v0:Vw} {H0:Hp} {R:Exit->Act->World->Prop} {K:List Kt} {fr:Fr} {H:Hp} {Γ:List Fct}
def Mid (N:Nf) (v0:Vw) (H0:Hp) {ι:Type} (frs:ι->Fr) (Hs:ι->Hp) (Γs:ι->List Fct) (e:Exit) (a:Act) (w:World):Prop :=
  e=.normal/\∃ i v,v.w=w/\Fr.sat N (frs i) a/\v.sat (Hs i)/\v0.to H0 v (Hs i)/\ag_ (Γs i) v
theorem hj_ {ι:Type} {c:Code} (h:ι->Fr) (Hs:ι->Hp) (k:ι->List Fct) (F:Run P (Mid N v0 H0 h Hs k) N v0 H0 c [] fr H Γ) (A:∀ i,Fin P R N v0 H0 K (h i) (Hs i) (k i)):Run P R N v0 H0 c K fr H Γ:=by
  intro a v x B I m;refine wp_mono (F a v x B I m) ?_;rintro e E w' ⟨rfl,i,y,rfl,k1,k2,C,G⟩;exact A i E y k1 k2 C G
theorem dh_ {ι:Type} {e:ι->Fr} {Hs:ι->Hp} {k:ι->List Fct} (i:ι) {F:Hp} (h:Fr.le (e i) fr) (y:H.Perm (Hs i++F)) (m:∀ v,v.sat H->ag_ Γ v->ag_ (k i) v) :
    Ok N v0 H0 (Mid N v0 H0 e Hs k .normal) fr H Γ :=
  bF_ (e i) h (es_ y m λ_ v B x C A=>⟨rfl,i,v,rfl,B,x,C,A⟩)
end cut
end Go.Sx
namespace Go.Sx
open Go
def bW_ (v:Vw) (ad:Ao) (cs:List Value):Prop :=
  cs=[]\/∃ b off arr T fz,ad=some ⟨b,off,none⟩/\v.im b/\v.w.heap[b]? = some (.cells arr T fz)/\∀ j x,cs[j]? = some x->arr[off+j]? = some x
def X_ (ad:Ao) (cs:List Value):Fct where
 p:=λv=>bW_ v ad cs
 mono:=λv v' h hp=>by
   rcases hp with hp|⟨b,off,arr,T,fz,h1,h2,h3,h4⟩
   . exact .inl hp
   . exact .inr ⟨b,off,arr,T,fz,h1,h.imUp b h2,by rw[h.block b h2];exact h3,h4⟩
def bas (ad:Ao):Addr:=ad.getD ⟨0,0,none⟩
def rad (ad:Ao) (k:Nat):Addr:=⟨(bas ad).block,(bas ad).off+k,none⟩
theorem bW_.addr {v:Vw} {ad:Ao} {cs:List Value} (h:bW_ v ad cs) (m:cs≠[]):∃ b off,ad=some ⟨b,off,none⟩:=by
  rcases h with h|⟨b,off,e,T,fz,k,_⟩
  all_goals grind
theorem bW_.cell {v:Vw} {ad:Ao} {cs:List Value} {k:Nat} {x:Value} (h:bW_ v ad cs) (y:cs[k]? = some x):v.w.cell? (rad ad k)=some x:=by
  rcases h with h|⟨b,off,e,T,fz,rfl,_,m,A⟩
  all_goals grind[rad,bas,World.cell?]
theorem bW_.drop {v:Vw} {ad:Ao} {cs:List Value} (h:bW_ v ad cs) (n:Nat) (e:List Value) (A:∀ j x,e[j]? = some x->cs[n+j]? = some x):bW_ v (ad.map (·.add n)) e:=by
 rcases h with h|⟨b,off,k,T,fz,rfl,m,y,C⟩
 .subst h
  left
  cases e with
  | nil=>rfl
  | cons d e=>have:=A 0 d rfl;grind
 exact .inr ⟨b,off+n,k,T,fz,by grind[ck_],m,y,λj x B=>by grind⟩
theorem kD_ {α:Type} (f:α->List Value) (n:Nat) (e:∀ x,(f x).length=n):∀ (l:List α) (i j:Nat) (x:α),l[i]? = some x->j<n->(l.flatMap f)[i*n+j]? = (f x)[j]?
  | [],i,j,x,h,_=>by simp at h
  | y::l,0,j,x,h,hj=>by
    grind
  | y::l,i+1,j,x,h,hj=>by
    simp only[yaT_];rw[ybD_ zak_,e,show (i+1)*n+j - n=i*n+j by grind];exact kD_ f n e l i j x zak_ hj
theorem ch_ {α:Type} (f:α->List Value) (n:Nat) (e:∀ x,(f x).length=n):∀ (l:List α),(l.flatMap f).length=l.length*n
  | []=>by simp
  | y::l=>by simp only[yaT_,yaj_,e,yak_,ch_ f n e l,ybE_];omega
section ops
variable {P:Program} {N:Nf} {v0:Vw} {H0:Hp} {R:Exit->Act->World->Prop} {K:List Kt} {fr:Fr} {H:Hp} {Γ:List Fct}
variable {ops:Array Oper} {l:List Oper} {d:Nat} {ty:TypeId} {ps:String} {af:Array Edge}
theorem P_ {t e:TypeId} {x y:Operand} {ad:Ao} {len cap n:Nat} {k:IntKind} {i:Int} (B:∀ w,(underlying t).run P w=.ok (.slice e) w) (E:∀ w,(sizeOf e).run P w=.ok n w)
    (F:Fr.ev fr x=some (.slice ad len cap)) (m:Fr.ev fr y=some (.int k i)) (G:∀ v,v.sat H->ag_ Γ v->∃ b off,ad=some ⟨b,off,none⟩) (C:0<=i) (hl:i<len) :
    Yld P N fr H Γ (.indexAddr t x y) ty (.pointer (some (rad ad (i.toNat*n)))) :=
  λa v h A I _ _ _=>by
    obtain⟨b,off,rfl⟩:=G v A I;simp[execOp,h.ev F,h.ev m,Instr.indexAt,B,asIntOf,E,ck_,C,hl,rad,bas]
theorem ol_ {s:TypeId} {x:Operand} {f k o:Nat} {ad:Ao} {h:Array Field} {e:Field} {n:Nat} (A:∀ w,(underlying s).run P w=.ok (.struct h) w) (C:Fr.ev fr x=some (.pointer (some (rad ad k)))) (m:h[f]? = some e) (y:e.offset=o)
    (B:∀ w,(sizeOf e.type).run P w=.ok (n+1) w) :
    Yld P N fr H Γ (.fieldAddr s x f) ty (.pointer (some (rad ad (k+o)))) :=
  λa v E F _ _ _ _=>by simp[execOp,E.ev C,Instr.fieldAt,A,m,Instr.sureAddr,fieldPlace,B,rad,ck_,y,Nat.add_assoc]
theorem bw_ {t:TypeId} {x:Operand} {ad:Ao} {k:Nat} {cs:List Value} {u:Value} (e:∀ w,(isAgg t).run P w=.ok false w) (B:Fr.ev fr x=some (.pointer (some (rad ad k))))
    (y:∀ v,v.sat H->ag_ Γ v->bW_ v ad cs) (A:cs[k]? = some u):Yld P N fr H Γ (.load t x) ty u :=
  gs_ B (λv h m=>cc_ e ((y v h m).cell A))
theorem ak_ {t:TypeId} {x:Operand} {ad:Ao} {k n:Nat} {cs us:List Value} (F:∀ w,(isAgg t).run P w=.ok true w) (A:∀ w,(sizeOf t).run P w=.ok n w) (B:Fr.ev fr x=some (.pointer (some (rad ad k))))
    (h:∀ v,v.sat H->ag_ Γ v->bW_ v ad cs) (C:us.length=n) (m:∀ j y,us[j]? = some y->cs[k+j]? = some y):Yld P N fr H Γ (.load t x) ty (.agg us.toArray) :=
  gs_ B (λv e G=>dT_ F A C (λj y E=>by
    have:=(h v e G).cell (m j y E)
    grind[rad]))
theorem et_ {k:Act->World->Prop} {b:Nat} {o:Obj} {F:Hp} (f:Fct) (C:H.Perm ((b,o)::F)) (L:∀ v:Vw,v.im b->v.w.heap[b]? = some o->ag_ Γ v->f.p v) (h:Ok N v0 H0 k fr F (f::Γ)):Ok N v0 H0 k fr H Γ:=by
 intro a v O G m J;have g:=G.perm C;have I:=g.own (b,o) (yao_);have M:b<v.w.heap.size:=(yaA_.1 I.1).1;have y:=g.nodup;rw[yar_,ybt_]at y;have B:v.le ⟨λx=>v.im x\/x=b,v.w,v.sl⟩:=⟨λx e=>.inl e,λ_ _=>rfl,rfl⟩;have A:b∈H.map Prod.fst:=(C.map Prod.fst).mem_iff.2 zai_;refine h a ⟨λx=>v.im x\/x=b,v.w,v.sl⟩ O ⟨λp E=>⟨(g.own p (yaK_ _ E)).1,λhi=>?_⟩,y.2,λx e=>?_⟩ ?_ ⟨L _ (.inr rfl) I.1 (aT_ B J),aT_ B J⟩
 .rcases hi with hi|hi
  .exact (g.own p (yaK_ _ E)).2 hi
  grind
 .rcases e with e|e
  .exact G.lt x e
  grind
 refine⟨m.os,m.tape,m.output,m.size,m.block,λx e=>.inl (m.imUp x e),λx e=>?_,λx e=>m.hNew x ((C.map Prod.fst).mem_iff.2 zak_),m.sl,m.dr⟩;rcases e with e|e
 .exact m.imNew x e
 exact .inr (e▸m.hNew b A)
def at_ (e:TypeId) (sz:Nat) (sv:Value) (n:Nat) (xs:List Value) (Hr:Hp):Prop :=
  xs.length=n*sz/\((sv=.slice none 0 0/\n=0/\Hr=[])\/
    ∃ g cap cur,sv=.slice (some ⟨g,0,none⟩) n cap/\Hr=[(g,.cells cur e (0,0))]/\n<=cap/\cap<=maxLen/\cur.size=cap*sz/\cur.toList.take (n*sz)=xs)
theorem at_.nil (e:TypeId) (sz:Nat):at_ e sz (.slice none 0 0) 0 [] []:=⟨by simp,.inl ⟨rfl,rfl,rfl⟩⟩
theorem at_.owns {e:TypeId} {sz n:Nat} {sv:Value} {xs:List Value} {Hr F:Hp} {v:Vw} (h:at_ e sz sv n xs Hr) (x:v.sat (Hr++F)):v.w.ownsRow 0 e sz sv n xs:=by
 refine⟨h.1,?_⟩;rcases h.2 with⟨k,C,_⟩|⟨g,cap,cur,k,rfl,m,A,B,y⟩
 .grind
 exact .inr ⟨g,cap,cur,k,ybm_ _,(x.own (g,.cells cur e (0,0)) zai_).1,m,A,B,y⟩
theorem jM_ {e:TypeId} {sz n n':Nat} {sv sv':Value} {xs ys:List Value} {Hr F:Hp} {v:Vw} {w':World} (h:at_ e sz sv n xs Hr) (E:v.sat (Hr++F)) (O:w'.ownsRow 0 e sz sv' n' ys) (y:v.w.grownBy w' sv.ownBlock) (S:v.w.drawn<=w'.drawn)
    (G:∀ g,sv'.ownBlock=some g->sv.ownBlock=some g\/v.w.heap.size<=g) :
    ∃ k,at_ e sz sv' n' ys k/\(⟨v.im,w',v.sl⟩:Vw).sat (k++F)/\v.to (Hr++F) ⟨v.im,w',v.sl⟩ (k++F):=by
  have M:∀ p,p∈Hr++F->p.1<v.w.heap.size:=λp m=>(yaA_.1 (E.own p m).1).1
  have A:∀ b,sv.ownBlock=some b->b∈Hr.map Prod.fst:=λb B=>by
    rcases h.2 with⟨rfl,_,_⟩|⟨g,cap,cur,rfl,rfl,_⟩
    all_goals grind[Value.ownBlock]
  have C:=E.nodup;rw[yaz_,ybe_]at C;have X:∀ p,p∈F->some p.1≠sv.ownBlock:=λp m e=>C.2.2 _ (A p.1 e.symm) _ (yaZ_ m) rfl
  have I:∀ p,p∈F->w'.heap[p.1]? = some p.2/\¬ v.im p.1:=λp m=>by
    have:=E.own p (yaF_ _ m);exact⟨by rw[y.block _ (M p (yaF_ _ m)) (X p m)];grind,this.2⟩
  have J:∀ k:Hp,(∀ b,b∈k.map Prod.fst->b∈Hr.map Prod.fst\/v.w.heap.size<=b)->v.to (Hr++F) ⟨v.im,w',v.sl⟩ (k++F):=λk hh=>by
    refine⟨y.os,y.tape,y.output,y.size,λb B Z=>y.block b B (λe=>Z ?_),λ_ h=>h,λ_ h=>.inl h,λb B=>?_,rfl,.inr S⟩
    all_goals grind
  rcases O.2 with⟨L,T⟩|⟨g,cap,cur,L,_,Y,U,V,h6,W⟩
  . refine⟨[],⟨O.1,.inl ⟨L,T,rfl⟩⟩,⟨λp m=>I p zak_,by grind,λb B=>ybz_ (E.lt b B) y.size⟩,J [] zai_⟩
  . have x:g∈Hr.map Prod.fst\/v.w.heap.size<=g:=(G g (by rw[L];rfl)).imp (A g) id
    refine⟨[(g,.cells cur e (0,0))],⟨O.1,.inr ⟨g,cap,cur,L,rfl,U,V,h6,W⟩⟩,⟨λp m=>?_,?_,λb B=>ybz_ (E.lt b B) y.size⟩,J _ zak_⟩
    . rcases yai_.1 m with m|m
      . simp only[yam_]at m
        subst m;refine⟨Y,λhi=>?_⟩;rcases x with x|x
        . obtain⟨q,Q,rfl⟩:=yan_.1 x
          exact (E.own q (yax_ _ Q)).2 hi
        . have:=E.lt _ hi;omega
      grind
    . simp only[yaz_,yar_,ybf_,List.singleton_append,ybt_]
      refine⟨λhm=>?_,C.2.1⟩;obtain⟨q,Q,e⟩:=yan_.1 hm
      grind
theorem lD_ (w:World) {t ty' e:TypeId} {i:TypeInfo} {z:Value} {n m c sz:Nat} {sv J:Value} {w':World} {xs news:List Value} {ad:Addr} (B:P.underlying t=some (.slice e)) (hi:P.info? e=some i) (L:i.zero=some z)
    (E:i.size=sz) (k:w.ownsRow 0 e sz sv n xs) (hl:news.length=m*sz) (h:∀ j u,news[j]? = some u->w.cell? (ad.add j)=some u) (O:∀ u∈news,u.oneCell'=true) (Q:n+m<=maxLen) (M:(n+m)*i.bytes<=140737488355328)
    (x:(Builtin.append_ #[t,t] ty' #[sv,.slice (some ad) m c]).run P w=.ok J w'):w.drawn<=w'.drawn/\∀ g,J.ownBlock=some g->sv.ownBlock=some g\/w.heap.size<=g:=by
  subst E;have A:n+m<=9223372036854775807:=by grind[maxLen]
  rcases k.2 with⟨rfl,rfl⟩|⟨b,cap,cur,rfl,_,G,S,_,I,F⟩
  . by_cases hm:m=0
    . subst hm
      have T:news=[]:=yaw_ zak_;subst T
      have:(Builtin.append_ #[t,t] ty' #[.slice none 0 0,.slice (some ad) 0 c]).run P w=.ok (.slice none 0 0) w:=by
        simp[Builtin.append_,run_underlying B,sizeOf,typeInfo,hi,Builtin.lenOf,Builtin.firstCells,loadCells,loadCellsFrom]
      grind
    . have:=run_append_nil (P:=P) w t ty' e i z B hi L ad m c news hl h zaa_ zaa_ zak_
      rw[this]at x;cases x;refine⟨by simp,λg C=>?_⟩
      grind[Value.ownBlock]
  . by_cases v:n+m<=cap
    . have y:n*i.size+news.length<=cur.size:=by rw[hl,I,<-ybE_];exact yaU_ _ v
      have:=run_append_room (P:=P) w t ty' e i B hi b n cap cur G ad m c news hl h O v y;rw[this]at x;cases x;exact⟨by simp,λg C=>.inl C⟩
    . have ag_:∀ j u,xs[j]? = some u->w.cell? ((⟨b,0,none⟩:Addr).add j)=some u:=k.cells (g:=b) rfl
      have:=run_append_grow (P:=P) w t ty' e i z B hi L ⟨b,0,none⟩ n cap xs k.1 ag_ ad m c news hl h zaa_ zaa_ (growslice_fits zaa_ M);rw[this]at x;cases x;refine⟨by simp,λg C=>?_⟩
      grind[Value.ownBlock]
structure Elt (P:Program) (t e:TypeId) (sz by':Nat):Prop where
  und:P.underlying t=some (.slice e)
  info:∃ i z,P.info? e=some i/\i.zero=some z/\i.size=sz/\i.bytes=by'/\z.cells.size=sz
  pos:0<sz
theorem aH_ {x y:Operand} {t e:TypeId} {sz by' n m c:Nat} {sv:Value} {xs news:List Value} {Hr F:Hp} {ad:Addr} (E:Elt P t e sz by') (k:at_ e sz sv n xs Hr)
    (hx:Fr.ev fr x=some sv) (Y:Fr.ev fr y=some (.slice (some ad) m c)) (J:H.Perm (Hr++F)) (hl:news.length=m*sz) (A:∀ v,v.sat H->ag_ Γ v->∀ j u,news[j]? = some u->v.w.cell? (ad.add j)=some u) (C:∀ u∈news,u.oneCell'=true)
    (B:n+m<=maxLen) (V:(n+m)*by'<=140737488355328) (hN:Nat.blt d N.n=true)
    (hk:∀ sv' h,at_ e sz sv' (n+m) (xs++news) h->Ops P R N v0 H0 ops l K ((d,sv')::fr) (h++F) Γ) :
    Ops P R N v0 H0 ops (⟨some d,.call ⟨.builtin .append,#[x,y],#[t,t]⟩,ty,ps,af,none⟩::l) K fr H Γ :=
  cQ_ rfl λa v I G h3 M=>by
    obtain⟨i,z,hi,O,es,X,Z⟩:=E.info;have g:=G.perm J;have T:=A v G M;have Q:=k.owns g;obtain⟨U,w',S,W,q2,_⟩:=run_append_own (P:=P) v.w 0 t ty e i z sz by' E.und hi O es X Z E.pos sv n xs Q ad m c news hl T C B V (ybm_ _)
    obtain⟨a1,a2⟩:=lD_ v.w E.und hi O es Q hl T C B zak_ S;obtain⟨h,k1,k2,L⟩:=jM_ k g W q2 a1 a2;unfold Oper.wp execOp;simp only[resolve,invoke,builtin,Sem.run_bind,Sem.run_pure,Result.andThen_ok,ybc_,yar_,ybf_,I.ev hx,I.ev Y,S];exact hk U h k1 _ ⟨v.im,w',v.sl⟩ (I.put hN) k2 (h3.trans (L.permL J.symm)) (aT_ ((L.permL J.symm).le G) M)
theorem qj_ {t:TypeId} {parts:Array (Nat×Operand)} {u:Value} (m:∀ a:Act,Fr.sat N fr a->∀ w,(Instr.build t (parts.map λ(i,x)=>(i,a.eval x))).run P w=.ok u w) :
    Yld P N fr H Γ (.build t parts) ty (u) :=
  λa v k e h _ _ _=>by
    grind[execOp,Sem.run_bind,Result.andThen_ok,Sem.run_pure]
def Fr.evp (fr:Fr):List (Nat×Operand)->Option (List (Nat×Value))
  | []=>some []
  | (i,x)::r=>match Fr.ev fr x with
    | some v=>match Fr.evp fr r with
      | some vs=>some ((i,v)::vs)
      | none=>none
    | none=>none
theorem Fr.sat.evp {a:Act} (h:Fr.sat N fr a):∀ {xs:List (Nat×Operand)} {vs:List (Nat×Value)},Fr.evp fr xs=some vs->xs.map (λ(i,x)=>(i,a.eval x))=vs
 | [],vs,e=>by grind[Fr.evp]
 | (i,x)::r,vs,e=>by
   simp only[Fr.evp]at e
   split at e
   . rename_i u m
     split at e
     . rename_i us k
       simp only[yah_]at e;subst e;show (i,a.eval x)::_=_
       rw[h.ev m];exact yae_ _ (h.evp k)
     . cases e
   . cases e
def nw_:List Value->Nat->List Value->List Value
  | cs,0,[]=>cs
  | _::cs,0,v::vs=>v::nw_ cs 0 vs
  | c::cs,n+1,vs=>c::nw_ cs n vs
  | [],_,_=>[]
theorem tF_:∀ (cs:List Value) (n:Nat),nw_ cs n []=cs
  | [],0=>rfl
  | [],n+1=>rfl
  | c::cs,0=>rfl
  | c::cs,n+1=>by simp only[nw_];rw[tF_ cs n]
theorem qQ_:∀ (cs:List Value) (n:Nat) (v:Value) (vs:List Value),nw_ cs n (v::vs)=nw_ (cs.set n v) (n+1) vs
  | [],0,v,vs=>by simp[nw_]
  | [],n+1,v,vs=>by simp[nw_]
  | c::cs,0,v,vs=>by simp[nw_]
  | c::cs,n+1,v,vs=>by simp only[nw_,ycL_];rw[qQ_ cs n v vs]
theorem qZ_ (off:Nat):∀ (vs:List Value) (k:Nat) (cs:List Value),
    (vs.zipIdx k).foldl (λ(cs:Array Value) (p:Value×Nat)=>cs.setIfInBounds (off+p.2) p.1) cs.toArray=(nw_ cs (off+k) vs).toArray
  | [],k,cs=>by simp[tF_]
  | v::vs,k,cs=>by
    simp only[List.zipIdx_cons,ycV_];rw[qQ_,show cs.toArray.setIfInBounds (off+k) v=(cs.set (off+k) v).toArray by simp,qZ_ off vs (k+1)];rfl
def nk_ (place:Nat->Option (Nat×Nat)):List Value->List (Nat×Value)->Option (List Value)
  | cells,[]=>some cells
  | cells,(i,v)::rest=>match place i with
    | none=>none
    | some (off,size)=>bif Nat.beq v.cells.toList.length size&&Nat.ble (off+size) cells.length then nk_ place (nw_ cells off v.cells.toList) rest else none
theorem js_ (e:Nat->Option (Nat×Nat)):∀ (vs:List (Nat×Value)) (cells cs:List Value),nk_ e cells vs=some cs->Instr.fill e cells.toArray vs=some cs.toArray
  | [],cells,cs,h=>by simp only[nk_,yah_]at h;subst h;rfl
  | (i,v)::rest,cells,cs,h=>by
    simp only[nk_]at h;cases hp:e i with
    | none=>grind
    | some q =>
      obtain⟨off,size⟩:=q;rw[hp]at h;simp only at h;cases hb:(Nat.beq v.cells.toList.length size&&Nat.ble (off+size) cells.length) with
      | false=>grind
      | true =>
        rw[hb,cond_true]at h;simp only[yaL_]at hb;have k:v.cells.size=size:=by grind[Nat.eq_of_beq_eq_true]
        have x:off+size<=cells.length:=yaG_ hb.2;have m:=js_ e rest _ _ h;have y:=qZ_ off v.cells.toList 0 cells
        grind[Array.toList_zipIdx,Instr.fill]
def gr_ (P:Program) (t:TypeId) (pl:List (Nat×Nat)) (z:List Value):Prop :=
  ∃ fs:Array Field,(∀ w,(zeroValue t).run P w=.ok (.agg z.toArray) w)/\(∀ w,(underlying t).run P w=.ok (.struct fs) w)/\(∀ w,(fs.mapM (λ(f:Field)=>(do pure (f.offset,<-sizeOf f.type):Sem (Nat×Nat)))).run P w=.ok pl.toArray w)
theorem y_ {t:TypeId} {parts:List (Nat×Operand)} {vs:List (Nat×Value)} {pl:List (Nat×Nat)} {z cs:List Value} (m:gr_ P t pl z) (x:Fr.evp fr parts=some vs) (h:nk_ (λi=>pl[i]?) z vs=some cs) :
    Yld P N fr H Γ (.build t parts.toArray) ty (.agg cs.toArray) :=
  qj_ (λa B w=>by
    obtain⟨C,y,k,A⟩:=m;have:=B.evp x;rw[ybc_,this];have e:=js_ _ _ _ _ h;have v:Instr.fill (λi=>pl.toArray[i]?) z.toArray vs=some cs.toArray:=by simpa using e
    simp only[Instr.build,Sem.run_bind,y,Result.andThen_ok,k,A,Value.cells,v,Sem.run_pure])
def jV_ (z:List Value):Nat->List Value
  | 0=>[]
  | n+1=>z++jV_ z n
theorem sr_ (z:List Value) (e:0<z.length):∀ (n i:Nat),i<n*z.length->(jV_ z n)[i]? = z[i%z.length]?
 | 0,i,h=>by simp at h
 | n+1,i,h=>by
   simp only[jV_]
   by_cases hi:i<z.length
   . grind[Nat.mod_eq_of_lt]
   . rw[ybD_ zaa_,sr_ z e n (i - z.length) zak_]
     grind[Nat.mod_eq_sub_mod]
theorem of_ (z:List Value):∀ n,(jV_ z n).length=n*z.length
  | 0=>by simp[jV_]
  | n+1=>by simp only[jV_,yaj_,of_ z n,ybE_];omega
theorem ku_ (z:List Value) (e:0<z.length) (n:Nat):(Array.range (n*z.length)).map (λi=>z.toArray[i%z.toArray.size]!)=(jV_ z n).toArray:=by
  apply Array.ext'
  apply yaS_
  grind[sr_,of_]
theorem B_ {t e:TypeId} {len sz:Nat} {parts:List (Nat×Operand)} {vs:List (Nat×Value)} {m:Value} {cs:List Value} (I:∀ w,(underlying t).run P w=.ok (.slice e) w) (J:∀ w,(sizeOf e).run P w=.ok sz w) (Q:∀ w,(zeroValue e).run P w=.ok m w)
    (C:m.cells.toList.length=sz) (S:Nat.blt 0 (len*sz)=true) (B:Nat.ble (len*sz) 16777216=true) (L:Fr.evp fr parts=some vs) (G:nk_ (λi=>some (i*sz,sz)) (jV_ m.cells.toList len) vs=some cs) (M:Nat.blt d N.n=true)
    (hk:∀ b,Ops P R N v0 H0 ops l K ((d,.slice (some ⟨b,0,none⟩) len len)::fr) ((b,.cells cs.toArray e (0,0))::H) Γ):Ops P R N v0 H0 ops (⟨some d,.buildSlice t len parts.toArray,ty,ps,af,none⟩::l) K fr H Γ :=
  hm_ (x:=λb=>.slice (some ⟨b,0,none⟩) len len) M (λa v O T U=>by
    have y:=O.evp L;have h:=js_ _ _ _ _ G;have k:0<len*sz:=by grind[Nat.blt_eq]
    have F:0<sz:=Nat.pos_of_mul_pos_left k;have E:len*sz<=16777216:=yaG_ B;have A:=ku_ m.cells.toList zaa_ len;rw[C]at A;simp only[ycB_]at A;rw[<-A]at h;simp only[execOp,Instr.buildSlice,Sem.run_bind,I,Result.andThen_ok,J,ybc_,y];rw[yag_ zaa_,yag_ zaa_];simp only[Sem.run_bind,Sem.run_pure,Q,Result.andThen_ok,h];rfl) hk
end ops
end Go.Sx
namespace Go.Sx
open Go
section ops
variable {P:Program} {N:Nf} {v0:Vw} {H0:Hp} {R:Exit->Act->World->Prop} {K:List Kt} {fr:Fr} {H:Hp} {Γ:List Fct}
variable {ops:Array Oper} {l:List Oper} {d:Nat} {ty:TypeId} {ps:String} {af:Array Edge}
theorem ti_ (h:Array Obj) (o:Obj) (f:Obj->Obj):(h.push o).modify h.size f=h.push (f o):=by
  grind
def bytesV (m:List UInt8):List Value:=m.map λc=>.int .u8 (c.toNat:Int)
theorem Cu_ {x:Operand} {s t e:TypeId} {m:List UInt8} (E:∀ w,(underlying s).run P w=.ok .string w) (C:∀ w,(underlying t).run P w=.ok (.slice e) w) (L:∀ w,(underlying e).run P w=.ok (.int .u8) w)
    (F:Fr.ev fr x=some (str m)) (G:Nat.blt d N.n=true)
    (hk:∀ cap b,m.length<=cap->Ops P R N v0 H0 ops l K ((d,.slice (some ⟨b,0,none⟩) m.length cap)::fr) ((b,.cells (bytesV m++List.replicate (cap - m.length) (Value.int .u8 0)).toArray e (cap,cap+1))::H) Γ) :
    Ops P R N v0 H0 ops (⟨some d,.convert s t x,ty,ps,af,none⟩::l) K fr H Γ :=
  oZ_ (β:=Nat) (x:=λcap b=>.slice (some ⟨b,0,none⟩) m.length cap) (o:=λcap=>.cells (bytesV m++List.replicate (cap - m.length) (Value.int .u8 0)).toArray e (cap,cap+1)) (λcap=>m.length<=cap) G
    (λa v M O Q=>by
      have h:m.length<=(Question.appendCap m.length 0 e).cut (v.w.tape v.w.drawn (.appendCap m.length 0 e)):=by grind[Question.cut]
      generalize S:(Question.appendCap m.length 0 e).cut (v.w.tape v.w.drawn (.appendCap m.length 0 e))=cap at h
      have k:(bytesV m++List.replicate (cap - m.length) (Value.int .u8 0)).length=cap:=by grind[bytesV]
      have I:(⟨m.toArray⟩:ByteArray).size=m.length:=by grind[ByteArray.size]
      have B:(Array.map (λ(b:UInt8)=>Value.int .u8 (b.toNat:Int)) m.toArray++Array.replicate (cap - m.length) (Value.int .u8 0))=(bytesV m++List.replicate (cap - m.length) (Value.int .u8 0)).toArray:=by grind[bytesV]
      refine⟨cap,{ v.w with heap:=v.w.heap.push (.cells (bytesV m++List.replicate (cap - m.length) (Value.int .u8 0)).toArray e (cap,cap+1)),drawn:=v.w.drawn+1 },h,?_,rfl,rfl,rfl,rfl,Nat.le_succ _⟩
      have y:(Conv.stringToBytes e ⟨m.toArray⟩).run P v.w=.ok (.slice (some ⟨v.w.heap.size,0,none⟩) m.length cap) { v.w with heap:=v.w.heap.push (.cells (bytesV m++List.replicate (cap - m.length) (Value.int .u8 0)).toArray e (cap,cap+1)),drawn:=v.w.drawn+1 }:=by
        generalize bytesV m++List.replicate (cap - m.length) (Value.int .u8 0)=cs at k B ⊢
        simp only[Conv.stringToBytes,I];show Sem.run P (choose _ >>= _) v.w=_
        rw[Sem.run_bind]
        have A:(choose (.appendCap m.length 0 e)).run P v.w=.ok cap { v.w with drawn:=v.w.drawn+1 }:=by
          grind[choose,Sem.run,Question.forced]
        rw[A,Result.andThen_ok,B];simp only[newRow,Sem.run_bind,newObj,markStringish,shape,freeze];simp only[Sem.run,Result.andThen_ok,World.shape?,Array.getElem?_push_size,yca_,k,World.freeze,Nat.one_ne_zero,ycF_,Sem.run_pure]
        grind[ti_]
      simp only[execOp,Sem.run_bind,convert,E,C,L,Result.andThen_ok,M.ev F,str,y,Sem.run_pure])
    (λcap b J=>hk cap b J)
theorem fq_ {t:TypeId} {x:Operand} {lo hi:Option Operand} {m:List UInt8} {i j:Nat} {kl kh:IntKind} (B:∀ w,(underlying t).run P w=.ok .string w) (C:Fr.ev fr x=some (str m))
    (h:match lo with|some y=>Fr.ev fr y=some (.int kl (i:Int))|none=>i=0) (e:match hi with|some y=>Fr.ev fr y=some (.int kh (j:Int))|none=>j=m.length) (A:i<=j) (G:j<=m.length) :
    Yld P N fr H Γ (.slice t x lo hi none) ty (str ((m.drop i).take (j - i))) :=
  λa v k I J _ _ _=>by
    have E:(⟨m.toArray⟩:ByteArray).size=m.length:=by simp[ByteArray.size]
    have F:=ByteArray.extract_mk m i j;cases lo<;>cases hi<;>simp only at h e
    . subst h e;simp[execOp,Instr.sliceAt,Instr.slice,B,k.ev C,str,Instr.sliceBounds,E,F]
    . subst h;simp[execOp,Instr.sliceAt,Instr.slice,B,k.ev C,k.ev e,str,Instr.sliceBounds,Instr.sliceBound,asIntOf,E,F,G]
    . subst e;simp[execOp,Instr.sliceAt,Instr.slice,B,k.ev C,k.ev h,str,Instr.sliceBounds,Instr.sliceBound,asIntOf,E,F,A]
    . simp[execOp,Instr.sliceAt,Instr.slice,B,k.ev C,k.ev h,k.ev e,str,Instr.sliceBounds,Instr.sliceBound,asIntOf,E,F,A,G]
def sad (ad:Ao) (cap i n:Nat):Ao:=if cap=i then ad else ad.map (·.add (i*n))
theorem cD_ {t e:TypeId} {x:Operand} {lo hi:Option Operand} {ad:Ao} {len cap i j n:Nat} {kl kh:IntKind} (B:∀ w,(underlying t).run P w=.ok (.slice e) w) (C:∀ w,(sizeOf e).run P w=.ok n w) (E:Fr.ev fr x=some (.slice ad len cap))
    (h:match lo with|some y=>Fr.ev fr y=some (.int kl (i:Int))|none=>i=0) (k:match hi with|some y=>Fr.ev fr y=some (.int kh (j:Int))|none=>j=len) (A:i<=j) (F:j<=cap) :
    Yld P N fr H Γ (.slice t x lo hi none) ty (.slice (sad ad cap i n) (j - i) (cap - i)) :=
  λa v m G I _ _ _=>by
    cases lo<;>cases hi<;>simp only at h k
    . subst h k;simp[execOp,Instr.sliceAt,Instr.slice,B,C,m.ev E,Instr.sliceBounds,sad]
    . subst h;simp[execOp,Instr.sliceAt,Instr.slice,B,C,m.ev E,m.ev k,Instr.sliceBounds,Instr.sliceBound,asIntOf,F,sad]
    . subst k;simp[execOp,Instr.sliceAt,Instr.slice,B,C,m.ev E,m.ev h,Instr.sliceBounds,Instr.sliceBound,asIntOf,A,sad]
    . simp[execOp,Instr.sliceAt,Instr.slice,B,C,m.ev E,m.ev h,m.ev k,Instr.sliceBounds,Instr.sliceBound,asIntOf,A,F,sad]
theorem bW_.sad {v:Vw} {ad:Ao} {cs:List Value} {cap i n:Nat} (h:bW_ v ad cs) (e:List Value) (m:∀ j x,e[j]? = some x->cs[i*n+j]? = some x) (y:cs.length<=cap*n):bW_ v (sad ad cap i n) e:=by
 unfold Sx.sad
 split
 .rename_i k
  subst k;left
  cases e with
  | nil=>rfl
  | cons d e =>
    have:=m 0 d rfl
    grind
 exact h.drop (i*n) e m
theorem bo_ {fn:Fn} {xs ys:List Operand} {us vs:List Value} (x:Fr.evs fr xs=some us) (k:Fr.evs fr ys=some vs):Yld P N fr H Γ (.makeFunc fn xs.toArray ys.toArray) ty (.func fn us.toArray vs.toArray) :=
  λa v e y A _ _ _=>by
    have h:=e.evs x;have m:=e.evs k;simp[execOp,Instr.makeFunc,h,m]
theorem O_ {f:FuncId} {g:Operand} {first cap:List Value} {xs:List Operand} {h:Array TypeId} {vs:List Value} {ι:Type} {Hc F:Hp} {y:List Fct} {e:ι->Value} {H':ι->Hp} {Γ':ι->List Fct}
    (k:Tri P f (first++vs++cap).toArray Hc y e H' Γ') (C:Fr.ev fr g=some (.func (.func f) first.toArray cap.toArray)) (E:Fr.evs fr xs=some vs) (B:H.Perm (Hc++F)) (A:∀ v,v.sat H->ag_ Γ v->ag_ y v) (I:Nat.blt d N.n=true)
    (hk:∀ x,Ops P R N v0 H0 ops l K ((d,e x)::fr) (H' x++F) (Γ' x++Γ)) :
    Ops P R N v0 H0 ops (⟨some d,.call ⟨.value g,xs.toArray,h⟩,ty,ps,af,none⟩::l) K fr H Γ :=
  qI_ k (λa w m=>by
    have G:=m.evs E;have J:=k.callable (first++vs++cap).toArray w;simp only[execOp,resolve,Deferred.ofValue,m.ev C,invoke,ybc_,G,Sem.run_bind,Sem.run_pure,Result.andThen_ok,List.append_toArray,J]) B A I hk
end ops
end Go.Sx
namespace Go.Sx
open Go
class NoPan (R:Exit->Act->World->Prop):Prop where
  st:∀ c a d x w,R (.panic c) (a.put d x) w->R (.panic c) a w
instance {P:Program} {fn:Func} {ι:Type} {v0:Vw} {H0:Hp} {ret:ι->Value} {H':ι->Hp} {Γ':ι->List Fct}:NoPan (bodyPost P fn (nF_ v0 H0 ret H' Γ')) :=
  ⟨λc a d x w h=>by obtain⟨_,y,v',e,_⟩:=h;cases e⟩
instance {N:Nf} {v0:Vw} {H0:Hp} {ι:Type} {frs:ι->Fr} {Hs:ι->Hp} {Γs:ι->List Fct}:NoPan (Mid N v0 H0 frs Hs Γs) :=
  ⟨λc a d x w h=>by cases h.1⟩
theorem kZ_ {P:Program} {R:Exit->Act->World->Prop} [hR:NoPan R] {c:List PanicEntry} {a:Act} {d:Option Tmp} {x:Value} {w:World}:∀ (K:List Kt),post P R K (.panic c) (a.put d x) w->post P R K (.panic c) a w
  | [],h=>hR.st c a d x w h
  | .seq _::K,h=>kZ_ K h
  | .inv _::K,h=>kZ_ K h
  | .blk _::K,h=>kZ_ K h
def SW (Hs:Hp) (Γs:List Fct) (w:World):Prop:=∃ v:Vw,v.w=w/\v.sat Hs/\ag_ Γs v
section any
variable {P:Program} {N:Nf} {v0:Vw} {H0:Hp} {R:Exit->Act->World->Prop} {K:List Kt} {fr:Fr} {H Hs:Hp} {Γ Γs:List Fct}
variable {ops:Array Oper} {d:Nat} {ty:TypeId} {ps:String} {af:Array Edge} {fuel:Nat} {listed:Array Bool}
abbrev Any (P:Program) (R:Exit->Act->World->Prop) (N:Nf) (v0:Vw) (H0:Hp) (ops:Array Oper) (Hs:Hp) (Γs:List Fct) (fuel:Nat) (listed:Array Bool) (K:List Kt) (fr:Fr) (H:Hp) (Γ:List Fct):Prop :=
  Ok N v0 H0 (wpAnyH P .any ops (post P R K) (SW Hs Γs) fuel listed) fr H Γ
theorem sV_ {x:Nat} (Hs:Hp) (Γs:List Fct) (hm:P.follows .mixedOrders=true) (h:Any P R N v0 H0 ops Hs Γs ops.size (Array.replicate ops.size false) K fr H Γ):Run P R N v0 H0 (.region x ops true) K fr H Γ :=
  λa v A k e y=>wp_region_held hm (by
    have m:v.le ⟨v.im,{ v.w with drawn:=v.w.drawn+1 },v.sl⟩:=⟨λ_ h=>h,λ_ _=>rfl,rfl⟩;exact h a ⟨v.im,{ v.w with drawn:=v.w.drawn+1 },v.sl⟩ A ⟨k.own,k.nodup,k.lt⟩ ⟨e.os,e.tape,e.output,e.size,e.block,e.imUp,e.imNew,e.hNew,e.sl,e.dr.imp (λh=>h) λh=>Nat.le_succ_of_le h⟩ (aT_ m y))
theorem xz_ {e:Nat} (hm:P.follows .mixedOrders=true) (h:Any P R N v0 H0 ops H Γ ops.size (Array.replicate ops.size false) K fr H Γ):Run P R N v0 H0 (.region e ops true) K fr H Γ:=sV_ H Γ hm h
theorem Vw.sat.tail {v:Vw} {p:Nat×Obj} (h:v.sat (p::H)):v.sat H :=
  ⟨λx e=>h.own x (yaK_ _ e),by have:=h.nodup;grind,h.lt⟩
theorem sn_ [NoPan R] (i:Nat) {e:Oper} {x:Value} (hi:ops[i]? = some e) (I:Region.noSelect ops=true) (B:Region.free .any ops listed i=true) (E:(Region.ready .any ops listed).contains i=true)
    (A:e.dst=some d) (L:Nat.blt d N.n=true) (C:∀ a,Fr.sat N fr a->YieldsIf P ops (SW Hs Γs) e x a) (G:∀ v,v.sat H->ag_ Γ v->v.sat Hs/\ag_ Γs v)
    (h:Any P R N v0 H0 ops Hs Γs fuel (listed.setIfInBounds i true) K ((d,x)::fr) H Γ):Any P R N v0 H0 ops Hs Γs (fuel+1) listed K fr H Γ :=
  λa v y k F m=>wpAnyH_take hi I B E (λc a w J=>kZ_ K J) (C a y) ⟨v,rfl,G v k m⟩ (by
    rw[A];exact h _ v (y.put L) k F m)
theorem Bq_ [NoPan R] (i:Nat) {k:Op} {x:Value} (hi:ops[i]? = some ⟨some d,k,ty,ps,af,none⟩) (F:Region.noSelect ops=true) (m:Region.free .any ops listed i=true) (A:(Region.ready .any ops listed).contains i=true)
    (y:Yld P N fr Hs Γs k ty x) (E:Nat.blt d N.n=true) (C:∀ v,v.sat H->ag_ Γ v->v.sat Hs/\ag_ Γs v)
    (h:Any P R N v0 H0 ops Hs Γs fuel (listed.setIfInBounds i true) K ((d,x)::fr) H Γ):Any P R N v0 H0 ops Hs Γs (fuel+1) listed K fr H Γ :=
  sn_ i hi F m A rfl E (λa B=>.inl ⟨rfl,λw ⟨v,e,k1,k2⟩=>by subst e;exact y a v B k1 k2 (some d) ps af⟩) C h
theorem yT_ [NoPan R] (i:Nat) {m:Op} {x:Value} {j t:Nat} {k:Bool} (hi:ops[i]? = some ⟨some d,m,ty,ps,af,some (j,k)⟩) (F:Region.noSelect ops=true) (A:Region.free .any ops listed i=true) (B:(Region.ready .any ops listed).contains i=true)
    (G:hQ_ ops j=some t) (E:Fr.get fr t=some (.bool k)) (I:Yld P N fr Hs Γs m ty x) (J:Nat.blt d N.n=true) (C:∀ v,v.sat H->ag_ Γ v->v.sat Hs/\ag_ Γs v)
    (h:Any P R N v0 H0 ops Hs Γs fuel (listed.setIfInBounds i true) K ((d,x)::fr) H Γ):Any P R N v0 H0 ops Hs Γs (fuel+1) listed K fr H Γ :=
  sn_ i hi F A B rfl J (λa y=>.inl ⟨by simp[Region.wanted,fu_ y G E],λw ⟨v,e,k1,k2⟩=>by subst e;exact I a v y k1 k2 (some d) ps af⟩) C h
theorem any_no [NoPan R] (i:Nat) {E:Op} {x:Value} {j t:Nat} {e:Bool} (hi:ops[i]? = some ⟨some d,E,ty,ps,af,some (j,e)⟩) (C:Region.noSelect ops=true) (k:Region.free .any ops listed i=true) (y:(Region.ready .any ops listed).contains i=true)
    (F:hQ_ ops j=some t) (B:Fr.get fr t=some x) (m:(match x with|.bool b=>Bool.xor b e|_=>true)=true) (I:Nat.blt d N.n=true) (A:∀ v,v.sat H->ag_ Γ v->v.sat Hs/\ag_ Γs v)
    (h:Any P R N v0 H0 ops Hs Γs fuel (listed.setIfInBounds i true) K ((d,undef)::fr) H Γ):Any P R N v0 H0 ops Hs Γs (fuel+1) listed K fr H Γ :=
  sn_ i hi C k y rfl I (λa G=>.inr ⟨by
    simp only[Region.wanted,fu_ G F B];cases x<;>first|rfl|grind,rfl⟩) A h
def jH_ (ops:Array Oper):Array Bool->List Nat->Bool
  | _,[]=>true
  | listed,i::is=>Region.free .any ops listed i&&((Region.ready .any ops listed).contains i&&jH_ ops (listed.setIfInBounds i true) is)
def Sq (P:Program) (R:Exit->Act->World->Prop) (N:Nf) (v0:Vw) (H0:Hp) (ops:Array Oper) (Hs:Hp) (Γs:List Fct) (is:List Nat) (fuel:Nat) (listed:Array Bool) (K:List Kt) (fr:Fr) (H:Hp) (Γ:List Fct):Prop :=
  (Region.noSelect ops&&jH_ ops listed is)=true->(∀ v,v.sat H->ag_ Γ v->v.sat Hs/\ag_ Γs v)->Any P R N v0 H0 ops Hs Γs (fuel+is.length) listed K fr H Γ
theorem G_ (fuel:Nat) (e:List Nat) (k:(Region.noSelect ops&&jH_ ops listed e)=true) (m:∀ v,v.sat H->ag_ Γ v->v.sat Hs/\ag_ Γs v) (h:Sq P R N v0 H0 ops Hs Γs e fuel listed K fr H Γ):Any P R N v0 H0 ops Hs Γs (fuel+e.length) listed K fr H Γ:=h k m
theorem bX_ (h:Any P R N v0 H0 ops Hs Γs fuel listed K fr H Γ):Sq P R N v0 H0 ops Hs Γs [] fuel listed K fr H Γ:=λ_ _=>h
theorem oH_ {i:Nat} {e:List Nat} (h:(Region.noSelect ops&&jH_ ops listed (i::e))=true):Region.noSelect ops=true/\Region.free .any ops listed i=true/\(Region.ready .any ops listed).contains i=true/\(Region.noSelect ops&&jH_ ops (listed.setIfInBounds i true) e)=true:=by
  grind[jH_]
theorem N_ [NoPan R] {i:Nat} {m:List Nat} {e:Op} {x:Value} (hi:ops[i]? = some ⟨some d,e,ty,ps,af,none⟩) (A:Yld P N fr Hs Γs e ty x) (F:Nat.blt d N.n=true)
    (h:Sq P R N v0 H0 ops Hs Γs m fuel (listed.setIfInBounds i true) K ((d,x)::fr) H Γ):Sq P R N v0 H0 ops Hs Γs (i::m) fuel listed K fr H Γ:=λv k=>by
  obtain⟨B,E,C,y⟩:=oH_ v;exact Bq_ i hi B E C A F k (h y k)
theorem fG_ [NoPan R] {i:Nat} {k:List Nat} {e:Op} {X:Bool} (hi:ops[i]? = some ⟨some d,e,ty,ps,af,none⟩) (m:Yld P N fr Hs Γs e ty (.bool X)) (v:Nat.blt d N.n=true)
    (h:∀ r:Bool,X=r->Sq P R N v0 H0 ops Hs Γs k fuel (listed.setIfInBounds i true) K ((d,.bool r)::fr) H Γ):Sq P R N v0 H0 ops Hs Γs (i::k) fuel listed K fr H Γ:=by grind[N_]
theorem ih_ [NoPan R] {i:Nat} {k:List Nat} {v:Op} {x:Value} {j t:Nat} {e:Bool} (hi:ops[i]? = some ⟨some d,v,ty,ps,af,some (j,e)⟩) (C:hQ_ ops j=some t) (A:Fr.get fr t=some (.bool e)) (E:Yld P N fr Hs Γs v ty x) (I:Nat.blt d N.n=true)
    (h:Sq P R N v0 H0 ops Hs Γs k fuel (listed.setIfInBounds i true) K ((d,x)::fr) H Γ):Sq P R N v0 H0 ops Hs Γs (i::k) fuel listed K fr H Γ:=λB m=>by
  obtain⟨F,J,G,y⟩:=oH_ B;exact yT_ i hi F J G C A E I m (h y m)
theorem ja_ [NoPan R] {i:Nat} {m:List Nat} {k:Op} {X:Bool} {j t:Nat} {e:Bool} (hi:ops[i]? = some ⟨some d,k,ty,ps,af,some (j,e)⟩) (v:hQ_ ops j=some t) (y:Fr.get fr t=some (.bool e)) (x:Yld P N fr Hs Γs k ty (.bool X)) (A:Nat.blt d N.n=true)
    (h:∀ r:Bool,X=r->Sq P R N v0 H0 ops Hs Γs m fuel (listed.setIfInBounds i true) K ((d,.bool r)::fr) H Γ):Sq P R N v0 H0 ops Hs Γs (i::m) fuel listed K fr H Γ:=by grind[ih_]
theorem sq_no [NoPan R] {i:Nat} {m:List Nat} {B:Op} {x:Value} {j t:Nat} {e:Bool} (hi:ops[i]? = some ⟨some d,B,ty,ps,af,some (j,e)⟩) (E:hQ_ ops j=some t) (A:Fr.get fr t=some x) (k:(match x with|.bool b=>Bool.xor b e|_=>true)=true) (I:Nat.blt d N.n=true)
    (h:Sq P R N v0 H0 ops Hs Γs m fuel (listed.setIfInBounds i true) K ((d,undef)::fr) H Γ):Sq P R N v0 H0 ops Hs Γs (i::m) fuel listed K fr H Γ:=λC v=>by
  obtain⟨F,J,G,y⟩:=oH_ C;exact any_no i hi F J G E A k I v (h y v)
def Nx (P:Program) (R:Exit->Act->World->Prop) (ops:Array Oper) (Hs:Hp) (Γs:List Fct) (fuel:Nat) (listed:Array Bool) (K:List Kt) (a:Act) (w:World):Prop :=
  SW Hs Γs w/\wpAnyH P .any ops (post P R K) (SW Hs Γs) fuel listed a w
theorem m_ (i:Nat) {o:Oper} (hi:ops[i]? = some o) (A:Region.ready .any ops listed=[i]) (h:Ops P R N v0 H0 ops [o] (.inv (Nx P R ops Hs Γs fuel (listed.setIfInBounds i true) K)::K) fr H Γ):Any P R N v0 H0 ops Hs Γs (fuel+1) listed K fr H Γ:=by
 intro a v B m C y;refine wpAnyH_all A zai_ λj k=>?_;simp only[yam_]at k;subst k;have:=h a v B m C y;unfold wpOp;simp only[hi];unfold wpList at this
 split
 .rename_i e
  rw[yaq_ e]at this;rcases this with q|q
  .left
   unfold Oper.wp at q ⊢;generalize (execOp a.eval o).run P v.w=r at q ⊢
   cases r with
   | ok n w' =>
     cases n<;>simp only[Oper.upon]at q ⊢<;>exact q
   | halt x w' =>
     cases x<;>simp only[Oper.upon]at q ⊢
     case panic u=>exact q
  exact .inr q
 rename_i e
 rw[yag_ e]at this;exact this
theorem M_ (y:∀ v,v.sat H->ag_ Γ v->v.sat Hs/\ag_ Γs v) (h:Any P R N v0 H0 ops Hs Γs fuel listed K fr H Γ):Ok N v0 H0 (Nx P R ops Hs Γs fuel listed K) fr H Γ :=
  λa v m e x k=>⟨⟨v,rfl,y v e k⟩,h a v m e x k⟩
theorem pQ_ (m:Region.ready .any ops listed=[]) (h:Fin P R N v0 H0 K fr H Γ):Any P R N v0 H0 ops Hs Γs fuel listed K fr H Γ :=
  λa v x e y k=>wpAnyH_done m (h a v x e y k) fuel
theorem eu_ {α:Type} [BEq α] [LawfulBEq α] {a b:α} (h:(a != b)=true):a≠b:=by grind
theorem ew_ {α:Type} [BEq α] [LawfulBEq α] {a b:α} (h:(a != b)=false):a=b:=by simp_all
theorem lL_ {N:Nat} {fn:Func} {t s u:Nat} {ι:Type} {F:Hp} {ret:ι->Value} {H':ι->Hp} {Γ':ι->List Fct} {y A B:Value} (I:fn.results=#[.tmp t,.tmp s,.tmp u]) (x:ι) (m:Fr.get fr t=some y) (h:Fr.get fr s=some A) (k:Fr.get fr u=some B) (M:.tuple #[y,A,B]=ret x) (G:H.Perm (H' x++F))
    (C:∀ v,v.sat H->ag_ Γ v->ag_ (Γ' x) v):Ok N v0 H0 (bodyPost P fn (nF_ v0 H0 ret H' Γ') .ret) fr H Γ :=
  es_ G C λa v e E L S=>⟨e.defers,ret x,by rw[<-M];have O:=e.val t _ m;have J:=e.val s _ h;have Q:=e.val u _ k;simp[results,I,O,J,Q],x,v,rfl,rfl,E,S,L⟩
theorem ip_ {f:FuncId} {args:Array Value} {r:Value} (E:fk_ P f) (h:∀ w,Calls P f args w λe w'=>e=.returned r/\w'.heap=w.heap/\w'.os=w.os/\w'.tape=w.tape/\w'.output=w.output/\w.drawn<=w'.drawn):Fn0 P f args r :=
  ⟨E,λv C _=>(h v.w).mono λe w' ⟨A,k,F,y,B,x⟩=>⟨(),⟨v.im,w',v.sl⟩,A,rfl,⟨by simp,by simp,λb m=>by show b<w'.heap.size;rw[k];exact C.lt b m⟩,trivial,
    ⟨F,y,B,by simp[k],λb _ _=>by grind,λ_ h=>h,λ_ h=>.inl h,λ_ h=>by simp at h,rfl,.inr x⟩⟩⟩
theorem cb_ {f:FuncId} {g:Operand} {first cap:List Value} {l:List Oper} {xs:List Operand} {e:Array TypeId} {vs:List Value} {Hc F:Hp} {h:List Fct} {X:Bool}
    (A:Tri P f (first++vs++cap).toArray Hc h (λ_:Unit=>.bool X) (λ_=>Hc) (λ_=>[])) (x:Fr.ev fr g=some (.func (.func f) first.toArray cap.toArray)) (y:Fr.evs fr xs=some vs) (m:H.Perm (Hc++F)) (k:∀ v,v.sat H->ag_ Γ v->ag_ h v) (B:Nat.blt d N.n=true)
    (hk:∀ r:Bool,X=r->Ops P R N v0 H0 ops l K ((d,.bool r)::fr) (Hc++F) Γ) :
    Ops P R N v0 H0 ops (⟨some d,.call ⟨.value g,xs.toArray,e⟩,ty,ps,af,none⟩::l) K fr H Γ :=
  O_ A x y m k B λ_=>hk X rfl
theorem u_ {k:Act->World->Prop} {H':Hp} (e:H.Perm H') (h:Ok N v0 H0 k fr H' Γ):Ok N v0 H0 k fr H Γ :=
  λa v y m A x=>h a v y (m.perm e) (A.subR λb B=>(e.map Prod.fst).mem_iff.2 B) x
theorem gn_:∀ {H:Hp} {i:Nat} {p:Nat×Obj},H[i]? = some p->H.Perm (p::H.eraseIdx i)
  | [],i,p,h=>by simp at h
  | x::H,0,p,h=>by simp at h;simp_all
  | x::H,i+1,p,h=>by
    have:=gn_ (H:=H) (i:=i) (p:=p) zak_;exact (List.Perm.cons x this).trans (List.Perm.swap p x _)
theorem tp_:∀ {H:Hp} {i:Nat} {p q:Nat×Obj},H[i]? = some p->(q::H.eraseIdx i).Perm (H.set i q)
  | [],i,p,q,h=>by simp at h
  | x::H,0,p,q,h=>by exact .refl _
  | x::H,i+1,p,q,h=>by
    have:=tp_ (H:=H) (i:=i) (p:=p) (q:=q) zak_;exact (List.Perm.swap x q _).trans (List.Perm.cons x this)
theorem ya_ {f:FuncId} {l:List Oper} {xs:List Operand} {e:Array TypeId} {vs:List Value} (i:Nat) {b:Nat} {o o':Obj} {h:List Fct} {r:Value}
    (x:Tri P f vs.toArray [(b,o)] h (λ_:Unit=>r) (λ_=>[(b,o')]) (λ_=>[])) (m:Fr.evs fr xs=some vs) (hi:H[i]? = some (b,o)) (k:∀ v,v.sat H->ag_ Γ v->ag_ h v) (y:Nat.blt d N.n=true)
    (hk:Ops P R N v0 H0 ops l K ((d,r)::fr) (H.set i (b,o')) Γ) :
    Ops P R N v0 H0 ops (⟨some d,.call ⟨.value (.func f),xs.toArray,e⟩,ty,ps,af,none⟩::l) K fr H Γ :=
  f_ x m (gn_ hi) k y λ_=>u_ (tp_ hi) hk
theorem pa_ {f:FuncId} {l:List Oper} {xs:List Operand} {e:Array TypeId} {vs:List Value} (i:Nat) {b:Nat} {o o':Obj} {h:List Fct} {X:Bool}
    (x:Tri P f vs.toArray [(b,o)] h (λ_:Unit=>.bool X) (λ_=>[(b,o')]) (λ_=>[])) (m:Fr.evs fr xs=some vs) (hi:H[i]? = some (b,o)) (k:∀ v,v.sat H->ag_ Γ v->ag_ h v) (y:Nat.blt d N.n=true)
    (hk:∀ r:Bool,X=r->Ops P R N v0 H0 ops l K ((d,.bool r)::fr) (H.set i (b,o')) Γ) :
    Ops P R N v0 H0 ops (⟨some d,.call ⟨.value (.func f),xs.toArray,e⟩,ty,ps,af,none⟩::l) K fr H Γ :=
  by grind[ya_]
end any
end Go.Sx
namespace Go.Sx
open Go
structure Opn (F:Fence):Prop where
  fn:∀ f,F.fn f
  depth:F.depth=none
theorem aP_:Opn Fence.wide:=⟨λ_=>trivial,rfl⟩
theorem bI_ (l:Nat):Opn (Fence.wide.inRound l):=⟨λ_=>trivial,rfl⟩
theorem ly_ {F:Fence} {n:Nat} {P:Program} {f:FuncId} {args:Array Value} {w:World} {R:Ending->World->Prop} (h:Calls P f args w R) (l:Nat):CallsIn (Fence.wide.inRound l) n P f args w R :=
  (callsIn_wide (n:=n)).2 h
structure SatD (N:Nat) (D:List Deferred) (fr:Fr) (a:Act):Prop where
  sat:Fr.sat N fr ⟨a.tmps,[]⟩
  defers:a.defers=D
theorem SatD.put {N:Nat} {D:List Deferred} {fr:Fr} {a:Act} {d:Nat} {x:Value} (h:SatD N D fr a) (e:Nat.blt d N=true):SatD N D ((d,x)::fr) (a.put (some d) x) :=
  ⟨h.sat.put e,h.defers⟩
def OkD (N:Nat) (D:List Deferred) (v0:Vw) (H0:Hp) (k:Act->World->Prop) (fr:Fr) (H:Hp) (Γ:List Fct):Prop :=
  ∀ a v,SatD N D fr a->v.sat H->v0.to H0 v H->ag_ Γ v->k a v.w
def fb_ (F:Fence) (n:Nat) (P:Program) (R:Exit->Act->World->Prop):List Kt->Exit->Act->World->Prop
  | [],e,a,w=>R e a w
  | .seq c::K,.normal,a,w=>c.wpIn F n P (fb_ F n P R K) a w
  | .seq _::K,e,a,w=>fb_ F n P R K e a w
  | .inv J::_,.normal,a,w=>J a w
  | .inv _::K,e,a,w=>fb_ F n P R K e a w
  | .blk id::K,.exit id',a,w=>if id'=id then fb_ F n P R K .normal a w else fb_ F n P R K (.exit id') a w
  | .blk _::K,e,a,w=>fb_ F n P R K e a w
section code
variable {F:Fence} {n:Nat} {P:Program} {N:Nat} {D:List Deferred} {v0:Vw} {H0:Hp} {R:Exit->Act->World->Prop} {K:List Kt} {fr:Fr} {H:Hp} {Γ:List Fct}
theorem qF_ (K:List Kt) (a:Act) (w:World) (h:R .ret a w):fb_ F n P R K .ret a w:=by
  induction K with
  | nil=>exact h
  | cons x K ih=>cases x<;>exact ih
theorem oT_ {c:Code} {e:List Kt} {a:Act} {w:World}:∀ {K:List Kt},nxt K=some (c,e)->c.wpIn F n P (fb_ F n P R e) a w->fb_ F n P R K .normal a w
  | [],h,_=>by grind[nxt]
  | .seq _::K,h,hp=>by simp only[nxt,yah_,ybN_]at h;obtain⟨rfl,rfl⟩:=h;exact hp
  | .blk _::K,h,hp=>oT_ (K:=K) (by grind[nxt]) hp
  | .inv _::K,h,_=>by grind[nxt]
theorem lO_ {a:Act} {w:World}:∀ {K:List Kt},gb_ K=true->R .normal a w->fb_ F n P R K .normal a w
  | [],_,hp=>hp
  | .inv _::K,h,_=>by grind[gb_]
  | .blk _::K,h,hp=>lO_ (K:=K) (by grind[gb_]) hp
  | .seq _::K,h,_=>by grind[gb_]
abbrev iB_ (F:Fence) (n:Nat) (P:Program) (R:Exit->Act->World->Prop) (N:Nat) (D:List Deferred) (v0:Vw) (H0:Hp) (c:Code) (K:List Kt) (fr:Fr) (H:Hp) (Γ:List Fct):Prop :=
  OkD N D v0 H0 (c.wpIn F n P (fb_ F n P R K)) fr H Γ
abbrev vT_ (F:Fence) (n:Nat) (P:Program) (R:Exit->Act->World->Prop) (N:Nat) (D:List Deferred) (v0:Vw) (H0:Hp) (K:List Kt) (fr:Fr) (H:Hp) (Γ:List Fct):Prop :=
  OkD N D v0 H0 (fb_ F n P R K .normal) fr H Γ
abbrev fF_ (F:Fence) (n:Nat) (P:Program) (R:Exit->Act->World->Prop) (N:Nat) (D:List Deferred) (v0:Vw) (H0:Hp) (ops:Array Oper) (l:List Oper) (K:List Kt) (fr:Fr) (H:Hp) (Γ:List Fct):Prop :=
  OkD N D v0 H0 (wpListIn F n P ops (fb_ F n P R K) l) fr H Γ
theorem fS_ {x y:Code} (h:iB_ F n P R N D v0 H0 x (.seq y::K) fr H Γ):iB_ F n P R N D v0 H0 (.seq x y) K fr H Γ :=
  λa v B m C A=>wpIn_seq (wpIn_mono (h a v B m C A) λe a w k=>by cases e<;>exact k)
theorem gL_ {k:Nat} {c:Code} (h:iB_ F n P R N D v0 H0 c (.blk k::K) fr H Γ):iB_ F n P R N D v0 H0 (.block k c) K fr H Γ :=
  λa v A x B y=>wpIn_block (wpIn_mono (h a v A x B y) λe a w m=>by cases e<;>exact m)
theorem qw_ (h:vT_ F n P R N D v0 H0 K fr H Γ):iB_ F n P R N D v0 H0 .skip K fr H Γ :=
  λa v e m k x=>wpIn_skip (h a v e m k x)
theorem hG_ (h:OkD N D v0 H0 (R .ret) fr H Γ):iB_ F n P R N D v0 H0 .ret K fr H Γ :=
  λa v e m k x=>wpIn_ret (qF_ K a v.w (h a v e m k x))
theorem da_ {c:Code} {e:List Kt} (A:nxt K=some (c,e)) (h:iB_ F n P R N D v0 H0 c e fr H Γ):vT_ F n P R N D v0 H0 K fr H Γ :=
  λa v x k y m=>oT_ A (h a v x k y m)
theorem dx_ (y:gb_ K=true) (h:OkD N D v0 H0 (R .normal) fr H Γ):vT_ F n P R N D v0 H0 K fr H Γ :=
  λa v m e x k=>lO_ y (h a v m e x k)
theorem bs_ {e:Nat} {l:List Oper} (h:fF_ F n P R N D v0 H0 l.toArray l K fr H Γ):iB_ F n P R N D v0 H0 (.region e l.toArray false) K fr H Γ :=
  λa v x k y m=>wpIn_region_lit (h a v x k y m)
theorem cp_ {ops:Array Oper} (h:vT_ F n P R N D v0 H0 K fr H Γ):fF_ F n P R N D v0 H0 ops [] K fr H Γ :=
  λa v m e x k=>wpListIn_nil (h a v m e x k)
theorem sX_ {c:Operand} {x y:Code} (A:Fr.ev fr c=some (.bool true)) (B:iB_ F n P R N D v0 H0 x K fr H Γ):iB_ F n P R N D v0 H0 (.cond c x y) K fr H Γ :=
  λa v e h m k=>wpIn_cond_true (e.sat.ev A) (B a v e h m k)
theorem sY_ {c:Operand} {x y:Code} (B:Fr.ev fr c=some (.bool false)) (h:iB_ F n P R N D v0 H0 y K fr H Γ):iB_ F n P R N D v0 H0 (.cond c x y) K fr H Γ :=
  λa v e k A m=>wpIn_cond_false (e.sat.ev B) (h a v e k A m)
def gQ_:Op->Bool
  | .defer _=>false
  | _=>true
theorem semAt_eq {o:Oper} (h:gQ_ o.op=true) (k:Option Nat) (ρ:Operand->Value):o.semAt k ρ=execOp ρ o :=
  Oper.semAt_eq k ρ o (λc e=>by rw[e]at h;cases h)
variable {ops:Array Oper} {l:List Oper} {d:Nat} {ty:TypeId} {ps:String} {af:Array Edge}
theorem uB_ {o:Oper} {a:Act} {w:World} {A B:Act->World->Prop} {Q:Exit->Act->World->Prop} (C:∀ a w,A a w->B a w) (h:o.wpIn F n P a w A Q):o.wpIn F n P a w B Q:=by
  refine⟨h.1,?_⟩;have k:=h.2;generalize (o.semAt F.round a.eval).run P w=r at k ⊢
  cases r with
  | ok nx w' =>
    cases nx<;>simp only[Oper.uponIn]at k ⊢<;>first|grind|exact k|skip
    case enter f args=>exact⟨k.1,k.2.mono λe m y=>by grind⟩
    case row row args=>exact⟨k.1,k.2.mono λv m y=>C _ _ y⟩
    case round l f tmps assign body=>exact⟨k.1,k.2.mono λe m y=>by grind⟩
  | halt x w'=>cases x<;>simp only[Oper.uponIn]at k ⊢<;>exact k
theorem eK_ {o:Oper} (A:o.guard=none) (h:∀ a v,SatD N D fr a->v.sat H->v0.to H0 v H->ag_ Γ v->o.wpIn F n P a v.w (wpListIn F n P ops (fb_ F n P R K) l) (fb_ F n P R K)) :
    fF_ F n P R N D v0 H0 ops (o::l) K fr H Γ :=
  λa v m e y k=>wpListIn_plain A λB x=>uB_ x (h a v m e y k)
theorem aO_ {e:Op} {x:Value} (E:Opn F) (A:Yld P N fr H Γ e ty x) (h:gQ_ e=true) (C:Nat.blt d N=true)
    (hk:fF_ F n P R N D v0 H0 ops l K ((d,x)::fr) H Γ):fF_ F n P R N D v0 H0 ops (⟨some d,e,ty,ps,af,none⟩::l) K fr H Γ :=
  eK_ rfl λa v y k B m=>by
    refine⟨λf _=>E.fn f,?_⟩;rw[semAt_eq h];have:=A ⟨a.tmps,[]⟩ v y.sat k m (some d) ps af;rw[show a.eval=Act.eval ⟨a.tmps,[]⟩ from rfl,this];exact hk _ v (y.put C) k B m
theorem qJ_ {e:Op} {X:Bool} (v:Opn F) (k:Yld P N fr H Γ e ty (.bool X)) (h:gQ_ e=true) (m:Nat.blt d N=true)
    (hk:∀ r:Bool,X=r->fF_ F n P R N D v0 H0 ops l K ((d,.bool r)::fr) H Γ):fF_ F n P R N D v0 H0 ops (⟨some d,e,ty,ps,af,none⟩::l) K fr H Γ :=
  by grind[aO_]
theorem vf_ {t:TypeId} {z:Value} (C:Opn F) (E:∀ w,(zeroValue t).run P w=.ok z w) (B:Nat.blt d N=true)
    (hk:∀ b,fF_ F n P R N D v0 H0 ops l K ((d,.pointer (some ⟨b,0,none⟩))::fr) ((b,.cells z.cells t (0,0))::H) Γ):fF_ F n P R N D v0 H0 ops (⟨some d,.alloc t,ty,ps,af,none⟩::l) K fr H Γ :=
  eK_ rfl λa v A e m y=>by
    refine⟨λf _=>C.fn f,?_⟩;rw[semAt_eq rfl]
    have x:(execOp a.eval ⟨some d,.alloc t,ty,ps,af,none⟩).run P v.w=.ok (.value (.pointer (some ⟨v.w.heap.size,0,none⟩))) (v.w.alloc (.cells z.cells t (0,0))):=by
      simp[execOp,E,Instr.alloc,newVar,newRow,newObj];rfl
    rw[x];obtain⟨k,h⟩:=ij_ (w':=v.w.alloc (.cells z.cells t (0,0))) (o:=.cells z.cells t (0,0)) e rfl rfl rfl rfl (yad_ _);exact hk v.w.heap.size _ ⟨v.im,_,v.sl⟩ (A.put B) k (m.trans h) (aT_ (h.le e) y)
theorem eJ_ {t:TypeId} {x y:Operand} {b off m:Nat} (L:Opn F) (i:Nat) {cur:Array Value} {T:TypeId} {u:Value} (U:∀ w,(sizeOf t).run P w=.ok m w)
    (V:Fr.ev fr x=some (.pointer (some ⟨b,off,none⟩))) (Q:Fr.ev fr y=some u) (hi:H[i]? = some (b,.cells cur T (0,0))) (C:u.cells.size=m) (M:Nat.ble (off+m) cur.size=true) (B:u.cells.toList.all Value.oneCell'=true)
    (hk:fF_ F n P R N D v0 H0 ops l K fr (H.set i (b,.cells (cur.toList.take off++u.cells.toList++cur.toList.drop (off+m)).toArray T (0,0))) Γ) :
    fF_ F n P R N D v0 H0 ops (⟨none,.store t x y,ty,ps,af,none⟩::l) K fr H Γ :=
  eK_ rfl λa v A h S I=>by
    refine⟨λf _=>L.fn f,?_⟩;rw[semAt_eq rfl];have E:=(h.own _ (yab_ hi)).1;have e:=run_storeCells_at P b off T u.cells.toList 0 cur v.w E (by simp[C];exact yaG_ M) (λc Y=>ybb_.1 B c Y)
    have X:(execOp a.eval ⟨none,.store t x y,ty,ps,af,none⟩).run P v.w=.ok .skip (v.w.setRow b (cur.toList.take off++u.cells.toList++cur.toList.drop (off+m)).toArray):=by
      simp only[ycX_,ycc_,C]at e;have W:a.eval x=.pointer (some ⟨b,off,none⟩):=A.sat.ev V;have J:a.eval y=u:=A.sat.ev Q;simp[execOp,W,J,Instr.storeAt,Instr.sureAddr,storeVar,U,C,e]
    rw[X];obtain⟨O,G⟩:=gj_ (w':=v.w.setRow b (cur.toList.take off++u.cells.toList++cur.toList.drop (off+m)).toArray) h hi rfl rfl rfl (yad_ _) zai_ (setRow_heap _ _ _ _ _ _ E) (λk hk=>setRow_other _ _ _ _ hk);exact hk a _ A O (S.trans G) (aT_ (G.le h) I)
theorem yb_ {r:Nat} {f:FuncId} {xs:List Operand} {y:Array TypeId} {vs:List Value} {ι:Type} {Hc G:Hp} {J:List Fct} {m:ι->Value} {H':ι->Hp} {Γ':ι->List Fct}
    (C:Tri P f vs.toArray Hc J m H' Γ') (T:Fr.evs fr xs=some vs) (I:H.Perm (Hc++G)) (Q:∀ v,v.sat H->ag_ Γ v->ag_ J v) (W:Nat.blt d N=true)
    (hk:∀ x,fF_ (Fence.wide.inRound r) n P R N D v0 H0 ops l K ((d,m x)::fr) (H' x++G) (Γ' x++Γ)) :
    fF_ (Fence.wide.inRound r) n P R N D v0 H0 ops (⟨some d,.call ⟨.value (.func f),xs.toArray,y⟩,ty,ps,af,none⟩::l) K fr H Γ :=
  eK_ rfl λa v E A S B=>by
    refine⟨λf _=>trivial,?_⟩;rw[semAt_eq rfl]
    have V:(execOp a.eval ⟨some d,.call ⟨.value (.func f),xs.toArray,y⟩,ty,ps,af,none⟩).run P v.w=.ok (.enter f vs.toArray) v.w:=by
      have U:xs.map a.eval=vs:=E.sat.evs T;simp[execOp,resolve,Deferred.ofValue,Act.eval,invoke,U,C.callable _ v.w]
    rw[V];have k:=A.perm I;refine⟨λh=>(by cases h),(ly_ (F:=Fence.wide) (C.run v k.sub (Q v A B)) r).mono ?_⟩;rintro e w' ⟨x,L,rfl,rfl,O,M,X⟩;obtain⟨k1,k2⟩:=X.frame k O;exact hk x _ L (E.put W) k1 (S.trans (k2.permL I.symm)) (ff_.2 ⟨M,aT_ (k2.le k) B⟩)
def kG_ (P:Program) (l:Nat) (x:Value) (H:Hp) (Γ:List Fct) {ι:Type} (ret:ι->Value) (H':ι->Hp) (Γ':ι->List Fct):Prop :=
  ∀ v,v.sat H->ag_ Γ v->∃ fn tmps assign body,(Instr.yield l #[x]).run P v.w=.ok (.round l fn tmps assign body) v.w/\
    ∀ n,RoundIn Fence.wide n P l fn tmps assign body v.w λe w'=>∃ x v',e=.returned (ret x)/\v'.w=w'/\v'.sat (H' x)/\ag_ (Γ' x) v'/\v.to H v' (H' x)
theorem gO_ {r:Nat} {g y:Operand} {E:Array TypeId} {u:Value} {ι:Type} {Hc G:Hp} {O:List Fct} {C:ι->Value} {H':ι->Hp} {Γ':ι->List Fct}
    (U:kG_ P r u Hc O C H' Γ') (S:Fr.ev fr g=some (.func (.yield r) #[] #[])) (Y:Fr.ev fr y=some u) (M:H.Perm (Hc++G)) (X:∀ v,v.sat H->ag_ Γ v->ag_ O v) (hN:Nat.blt d N=true)
    (hk:∀ x,fF_ Fence.wide n P R N D v0 H0 ops l K ((d,C x)::fr) (H' x++G) (Γ' x++Γ)) :
    fF_ Fence.wide n P R N D v0 H0 ops (⟨some d,.call ⟨.value g,#[y],E⟩,ty,ps,af,none⟩::l) K fr H Γ :=
  eK_ rfl λa v I J Z L=>by
    refine⟨λf _=>trivial,?_⟩;rw[semAt_eq rfl];have m:=J.perm M;obtain⟨fn,B,k,A,V,hR⟩:=U v m.sub (X v J L)
    have he:(execOp a.eval ⟨some d,.call ⟨.value g,#[y],E⟩,ty,ps,af,none⟩).run P v.w=.ok (.round r fn B k A) v.w:=by
      have e1:a.eval g=.func (.yield r) #[] #[]:=I.sat.ev S;have e2:a.eval y=u:=I.sat.ev Y
      grind[execOp,resolve,Deferred.ofValue,invoke]
    rw[he];refine⟨λh=>(by cases h),(hR _).mono ?_⟩;rintro e w' ⟨x,Q,rfl,rfl,W,T,g3⟩;obtain⟨k1,k2⟩:=g3.frame m W;exact hk x _ Q (I.put hN) k1 (Z.trans (k2.permL M.symm)) (ff_.2 ⟨T,aT_ (k2.le m) L⟩)
theorem dH_ {k:Act->World->Prop}:OkD N [] v0 H0 k fr H Γ↔Ok N v0 H0 k fr H Γ :=
  ⟨λh a v e m y x=>h a v ⟨⟨e.size,rfl,e.val⟩,e.defers⟩ m y x,λh a v e m y x=>h a v ⟨e.sat.size,e.defers,e.sat.val⟩ m y x⟩
end code
end Go.Sx
namespace Go.Sx
open Go
section
variable {F:Fence} {n:Nat} {P:Program} {N:Nat} {D:List Deferred} {v0:Vw} {H0:Hp} {R:Exit->Act->World->Prop} {K:List Kt} {fr:Fr} {H:Hp} {Γ:List Fct}
variable {ops:Array Oper} {l:List Oper} {d:Nat} {ty:TypeId} {ps:String} {af:Array Edge}
theorem gP_ (L:Opn F) {x:Op} {m:Option Nat} {j t:Nat} {k:Bool} (C:hQ_ ops j=some t) (J:Fr.get fr t=some (.bool k))
    (h:fF_ F n P R N D v0 H0 ops (⟨m,x,ty,ps,af,none⟩::l) K fr H Γ):fF_ F n P R N D v0 H0 ops (⟨m,x,ty,ps,af,some (j,k)⟩::l) K fr H Γ :=
  λa v A E I G=>by
    have B:Region.wanted (⟨m,x,ty,ps,af,some (j,k)⟩:Oper) (yielded ops a.tmps)=true:=by
      have e:=fu_ (a:=⟨a.tmps,[]⟩) A.sat C J
      grind[Region.wanted]
    have y:Region.wanted (⟨m,x,ty,ps,af,none⟩:Oper) (yielded ops a.tmps)=true:=rfl;have:=h a v A E I G;unfold wpListIn at this ⊢;rw[yaq_ y]at this;rw[yaq_ B];exact this
theorem rD_ (L:Opn F) {m:Op} {j t:Nat} {k:Bool} {x:Value} (G:hQ_ ops j=some t) (E:Fr.get fr t=some x) (A:(match x with|.bool b=>Bool.xor b k|_=>true)=true) (J:Nat.blt d N=true)
    (h:fF_ F n P R N D v0 H0 ops l K ((d,undef)::fr) H Γ):fF_ F n P R N D v0 H0 ops (⟨some d,m,ty,ps,af,some (j,k)⟩::l) K fr H Γ :=
  λa v y B C I=>by
    have M:Region.wanted (⟨some d,m,ty,ps,af,some (j,k)⟩:Oper) (yielded ops a.tmps)=false:=by
      have e:=fu_ (a:=⟨a.tmps,[]⟩) y.sat G E;simp only at e;simp only[Region.wanted,e];cases x<;>first|rfl|grind
    unfold wpListIn;rw[yag_ zak_];exact⟨λf _=>L.fn f,h _ v (y.put J) B C I⟩
end
end Go.Sx
