/-
  Lemmas for the law ModuleTypes (no condition).
-/
import Derived.Test.YthmjeabeoodghaaGreatDoorQModuleTypes16
import Derived.Test.YthmjeabeoodghaaGreatDoorRows
import Derived.Test.YthmjeabeoodghaaGreatDoorProg
set_option linter.unusedVariables false
set_option linter.unusedSimpArgs false
set_option linter.unusedSectionVars false
set_option maxHeartbeats 1000000
namespace Go.Proofs.YthmjeabeoodghaaGreatDoor
open Go Go.Sx Go.Proofs Tryz
attribute [local irreducible] Code.wp wpList wpAnyH
open Go.Vs
theorem Bd_ {p:Pc} (h:p.valid=true) (x:p.kind=1∨p.kind=2∨p.kind=3∨p.kind=4∨p.kind=8):p.a≠[]:=by
 unfold Pc.valid at h
 split at h
 ·simp at h
 split at h
 ·simp at h
 split at h
 ·simp at h
 simp only[Bool.and_eq_true]at h;obtain⟨⟨⟨⟨⟨v,y⟩,_⟩,_⟩,_⟩,_⟩:=h
 have m:∀ {b:Bool},bU_ b p.a bj_=true→b=true→p.a≠[]:=fun d e=>by
   subst e;simp[bU_]at d;exact rY_ d
 rcases x with q|q|q|q|q<;>rw[q]at v<;>exact m v zad_
theorem Bc_ {p:Pc} (h:p.valid=true) (x:p.kind=2):p.b≠[]:=by
 unfold Pc.valid at h
 split at h
 ·simp at h
 split at h
 ·simp at h
 split at h
 ·simp at h
 simp only[Bool.and_eq_true]at h;obtain⟨⟨⟨⟨⟨y,v⟩,_⟩,_⟩,_⟩,_⟩:=h
 have m:∀ {b:Bool},bU_ b p.b bj_=true→b=true→p.b≠[]:=fun d e=>by
   subst e;simp[bU_]at d;exact rY_ d
 rw[x]at v;exact m v zad_
theorem tM_ {p:List Pc} (m:cC_ p=0) {B:List Str} {y:Fc} (h:Der p B y):Der p (atS p) (uv_ (atS p) y) :=
 Cq_ (rZ_ p) (nJ_ p) (fun x e s v=>by
   by_cases q:s=[]
   · exact .inr q
   · exact .inl (ub_ e v q)) (fun x e=>by
   have d:=tU_ m x e;have A:=(pcN_of d).1;exact⟨fun q=>Bd_ d zaa_,fun q=>Bc_ d q,fun q=>zm_ d q⟩) h
section
variable {l:List Ax} {S:List Str} (hl:l.length≤12) (hok:∀ x∈l,x.ok) (hc:∀ x∈l,x.check=0)
include hl hok hc
theorem tg_ {y:Fc} (h:Der (bo_ 0 l) (atS (bo_ 0 l)) y) (e:Rch (bo_ 0 l) S ⟨1,y.a⟩):Der (bo_ 0 (cE_ l (dt_ l (bo_ 0 l) S l.length))) (atS (bo_ 0 (cE_ l (dt_ l (bo_ 0 l) S l.length))++cV_ S)) y :=
  wq_ (xZ_ (uU_ hl hok hc) (h.mono (fun x d=>⟨x,List.mem_append_left _ d,x.frm,rfl⟩) (rh_ fun x d=>⟨x,List.mem_append_left _ d,x.frm,rfl⟩)) e).1
omit hl hok hc in
theorem mod_up {w:List Int} {y:Fc} (h:Der (bo_ 0 (cE_ l w)) (atS (bo_ 0 (cE_ l w))) y):Der (bo_ 0 l) (atS (bo_ 0 l)) y:=h.mono iZ_ (rh_ iZ_)
theorem xF_ (m:cC_ (bo_ 0 (cE_ l (dt_ l (bo_ 0 l) S l.length)))=0) {a:Str} (h:Der (bo_ 0 l) (atS (bo_ 0 l)) (W_ a [33])) (v:Rch (bo_ 0 l) S ⟨1,a⟩) :
    Der (bo_ 0 (cE_ l (dt_ l (bo_ 0 l) S l.length))) (atS (bo_ 0 (cE_ l (dt_ l (bo_ 0 l) S l.length)))) (W_ (sig (atS (bo_ 0 (cE_ l (dt_ l (bo_ 0 l) S l.length)))) a) [33]):=by
  have d:=tM_ m (tg_ hl hok hc h v);generalize bo_ 0 (cE_ l (dt_ l (bo_ 0 l) S l.length))=q at d ⊢
  have e:uv_ (atS q) (W_ a [33])=W_ (sig (atS q) a) [33]:=by
    show W_ (sig (atS q) a) (sig (atS q) [33])=_
    rw[ib_ (nJ_ q)]
  rw[e]at d;exact d
end
theorem vt_ {l:List Ax} (hl:l.length≤12) (hok:∀ x∈l,x.ok) (hc:∀ x∈l,x.check=0):cC_ (bo_ 0 l)=0:=by
  have h:=qV_ (S:=[]) hl hok hc rfl zaf_;simpa [cV_] using h
theorem Ae_ {l X:List Ax} (hl:l.length≤12) (h:IdR l X 0):BCk l 0∧(∀ x∈l,x.check=0)∧∃ I,jP_ 4 l I∧X=cE_ l (dt_ l (bo_ 0 l) (I.map ca_) l.length)∧X.Sublist l∧BCk X 0:=by
 obtain⟨P,A,B,h|⟨d,_,I,E,m⟩⟩:=h
 ·exact absurd h.2.1.symm h.1
 obtain⟨e,_,v⟩:=B.ok d;have hc:=gq_ (hI_ e).1;have C:aL_ l=(bo_ 0 l,0):=oC_ hl hc;rw[C]at v;subst v;have y:X.Sublist l:=by have:=oD_ (l:=l) (p:=bo_ 0 l) (S:=I.map ca_) l.length (Nat.le_refl _);rw[List.take_length]at this;rw[m];exact this
 exact⟨e,hc,I,E,m,y,CC_ e y⟩
theorem ww_ {f:Fc}:clF f=true↔f=W_ f.a [33]∧(f.a=[42]∨hpB f.a [123]=true):=by
 unfold clF rx_;simp only[Bool.and_eq_true,Bool.or_eq_true,decide_eq_true_eq];constructor
 ·rintro ⟨⟨d,h⟩,e⟩
  exact⟨by rw[h]at d;exact d,e⟩
 rintro ⟨d,h⟩;have e:f.b=[33]:=by rw[d];rfl
 exact⟨⟨by rw[e];exact d,e⟩,h⟩
def AtI:Prop:=∀ (l:List Ax),l.length≤12→(∀ x∈l,x.ok)→(∀ x∈l,x.check=0)→∀ a∈atS (bo_ 0 l),hpB a [123]=true→∃ n∈vcL 4 l,n≠[]∧a=ca_ n
theorem Aw_ {l:List Ax} {ok:Bool} {e:Int} (v:BCk l 0) (h:CoR l ok e):∃ c d,eU_ (bo_ 0 l) 1073741824 c d∧((d≠0∧ok=false∧e=d)∨(d=0∧e=0∧ok=!(c.facts.any clF))):=by
 obtain⟨x,m,h|h⟩:=h
 ·exact absurd (m.uniq v) h.1
 exact h.2
theorem mtL1 (Z:AtI):MtL1:=by
 intro l X ok fine g hl hok hfw hI V R;obtain⟨hb,hc,I,hV,U,N,L⟩:=Ae_ hl hI;obtain⟨c,W,hA,m⟩:=Aw_ hb V;obtain⟨d,Q,hB,F⟩:=Aw_ L R
 have T:W=0:=by
   rcases m with q|q
   · exact absurd q.2.2.symm q.1
   · exact q.1
 subst T;have ho:ok=!(c.facts.any clF):=m.elim (fun q=>absurd rfl q.1) fun q=>q.2.2
 have a0:X.length≤12:=Nat.le_trans N.length_le hl;have H:cC_ (bo_ 0 X)=0:=vt_ a0 (fun x E=>hok x (N.subset E)) fun x E=>hc x (N.subset E)
 have C:=hA.good.2.2.2.2.2;have J:∀ y,y∈c.facts↔Der (bo_ 0 l) (atS (bo_ 0 l)) y:=C.2.1;have B:∀ y,Der (bo_ 0 X) (atS (bo_ 0 X)) y→y∈c.facts:=fun y hy=>(J y).2 (mod_up (U▸hy))
 have A:Q=0∧∀ y,y∈d.facts↔Der (bo_ 0 X) (atS (bo_ 0 X)) y:=by
   rcases wG_ hB H zad_ zad_ with⟨q,_,O⟩|⟨_,_,M,m_1,P,m_3⟩
   · exact⟨q,O.2.1⟩
   · exfalso
     have h:=eB_ m_1 fun x E=>B x (P x E)
     have h_4:=C.2.2;have h_5:(min (1073741824:Int) 65536).toNat=65536:=by decide
     omega
 obtain⟨A,G⟩:=A;subst A;have hg:g=0∧fine=!(d.facts.any clF):=F.elim (fun q=>absurd rfl q.1) fun q=>q.2
 refine⟨hg.1,?_⟩;rw[ho,hg.2]
 congr 1
 rw[Bool.eq_iff_iff,List.any_eq_true,List.any_eq_true];constructor
 ·rintro ⟨f,Y,v⟩
  obtain⟨a1,K⟩:=ww_.1 v;have hd:=(J f).1 Y;rw[a1]at hd
  have hr:Rch (bo_ 0 l) (I.map ca_) ⟨1,f.a⟩:=by
    refine .base ?_;rcases K with q|q
    · rw[q];simp[cZ_]
    · obtain⟨n,hn,h,e⟩:=Z l hl hok hc f.a (Aq_ (y:=W_ f.a [33]) hd) q
      have:n∈I:=(hV.2 n).2 ⟨hn,fun _=>h⟩;rw[e];unfold cZ_;exact List.mem_append_right _ (List.mem_map.2 ⟨_,List.mem_map.2 ⟨n,this,rfl⟩,rfl⟩)
  have h:=xF_ hl hok hc (U▸H) hd hr;rw[← U]at h;refine⟨_,(G _).2 h,ww_.2 ⟨rfl,?_⟩⟩;show sig (atS (bo_ 0 X)) f.a=[42]∨hpB (sig (atS (bo_ 0 X)) f.a) [123]=true
  unfold sig
  split
  ·exact K
  exact .inl rfl
 rintro ⟨f,Y,v⟩;exact⟨f,B f ((G f).1 Y),v⟩
end Go.Proofs.YthmjeabeoodghaaGreatDoor
namespace Go.Proofs.YthmjeabeoodghaaGreatDoor
open Go Go.Sx Go.Proofs Tryz
attribute [local irreducible] Code.wp wpList wpAnyH
open Go.Vs
def BrA (V:List Str) (s:Str):Prop:=s.head? = some 123→∃ n∈V,n≠[]∧s=ca_ n
def BrP (V:List Str) (q:Pc):Prop:=BrA V q.a∧BrA V q.b∧BrA V q.c
theorem cM_ (V:List Str):BrA V []:=fun h=>by simp at h
theorem CX_ (V:List Str) (s:Str):BrA V (60::s):=fun h=>by simp at h
theorem wz_ (V:List Str):BrA V [42]:=fun h=>by simp at h
theorem wA_ (V:List Str):BrA V [33]:=fun h=>by simp at h
theorem plain_head {s:Str} (h:bk_ s=true):s.head? ≠ some 123:=by
 have v:∀ {t:Str},gX_ t=true→t.head? ≠ some 123:=fun {t} ht e=>by
   cases t with
   | nil=>simp at e
   | cons a t =>
     simp only[List.head?_cons,Option.some.injEq]at e;subst e
     revert ht
     simp[gX_,eG_]
 unfold bk_ at h;rw[Bool.and_eq_true]at h;obtain⟨_,h⟩:=h
 split at h
 ·exact v h
 rename_i k _
 rw[Bool.and_eq_true]at h;have d:=v h.1;intro e;cases s with
 | nil=>simp at e
 | cons a t =>
   cases k with
   | zero=>have m:=h.1;revert m;simp[gX_]
   | succ k=>exact d zbc_
section
open Go.Vs.Con
theorem du_ {V:List Str} {c:Con} (h:c.check=0) (m:∀ n∈c.nms 4,n∈V):BrA V c.atom:=by
 have N:=names_of (check_zero h).1;unfold atom
 split
 ·exact wz_ V
 split
 ·exact wA_ V
 split
 ·rename_i d;exact fun q=>absurd q (plain_head (N.plain (.inl d)))
 split
 ·rename_i d
  refine fun _=>⟨c.name,m _ ?_,fun e=>?_,rfl⟩
  ·rw[nms_eq,if_pos d];simp
  have:=N.person d;rw[e]at this;revert this;decide
 exact CX_ V _
theorem hx_ {c p:Con} {k:Int} (d:p∈c.parts) {n:Str} (e:n∈p.nms k):n∈c.nms k:=by
  rw[nms_eq];exact List.mem_append_right _ (List.mem_flatMap.2 ⟨p,d,e⟩)
theorem pre_br (V:List Str) (c:Con) (d:c.kind=5) (j:Nat):BrA V (c.pre j).atom:=by
  have e:(c.pre j).kind=5:=rfl;unfold atom;rw[if_neg (by rw[e];decide),if_neg (by rw[e];decide),if_neg (by rw[e];decide),if_neg (by rw[e];decide)];exact CX_ V _
section
variable {f:Int} {V:List Str}
theorem wF_ (c:Con) (d:c.check=0) (e:c.kind=5) (m:∀ n∈c.nms 4,n∈V):∀ (r:List Con) (j:Nat) (a:Str) (l:List Pc),(∀ p∈r,p∈c.parts)→BrA V a→(∀ q∈l,BrP V q)→∀ q∈andP f c r j a l,BrP V q
  | [],_,_,l,_,_,hl=>hl
  | p::r,j,a,l,hm,ha,hl=>by
    have h:=hm p zaf_;have v:=pre_br V c e (j+1);have y:=du_ (check_part d h) fun n A=>m n (hx_ h A)
    simp only[andP];exact wF_ c d e m r (j+1) _ _ (fun q x=>hm q zbL_) v (bC_ hl ⟨ha,y,v⟩)
theorem hA_:∀ (m:Nat) (c:Con),c.sz≤m→c.check=0→(∀ n∈c.nms 4,n∈V)→∀ l,(∀ q∈l,BrP V q)→∀ q∈c.leftP f l,BrP V q
 | 0,c,h=>by have:=c.sz_pos;omega
 | m+1,c,h=>fun e x l hl=>by
   have y:∀ ps:List Con,(∀ p∈ps,p∈c.parts)→∀ l,(∀ q∈l,BrP V q)→∀ q∈leftP.lefts f ps l,BrP V q:=by
     intro ps
     induction ps with
     | nil=>intro _ l hl;exact hl
     | cons p ps ih =>
       intro v l hl;have d:=v p zaf_;exact ih (fun q A=>v q (by simp[A])) _ (hA_ m p zaU_ (check_part e d) (fun n B=>x n (hx_ d B)) l hl)
   have C:=y c.parts (fun _ h=>h) l hl;have ca:=du_ e x
   have E:BrA V ((c.parts.map atom).headD []):=by
     match v:c.parts with
     | []=>exact cM_ V
     | p::r =>
       have d:p∈c.parts:=by rw[v];simp
       simpa using du_ (check_part e d) fun n B=>x n (hx_ d B)
   rw[leftP_eq]
   split
   · rename_i F
     exact wF_ c e F x _ 1 _ _ (fun q A=>List.mem_of_mem_drop A) E C
   · split
     · exact bC_ C ⟨E,cM_ V,ca⟩
     · split
       · exact bC_ hl ⟨cM_ V,cM_ V,ca⟩
       · exact hl
theorem fv_:∀ (m:Nat) (c:Con),c.sz≤m→c.check=0→(∀ n∈c.nms 4,n∈V)→∀ l,(∀ q∈l,BrP V q)→∀ q∈c.rightP f l,BrP V q
 | 0,c,h=>by have:=c.sz_pos;omega
 | m+1,c,h=>fun v B l hl=>by
   have ca:=du_ v B
   have C:∀ ps:List Con,(∀ p∈ps,p∈c.parts)→∀ l,(∀ q∈l,BrP V q)→∀ q∈rightP.rights f c.atom ps l,BrP V q:=by
     intro ps
     induction ps with
     | nil=>intro _ l hl;exact hl
     | cons p ps ih =>
       intro e l hl;have d:=e p zaf_;have y:∀ n∈p.nms 4,n∈V:=fun n A=>B n (hx_ d A)
       exact ih (fun q E=>e q zbY_) _ (fv_ m p zaU_ (check_part v d) y _ (bC_ hl ⟨ca,cM_ V,du_ (check_part v d) y⟩))
   have x:∀ ps:List Con,(∀ p∈ps,p∈c.parts)→∀ l,(∀ q∈l,BrP V q)→∀ q∈rightP.righty f ps l,BrP V q:=by
     intro ps
     induction ps with
     | nil=>intro _ l hl;exact hl
     | cons p ps ih =>
       intro e l hl;have d:=e p zaf_;exact ih (fun q E=>e q zbY_) _ (fv_ m p zaU_ (check_part v d) (fun n A=>B n (hx_ d A)) l hl)
   have F:BrA V ((c.parts.map atom).headD []):=by
     match e:c.parts with
     | []=>exact cM_ V
     | p::r =>
       have d:p∈c.parts:=by rw[e];simp
       simpa using du_ (check_part v d) fun n A=>B n (hx_ d A)
   rw[rightP_eq]
   split
   · exact C c.parts (fun _ h=>h) l hl
   · split
     · exact x c.parts (fun _ h=>h) _ (bC_ hl ⟨ca,cM_ V,F⟩)
     · split
       · exact bC_ hl ⟨ca,cM_ V,cM_ V⟩
       · exact hl
end
end
end Go.Proofs.YthmjeabeoodghaaGreatDoor
namespace Go.Proofs.YthmjeabeoodghaaGreatDoor
open Go Go.Sx Go.Proofs Tryz
attribute [local irreducible] Code.wp wpList wpAnyH
open Go.Vs
section
variable {f:Int} {V:List Str}
theorem qX_ (role:Str):∀ (rs:List Str) (g:Str) (l:List Pc),(∀ q∈l,BrP V q)→∀ q∈Ax.chainP f role rs g l,BrP V q
  | [],_,_,hl=>hl
  | r::t,g,l,hl=>by
    simp only[Ax.chainP];exact qX_ role t _ _ (bC_ hl ⟨cM_ V,cM_ V,cM_ V⟩)
theorem vf_ {s:Str} (h:s∈V) (d:s≠[]):BrA V ([123]++s++[125]):=fun _=>⟨s,h,d,rfl⟩
theorem eM_ {s:Str} (h:aN_ s=true):s≠[]:=fun e=>by rw[e]at h;revert h;decide
theorem xu_ {x:Ax} (C:x.check=0) (v:∀ n∈x.vc 4,n≠[]→n∈V):∀ q∈x.pieces f,BrP V q:=by
 have G:=Ax.good_of C;have e:x.left.check=0→∀ n∈x.left.nms 4,n∈V:=fun h n m=>v n (by unfold Ax.vc;simp[m]) (eM_ (hc_ h m))
 have d:x.right.check=0→∀ n∈x.right.nms 4,n∈V:=fun h n m=>v n (by unfold Ax.vc;simp[m]) (eM_ (hc_ h m))
 have A:aN_ x.a=true→x.a∈V:=fun h=>v _ (by unfold Ax.vc;simp) (eM_ h)
 have F:aN_ x.b=true→x.b∈V:=fun h=>v _ (by unfold Ax.vc;simp) (eM_ h)
 have n:∀ q∈([]:List Pc),BrP V q:=fun q E=>by cases E
 have H:=G.k1;have B:=G.k9;unfold Ax.pieces
 split
 ·have l:=G.left zaa_;have r:=G.right zaa_
  exact bC_ (fv_ _ _ (Nat.le_refl _) r (d r) _ (hA_ _ _ (Nat.le_refl _) l (e l) _ n)) ⟨du_ l (e l),cM_ V,du_ r (d r)⟩
 split
 ·have l:=G.left zaa_;have r:=G.right zaa_
  exact bC_ (fv_ _ _ (Nat.le_refl _) l (e l) _ (hA_ _ _ (Nat.le_refl _) r (d r) _ (bC_ (fv_ _ _ (Nat.le_refl _) r (d r) _ (hA_ _ _ (Nat.le_refl _) l (e l) _ n)) ⟨du_ l (e l),cM_ V,du_ r (d r)⟩))) ⟨du_ r (d r),cM_ V,du_ l (e l)⟩
 split
 ·have l:=G.left zaa_;have r:=G.right zaa_
  exact bC_ (hA_ _ _ (Nat.le_refl _) r (d r) _ (hA_ _ _ (Nat.le_refl _) l (e l) _ n)) ⟨du_ l (e l),du_ r (d r),wA_ V⟩
 split
 ·have r:=G.right zaa_
  exact bC_ (fv_ _ _ (Nat.le_refl _) r (d r) _ n) ⟨wz_ V,cM_ V,du_ r (d r)⟩
 split
 ·exact bC_ n ⟨cM_ V,cM_ V,cM_ V⟩
 split
 ·exact qX_ _ _ _ _ n
 split
 ·exact bC_ n ⟨cM_ V,cM_ V,cM_ V⟩
 split
 ·have r:=G.right zaa_;have p:=G.a zaa_
  exact bC_ (fv_ _ _ (Nat.le_refl _) r (d r) _ n) ⟨vf_ (A p) (eM_ p),cM_ V,du_ r (d r)⟩
 have y:=G.a zaa_;have pb:=G.b zaa_;exact bC_ n ⟨vf_ (A y) (eM_ y),cM_ V,vf_ (F pb) (eM_ pb)⟩
end
theorem Ag_ {a:Str} (h:hpB a [123]=true):a.head? = some 123:=by
  unfold hpB at h;cases a with
  | nil=>simp at h
  | cons b t=>simp at h;simp[h]
theorem atI:AtI:=fun l hl G C a J v=>by
 rcases (fI_ _ _).1 J with h|rfl|rfl
 ·obtain⟨x,E,A⟩:=List.mem_flatMap.1 ((ej_ _ _).1 h)
  obtain⟨j,y,H,F⟩:=gJ_.1 E;have d:=List.mem_of_getElem? H;have m:=xu_ (V:=vcL 4 l) (C y d) (fun n I _=>List.mem_flatMap.2 ⟨y,d,I⟩) x F;unfold jn_ at A;have B:=(List.mem_filter.1 A).1;have e:=Ag_ v;simp only[List.mem_cons,List.not_mem_nil,or_false]at B;rcases B with rfl|rfl|rfl
  ·exact m.1 e
  ·exact m.2.1 e
  exact m.2.2 e
 ·exact absurd v zad_
 exact absurd v zad_
theorem uO_:MtL1:=mtL1 atI
end Go.Proofs.YthmjeabeoodghaaGreatDoor
namespace Go.Proofs.YthmjeabeoodghaaGreatDoor
open Go Go.Sx Go.Proofs Tryz
attribute [local irreducible] Code.wp wpList wpAnyH
open Go.Vs
def VoA:Prop:=∀ (l:List Ax),l.length≤12→(∀ x∈l,x.ok)→(∀ x∈l,x.check=0)→(∀ s∈vcL 4 l,s≠[]→ca_ s∈atS (bo_ 0 l))∧∀ n∈vcL 3 l,n∈atS (bo_ 0 l)
theorem xG_ {a b:Str} (h:a≠b):cJ_ (-1) [a,b] []=cV_ [a,b]:=by
  simp[cJ_,ins,rg_,cV_,h,Ne.symm h]
theorem ind_ne {s n:Str} (d:bk_ n=true):ca_ s≠n:=fun e=>plain_head d (by rw[← e];simp[ca_])
theorem TyG.tdyE {s n:Str} {a:Ax} (h:TyG s n a) (d:a.check=0):a.tdyE=0:=by
  obtain⟨ad,cp,e⟩:=jL_ h.r;unfold Ax.tdyE;rw[if_neg (fun q=>q d),h.k,if_neg (fun q=>absurd (show (us 8).left=true from q.1) zad_),Con.tdy_self zbE_ zbE_,if_neg (fun q=>q.2 rfl)]
theorem tN_ {d:List Fc} {a b:Str}:tO_ d (W_ a b)=true↔W_ a b∈d∨W_ a [33]∈d:=by
 unfold tO_;rw[List.any_eq_true];constructor
 ·rintro ⟨x,e,h⟩
  simp only[Bool.or_eq_true,Bool.and_eq_true,decide_eq_true_eq]at h;rcases h with (h|h)|h
  ·exact .inl (h▸e)
  ·exact .inr (h▸e)
  exact absurd (congrArg Fc.kind h.1.1) (by simp[W_,Y_])
 rintro (h|h)
 ·exact⟨_,h,by simp⟩
 exact⟨_,h,by simp[W_]⟩
theorem CV_ {l:List Ax} {s n:Str} {a:Ax} {x:Bool} {h:Int} (J:BCk l 0) (I:aN_ s=true) (F:bk_ n=true) (v:TyG s n a) (hE:EnR l a x h) :
    ∃ c e,eU_ (bo_ 0 l++cV_ [ca_ s,n]) 1073741824 c e∧((e≠0∧x=false∧h=e)∨(e=0∧h=0∧x=tO_ c.facts (W_ (ca_ s) n))):=by
  have C:=v.check0 I F;obtain⟨G,A,q|⟨_,y,H,E,q⟩⟩:=hE
  · exact absurd (A.uniq J) q.1
  · have K:H=0:=E.1.trans (v.tdyE C)
    subst K;have d:=v.tdy (E.2 rfl).1;have L:=d.goal (by rw[← v.chk d];exact C);rcases q with q|⟨_,c,B,m,q⟩
    · exact absurd rfl q.1
    · rw[L]at m q
      dsimp only at m q;rw[xG_ (ind_ne F)]at m;refine⟨c,B,m,q.elim .inl fun q=>.inr ⟨q.1,q.2.1,?_⟩⟩;rw[q.2.2];simp[W_]
theorem pr_ {l:List Ax} {s n:Str} (hl:l.length≤12) (d:∀ x∈l,x.ok) (e:∀ x∈l,x.check=0) (m:aN_ s=true) (h:bk_ n=true):cC_ (bo_ 0 l++cV_ [ca_ s,n])=0 :=
  qV_ hl d e (by unfold fs_;simp;exact⟨jo_ m,py_ h⟩) zaf_
theorem at_men {p:List Pc} {S:List Str} (h:∀ s∈S,s∈atS p):∀ s∈atS (p++cV_ S),s∈atS p:=fun s B=>by
 rcases (fI_ _ _).1 B with v|rfl|rfl
 ·obtain⟨x,A,e⟩:=List.mem_flatMap.1 ((ej_ _ _).1 v)
  unfold jn_ at e;obtain⟨d,m⟩:=List.mem_filter.1 e;rcases List.mem_append.1 A with q|q
  ·exact ub_ q zbd_ zau_
  unfold cV_ at q;obtain⟨t,y,rfl⟩:=List.mem_map.1 q;simp only[List.mem_cons,List.not_mem_nil,or_false]at d;rcases d with rfl|rfl|rfl
  ·exact h _ y
  ·simp at m
  exact rZ_ p
 ·exact rZ_ p
 exact nJ_ p
theorem mtL2 (hVo:VoA):MtL2:=by
 intro l X ok I C s n a x y h j hl F hfw hI h_1 hVI hVC hsI hnC hT V U;obtain⟨hb,P,I',hV,hX,hs,hbX⟩:=Ae_ hl hI;obtain⟨N,m⟩:=(hVI.2 s).1 hsI;have m:=m (.inr rfl);have a4:=((hVC.2 n).1 hnC).1;have G:=iN_ P N m;have A:=ki_ P (.inl rfl) a4;obtain⟨v_1,v_2⟩:=hVo l hl F P
 have hat:∀ t∈[ca_ s,n],t∈atS (bo_ 0 l):=fun t ht=>by
   simp only[List.mem_cons,List.not_mem_nil,or_false]at ht;rcases ht with rfl|rfl
   · exact v_1 s N m
   · exact v_2 _ a4
 obtain⟨c,e_1,hA,R⟩:=Aw_ hb h_1;have e_2:e_1=0:=R.elim (fun q=>absurd q.2.2.symm q.1) fun q=>q.1
 subst e_2;have Y:=hA.good.2.2.2.2.2;have O:∀ y,y∈c.facts↔Der (bo_ 0 l) (atS (bo_ 0 l)) y:=Y.2.1;have hXl:X.length≤12:=Nat.le_trans hs.length_le hl;have b0:∀ x∈X,x.ok:=fun x v=>F x (hs.subset v)
 have hcX:∀ x∈X,x.check=0:=fun x v=>P x (hs.subset v)
 have a3:=pr_ (s:=s) (n:=n) hl F P G A;have J:=pr_ (s:=s) (n:=n) hXl b0 hcX G A;obtain⟨a7,f_1,b2,b3⟩:=CV_ hb G A hT V;obtain⟨Q,f_2,a9,a6⟩:=CV_ hbX G A hT U
 have B:∀ y,Der (bo_ 0 l++cV_ [ca_ s,n]) (atS (bo_ 0 l++cV_ [ca_ s,n])) y→y∈c.facts:=fun y hy =>
   (O y).2 ((wq_ hy).mono (fun x v=>⟨x,v,x.frm,rfl⟩) (at_men hat))
 have T:∀ x∈bo_ 0 X,∃ y∈bo_ 0 l,∃ n,{ y with frm:=n }=x:=by rw[hX];exact iZ_
 have K:∀ y,Der (bo_ 0 X++cV_ [ca_ s,n]) (atS (bo_ 0 X++cV_ [ca_ s,n])) y→y∈c.facts:=fun y hy =>
   B y (hy.mono (fun x v=>(List.mem_append.1 v).elim (fun q=>(T x q).elim fun z W=>⟨z,List.mem_append_left _ W.1,W.2⟩) fun q=>⟨x,List.mem_append_right _ q,x.frm,rfl⟩)
     (rh_ fun x v=>(List.mem_append.1 v).elim (fun q=>(T x q).elim fun z W=>⟨z,List.mem_append_left _ W.1,W.2⟩) fun q=>⟨x,List.mem_append_right _ q,x.frm,rfl⟩))
 have a1:∀ {p:List Pc} {d:Cl} {e:Int},eU_ p 1073741824 d e→cC_ p=0→(∀ y,Der p (atS p) y→y∈c.facts)→e=0∧∀ y,y∈d.facts↔Der p (atS p) y:=fun {p d e} hD hk hu=>by
   rcases wG_ hD hk zad_ zad_ with⟨q,_,q_1⟩|⟨_,_,M,m_1,m_2,m_3⟩
   · exact⟨q,q_1.2.1⟩
   · exfalso
     have h_2:=eB_ m_1 fun x v=>hu x (m_2 x v)
     have h_3:=Y.2.2;have h_4:(min (1073741824:Int) 65536).toNat=65536:=by decide
     omega
 obtain⟨z_1,g_1⟩:=a1 b2 a3 B;obtain⟨z_2,g_2⟩:=a1 a9 J K;subst z_1 z_2;have b4:h=0∧x=tO_ a7.facts (W_ (ca_ s) n):=b3.elim (fun q=>absurd rfl q.1) fun q=>q.2
 have a5:j=0∧y=tO_ Q.facts (W_ (ca_ s) n):=a6.elim (fun q=>absurd rfl q.1) fun q=>q.2
 refine⟨b4.1,a5.1,?_⟩;rw[b4.2,a5.2,Bool.eq_iff_iff,tN_,tN_];have Z:s∈I':=(hV.2 s).2 ⟨N,fun _=>m⟩
 have hr:Rch (bo_ 0 l) (I'.map ca_) ⟨1,ca_ s⟩:=.base (by
   unfold cZ_;exact List.mem_append_right _ (List.mem_map.2 ⟨_,List.mem_map.2 ⟨s,Z,rfl⟩,rfl⟩))
 have a0:ca_ s∈atS (bo_ 0 X++cV_ [ca_ s,n]):=ub_ (x:=⟨1,ca_ s,[],[42],[],[],[],0,0,-1⟩) (List.mem_append_right _ (by simp[cV_])) (.inl rfl) (by simp[ca_]);have a8:n∈atS (bo_ 0 X++cV_ [ca_ s,n]):=ub_ (x:=⟨1,n,[],[42],[],[],[],0,0,-1⟩) (List.mem_append_right _ (by simp[cV_])) (.inl rfl) (fun e=>by rw[e]at A;revert A;decide)
 have b1:∀ t,(t=n∨t=[33])→(W_ (ca_ s) t∈a7.facts↔W_ (ca_ s) t∈Q.facts):=fun t ht=>by
   have a2:t∈atS (bo_ 0 X++cV_ [ca_ s,n]):=ht.elim (fun q=>q▸a8) fun q=>q▸nJ_ _
   rw[g_1,g_2];constructor
   · intro hd
     have E:=(O _).1 (B _ hd);have H:=tg_ hl F P (S:=I'.map ca_) E hr;rw[← hX]at H;have L:=tM_ J (H.mono (fun x v=>⟨x,List.mem_append_left _ v,x.frm,rfl⟩) (fun _ q=>q))
     have e:uv_ (atS (bo_ 0 X++cV_ [ca_ s,n])) (W_ (ca_ s) t)=W_ (ca_ s) t:=by
       show W_ (sig _ (ca_ s)) (sig _ t)=_
       rw[ib_ a0,ib_ a2]
     rw[e]at L;exact L
   · intro hd
     have E:=(O _).1 (K _ hd);exact E.mono (fun x v=>⟨x,List.mem_append_left _ v,x.frm,rfl⟩) (rh_ fun x v=>⟨x,List.mem_append_left _ v,x.frm,rfl⟩)
 rw[b1 n (.inl rfl),b1 [33] (.inr rfl)]
def OcA (L:List Pc) (s:Str):Prop:=∃ q∈L,s=q.a∨s=q.b∨s=q.c
def gj_ (l m:List Pc):Prop:=∀ q∈l,q∈m
theorem OcA.up {l m:List Pc} {s:Str} (h:OcA l s) (d:gj_ l m):OcA m s:=by
  obtain⟨q,v,e⟩:=h;exact⟨q,d q v,e⟩
theorem gj_.refl (l:List Pc):gj_ l l:=fun _ h=>h
theorem gj_.trans {a b c:List Pc} (h:gj_ a b) (k:gj_ b c):gj_ a c:=fun q d=>k q (h q d)
theorem ep_ (f:Int) (l:List Pc) (p:Pc):gj_ l (ins f l p):=fun q d=>by
 unfold ins;split
 ·exact d
 exact List.mem_append_left _ d
theorem Ac_ (f:Int) (l:List Pc) (p:Pc):{ p with frm:=f }∈ins f l p:=by
 unfold ins;split
 ·assumption
 simp
theorem eN_ (f:Int) (l:List Pc) (p:Pc) {s:Str} (h:s=p.a∨s=p.b∨s=p.c):OcA (ins f l p) s:=⟨_,Ac_ f l p,h⟩
def aO (k:Int) (n:Str):Str:=if k=4 then ca_ n else n
section
open Go.Vs.Con
variable {f:Int}
theorem lQ_ (c:Con) (l:List Pc):gj_ l (c.leftP f l):=qA_ (R:=gj_) gj_.refl (fun h k=>gj_.trans h k) (fun l p=>ep_ f l p) _ c (Nat.le_refl _) l
theorem eL_ (c:Con) (l:List Pc):gj_ l (c.rightP f l):=kr_ (R:=gj_) gj_.refl (fun h k=>gj_.trans h k) (fun l p=>ep_ f l p) _ c (Nat.le_refl _) l
theorem wI_ {c:Con} {k:Int} (d:k=3∨k=4) (h:c.kind=k):aO k c.name=c.atom:=by
 unfold aO atom;rcases d with rfl|rfl
 ·rw[if_neg zad_,if_neg zaa_,if_neg zaa_,if_pos h]
 rw[if_pos rfl,if_neg zaa_,if_neg zaa_,if_neg zaa_,if_pos h];rfl
theorem pB_ (c:Con):∀ (r:List Con) (j:Nat) (a:Str) (l:List Pc),gj_ l (andP f c r j a l)
  | [],_,_,l=>gj_.refl l
  | p::r,j,a,l=>by
    simp only[andP];exact (ep_ f l _).trans (pB_ c r _ _ _)
theorem sb_ (c:Con):∀ (r:List Con) (j:Nat) (a:Str) (l:List Pc),(∀ p∈r,OcA (andP f c r j a l) p.atom)∧(r≠[]→OcA (andP f c r j a l) a)
 | [],_,_,l=>⟨(fun p m=>by cases m),fun h=>absurd rfl h⟩
 | p::r,j,a,l=>by
   simp only[andP];have e:=pB_ (f:=f) c r (j+1) (c.pre (j+1)).atom (ins f l ⟨2,a,p.atom,(c.pre (j+1)).atom,[],[],[],0,0,0⟩);refine⟨fun q d=>?_,fun _=>(eN_ f l _ (.inl rfl)).up e⟩;rcases List.mem_cons.1 d with rfl|d
   · exact (eN_ f l _ (.inr (.inl rfl))).up e
   · exact (sb_ c r _ _ _).1 q d
theorem qo_ {c:Con} (x:c.check=0) (A:¬ c.kind=5) (y:¬ c.kind=6):c.parts=[]:=by
  have F:=fields (check_zero x).1;have d:=F.mo;have v:=F.k1;have m:=F.k7;have h:c.kind=1∨c.kind=2∨c.kind=3∨c.kind=4∨c.kind=7:=by omega
  rcases h with e|e|e|e|e<;>rw[e]at d<;>simp[nd,dF_]at d<;>exact d
theorem qz_:∀ (ps:List Con) (l:List Pc),gj_ l (leftP.lefts f ps l)
  | [],l=>gj_.refl l
  | p::ps,l=>by simp only[leftP.lefts];exact (lQ_ p l).trans (qz_ ps _)
theorem tn_ {s:Str}:∀ (ps:List Con) (l:List Pc) (p:Con),p∈ps→(∀ l,OcA (p.leftP f l) s)→OcA (leftP.lefts f ps l) s
 | q::ps,l,p,d,h=>by
   simp only[leftP.lefts];rcases List.mem_cons.1 d with rfl|d
   · exact (h l).up (qz_ ps _)
   · exact tn_ ps _ p d h
theorem oT_ {k:Int} (H:k=3∨k=4):∀ (m:Nat) (c:Con),c.sz≤m→c.check=0→∀ n∈c.nms k,aO k n=c.atom∨∀ l,OcA (c.leftP f l) (aO k n)
 | 0,c,h=>by have:=c.sz_pos;omega
 | m+1,c,h=>fun C n y=>by
   rw[nms_eq]at y;rcases List.mem_append.1 y with y|y
   · split at y
     · rename_i e;rw[List.mem_singleton.1 y];exact .inl (wI_ H e)
     · simp at y
   · obtain⟨p,d,y⟩:=List.mem_flatMap.1 y
     refine .inr fun l=>?_;have F:=fields (check_zero C).1;have x:=F.le;have A:=oT_ H m p zaU_ (check_part C d) n y;have B:∀ l,(∀ l,OcA (p.leftP f l) (aO k n))→OcA (leftP.lefts f c.parts l) (aO k n):=fun l q=>tn_ _ l p d q
     rw[leftP_eq]
     split
     · rename_i G
       rw[G]at x;simp[nd,dF_]at x
       rcases A with e|q
       · rw[e]
         match hps:c.parts,x,d with
         | p0::r,x,d =>
           have I:r≠[]:=fun e=>by subst e;simp at x
           simp only[List.drop_succ_cons,List.drop_zero,List.map_cons,List.headD_cons];rcases List.mem_cons.1 d with rfl|d
           · exact (sb_ c r _ _ _).2 I
           · exact (sb_ c r _ _ _).1 p d
       · exact (B l q).up (pB_ c _ _ _ _)
     · split
       · rename_i E
         have v:=F.mo;rw[E]at v;simp[nd,dF_]at v
         rcases A with e|q
         · rw[e]
           match hps:c.parts,v,d with
           | [p0],v,d =>
             rw[List.mem_singleton]at d;subst d;exact eN_ f _ _ (.inl rfl)
           | p0::p1::r,v,d=>simp at v;omega
         · exact (B l q).up (ep_ f _ _)
       · exfalso
         rename_i G E
         have J:c.parts=[]:=qo_ C G E;rw[J]at d;cases d
theorem kq_ (a:Str):∀ (ps:List Con) (l:List Pc),gj_ l (rightP.rights f a ps l)
  | [],l=>gj_.refl l
  | p::ps,l=>by simp only[rightP.rights];exact ((ep_ f l _).trans (eL_ p _)).trans (kq_ a ps _)
theorem qh_ {s a:Str}:∀ (ps:List Con) (l:List Pc) (p:Con),p∈ps→((s=p.atom)∨∀ l,OcA (p.rightP f l) s)→OcA (rightP.rights f a ps l) s
 | q::ps,l,p,d,h=>by
   simp only[rightP.rights];rcases List.mem_cons.1 d with rfl|d
   · rcases h with h|h
     · exact ((eN_ f l _ (.inr (.inr h))).up (eL_ p _)).up (kq_ a ps _)
     · exact (h _).up (kq_ a ps _)
   · exact qh_ ps _ p d h
theorem kp_:∀ (ps:List Con) (l:List Pc),gj_ l (rightP.righty f ps l)
  | [],l=>gj_.refl l
  | p::ps,l=>by simp only[rightP.righty];exact (eL_ p l).trans (kp_ ps _)
theorem qg_ {s:Str}:∀ (ps:List Con) (l:List Pc) (p:Con),p∈ps→(∀ l,OcA (p.rightP f l) s)→OcA (rightP.righty f ps l) s
 | q::ps,l,p,d,h=>by
   simp only[rightP.righty];rcases List.mem_cons.1 d with rfl|d
   · exact (h l).up (kp_ ps _)
   · exact qg_ ps _ p d h
theorem qi_ {k:Int} (C:k=3∨k=4):∀ (m:Nat) (c:Con),c.sz≤m→c.check=0→∀ n∈c.nms k,aO k n=c.atom∨∀ l,OcA (c.rightP f l) (aO k n)
 | 0,c,h=>by have:=c.sz_pos;omega
 | m+1,c,h=>fun B n x=>by
   rw[nms_eq]at x;rcases List.mem_append.1 x with x|x
   · split at x
     · rename_i e;rw[List.mem_singleton.1 x];exact .inl (wI_ C e)
     · simp at x
   · obtain⟨p,v,x⟩:=List.mem_flatMap.1 x
     refine .inr fun l=>?_;have F:=fields (check_zero B).1;have G:=F.le;have y:=qi_ C m p (by have:=sz_part v;omega) (check_part B v) n x;rw[rightP_eq]
     split
     · exact qh_ _ l p v y
     · split
       · rename_i A
         have d:=F.mo;rw[A]at d;simp[nd,dF_]at d
         rcases y with e|q
         · rw[e]
           match hps:c.parts,d,v with
           | [p0],d,v =>
             rw[List.mem_singleton]at v;subst v;exact (eN_ f l _ (.inr (.inr rfl))).up (kp_ _ _)
           | p0::p1::r,d,v=>simp at d;omega
         · exact qg_ _ _ p v q
       · exfalso
         rename_i E A
         have H:c.parts=[]:=qo_ B E A;rw[H]at v;cases v
end
end Go.Proofs.YthmjeabeoodghaaGreatDoor
namespace Go.Proofs.YthmjeabeoodghaaGreatDoor
open Go Go.Sx Go.Proofs Tryz
attribute [local irreducible] Code.wp wpList wpAnyH
open Go.Vs
theorem mc_ {G:Prop} (h:G:=by
 rename_i m
 have r:=G.right zaa_;refine⟨fun n d=>absurd d (v (by rw[m];decide) n),fun n d=>?_⟩;rcases H r n d with e|q
 ·exact eN_ _ _ _ (.inr (.inr e))
 exact (q _).up (ep_ _ _ _)):G:=h
theorem iu_ {G:Prop} (h:G:=by
 rename_i m;exact⟨fun n d=>absurd d (v (by rw[m];decide) n),fun n d=>absurd d (B (by rw[m];decide) n)⟩):G:=h
theorem jC_ {f:Int} {x:Ax} (J:x.check=0) {k:Int} (E:k=3∨k=4):(∀ n∈x.left.nms k,OcA (x.pieces f) (aO k n))∧(∀ n∈x.right.nms k,OcA (x.pieces f) (aO k n)):=by
 have G:=Ax.good_of J;have A:=jm_ J;unfold Ax.shaped at A;have L:=G.k1;have M:=G.k9;rw[if_neg zaa_]at A;simp only[Bool.and_eq_true,Bool.or_eq_true]at A;obtain⟨⟨⟨⟨⟨⟨C,I⟩,_⟩,_⟩,_⟩,_⟩,_⟩:=A;have v:(us x.kind).left=false→∀ n,n ∉ x.left.nms k:=fun h n=>fB_ (C.resolve_left (by rw[h];decide)) zaa_
 have B:(us x.kind).right=false→∀ n,n ∉ x.right.nms k:=fun h n=>fB_ (I.resolve_left (by rw[h];decide)) zaa_
 have F:=fun (h:x.left.check=0) n d=>oT_ (f:=f) E _ x.left (Nat.le_refl _) h n d
 have K:=fun (h:x.right.check=0) n d=>oT_ (f:=f) E _ x.right (Nat.le_refl _) h n d
 have H:=fun (h:x.right.check=0) n d=>qi_ (f:=f) E _ x.right (Nat.le_refl _) h n d
 unfold Ax.pieces
 split
 ·have l:=G.left zaa_;have r:=G.right zaa_
  refine⟨fun n d=>?_,fun n d=>?_⟩
  ·rcases F l n d with e|q
   ·exact eN_ _ _ _ (.inl e)
   exact ((q []).up (eL_ _ _)).up (ep_ _ _ _)
  rcases H r n d with e|q
  ·exact eN_ _ _ _ (.inr (.inr e))
  exact (q _).up (ep_ _ _ _)
 split
 ·have l:=G.left zaa_;have r:=G.right zaa_
  refine⟨fun n d=>?_,fun n d=>?_⟩
  ·rcases F l n d with e|q
   ·exact eN_ _ _ _ (.inr (.inr e))
   exact (((((q []).up (eL_ _ _)).up (ep_ _ _ _)).up (lQ_ _ _)).up (eL_ _ _)).up (ep_ _ _ _)
  rcases K r n d with e|q
  ·exact eN_ _ _ _ (.inl e)
  exact ((q _).up (eL_ _ _)).up (ep_ _ _ _)
 split
 ·have l:=G.left zaa_;have r:=G.right zaa_
  refine⟨fun n d=>?_,fun n d=>?_⟩
  ·rcases F l n d with e|q
   ·exact eN_ _ _ _ (.inl e)
   exact ((q []).up (lQ_ _ _)).up (ep_ _ _ _)
  rcases K r n d with e|q
  ·exact eN_ _ _ _ (.inr (.inl e))
  exact (q _).up (ep_ _ _ _)
 split
 ·exact mc_
 split
 ·exact iu_
 split
 ·exact iu_
 split
 ·exact iu_
 split
 ·exact mc_
 have y:x.kind=9:=by omega
 exact⟨fun n d=>absurd d (v (by rw[y];decide) n),fun n d=>absurd d (B (by rw[y];decide) n)⟩
theorem qn_ {f:Int} {x:Ax} (A:x.check=0):(x.a≠[]→OcA (x.pieces f) (ca_ x.a))∧(x.b≠[]→OcA (x.pieces f) (ca_ x.b)):=by
 have G:=Ax.good_of A;have v:=jm_ A;unfold Ax.shaped at v;have B:=G.k1;have F:=G.k9;rw[if_neg zaa_]at v;simp only[Bool.and_eq_true,Bool.or_eq_true,beq_iff_eq]at v;obtain⟨⟨⟨⟨⟨⟨_,_⟩,_⟩,m⟩,d⟩,_⟩,_⟩:=v;have E:x.kind=1∨x.kind=2∨x.kind=3∨x.kind=4∨x.kind=5∨x.kind=6∨x.kind=7∨x.kind=8∨x.kind=9:=by omega
 have no:∀ j:Int,j≠8→j≠9→x.kind=j→(us j).a=false→(us j).b=false→(x.a≠[]→OcA (x.pieces f) (ca_ x.a))∧(x.b≠[]→OcA (x.pieces f) (ca_ x.b)):=fun j _ _ e C y=>by
   rw[e]at m d;exact⟨fun h=>absurd (m.resolve_left (by rw[C];decide)) h,fun h=>absurd (d.resolve_left (by rw[y];decide)) h⟩
 rcases E with e|e|e|e|e|e|e|e|e
 ·exact no 1 zad_ zad_ e rfl rfl
 ·exact no 2 zad_ zad_ e rfl rfl
 ·exact no 3 zad_ zad_ e rfl rfl
 ·exact no 4 zad_ zad_ e rfl rfl
 ·exact no 5 zad_ zad_ e rfl rfl
 ·exact no 6 zad_ zad_ e rfl rfl
 ·exact no 7 zad_ zad_ e rfl rfl
 ·have y:x.b=[]:=by rw[e]at d;exact d.resolve_left zad_
  refine⟨fun _=>?_,fun h=>absurd y h⟩;unfold Ax.pieces;rw[if_neg zaa_,if_neg zaa_,if_neg zaa_,if_neg zaa_,if_neg zaa_,if_neg zaa_,if_neg zaa_,if_pos e];exact eN_ _ _ _ (.inl rfl)
 unfold Ax.pieces;rw[if_neg zaa_,if_neg zaa_,if_neg zaa_,if_neg zaa_,if_neg zaa_,if_neg zaa_,if_neg zaa_,if_neg zaa_];exact⟨fun _=>eN_ _ _ _ (.inl rfl),fun _=>eN_ _ _ _ (.inr (.inr rfl))⟩
theorem voA:VoA:=fun l hl E v=>by
 have up:∀ {s:Str} {x:Ax},x∈l→s≠[]→(∀ f:Int,OcA (x.pieces f) s)→s∈atS (bo_ 0 l):=fun {s x} d y h=>by
   obtain⟨j,F⟩:=List.mem_iff_getElem?.1 d;obtain⟨q,C,e⟩:=h ((0+j:Nat):Int);exact ub_ (gJ_.2 ⟨j,x,F,C⟩) e y
 refine⟨fun s m y=>?_,fun n B=>?_⟩
 ·obtain⟨x,d,m⟩:=List.mem_flatMap.1 m
  refine up d (by simp[ca_]) fun f=>?_;unfold Ax.vc at m;rw[if_neg zad_,if_pos rfl,List.append_nil,List.mem_append,List.mem_append,List.mem_cons,List.mem_singleton]at m;rcases m with (q|q)|rfl|rfl
  ·exact (jC_ (v x d) (.inr rfl)).1 s q
  ·exact (jC_ (v x d) (.inr rfl)).2 s q
  ·exact (qn_ (v x d)).1 y
  exact (qn_ (v x d)).2 y
 have A:=ki_ v (.inl rfl) B;obtain⟨x,d,m⟩:=List.mem_flatMap.1 B;refine up d (fun e=>by rw[e]at A;revert A;decide) fun f=>?_;unfold Ax.vc at m;rw[if_neg zad_,if_neg zad_,List.append_nil,List.append_nil,List.mem_append]at m;rcases m with q|q
 ·exact (jC_ (v x d) (.inl rfl)).1 n q
 exact (jC_ (v x d) (.inl rfl)).2 n q
theorem uN_:MtL2:=mtL2 voA
end Go.Proofs.YthmjeabeoodghaaGreatDoor
namespace Go.Proofs.YthmjeabeoodghaaGreatDoor
open Go Go.Sx Go.Proofs Tryz
attribute [local irreducible] Code.wp wpList wpAnyH
open Go.Vs Go.ChangeShapes Go.WideShapes Go.ChangeAt Go.RowKit
theorem own:ownKnob Tryz.prog.godebug=none:=by kernel_rfl
def hf_ : List (String × DataW Unit) := [("math/bits.deBruijn32tab", Rows.laid_math_bits_deBruijn32tab), ("math/bits.deBruijn64tab", Rows.laid_math_bits_deBruijn64tab), ("internal/strconv.uint64pow10", Rows.laid_internal_strconv_uint64pow10), ("unicode/utf8.acceptRanges", Rows.laid_unicode_utf8_acceptRanges), ("veilstone/terms.needs", Rows.laid_veilstone_terms_needs), ("veilstone/terms.uses", Rows.laid_veilstone_terms_uses), ("veilstone/normal.uses", Rows.laid_veilstone_normal_uses), ("unicode/utf8.first", Rows.laid_unicode_utf8_first)]
theorem zQ_:Kids prog (·<Tryz.prog.types.size):=kids_rows zac_ zac_
theorem full:∀ t e,t<Tryz.prog.types.size→Tryz.prog.underlying t=some (.slice e)→0<Tryz.prog.cellsOf e:=slices_full_of _ zac_
theorem oO_:Tryz.prog.types.size=413:=by kernel_rfl
theorem tysX:Tys prog 3 4 9 25 28 26 30 22 76 64 where
  i:=m_
  b:=kj_
  s:=aZ_
  ss:=iO_
  c:=⟨_,underlying28,rfl⟩
  cs:=underlying26
  a:=⟨_,underlying30,rfl⟩
  axs:=underlying22
  p:=⟨_,ga_,rfl⟩
  ps:=underlying64
  ci:=by kernel_rfl
  cb:=by kernel_rfl
  cs1:=by kernel_rfl
  css:=by kernel_rfl
  cc:=by kernel_rfl
  ccs:=by kernel_rfl
  ca:=by kernel_rfl
  cp:=by kernel_rfl
  bs:=by kernel_rfl
  bc:=by kernel_rfl
  ba:=by kernel_rfl
  bp:=by kernel_rfl
theorem nk_ {W:World} (h:laidMetH prog hf_ W):∃ T fz,W.heap[1]? = some (.cells (fw_ (H:=Unit) Rows.laid_veilstone_terms_needs).toArray T fz):=by
  rw[MakeChecks.laidMetH_plain _ _ _ zk]at h;exact kQ_ zQ_ (name := "veilstone/terms.needs") h (by simp [hf_]) (g := 1) (t := 277) zk zk (by rw [oO_]; decide) (m := 4) zk
theorem ol_ {W:World} (h:laidMetH prog hf_ W):∃ T fz,W.heap[0]? = some (.cells (fw_ (H:=Unit) Rows.laid_veilstone_terms_uses).toArray T fz):=by
  rw[MakeChecks.laidMetH_plain _ _ _ zk]at h;exact kQ_ zQ_ (name := "veilstone/terms.uses") h (by simp [hf_]) (g := 0) (t := 83) zk zk (by rw [oO_]; decide) (m := 4) zk
theorem nl_ {W:World} (h:laidMetH prog hf_ W):∃ T fz,W.heap[3]? = some (.cells (fw_ (H:=Unit) Rows.laid_veilstone_normal_uses).toArray T fz):=by
  rw[MakeChecks.laidMetH_plain _ _ _ zk]at h;exact kQ_ zQ_ (name := "veilstone/normal.uses") h (by simp [hf_]) (g := 3) (t := 328) zk zk (by rw [oO_]; decide) (m := 4) zk
theorem hr_ {W:World} (h:laidMetH prog hf_ W):∃ T fz,W.heap[4]? = some (.cells (fw_ (H:=Unit) Rows.laid_internal_strconv_uint64pow10).toArray T fz):=by
  rw[MakeChecks.laidMetH_plain _ _ _ zk]at h;exact kQ_ zQ_ (name := "internal/strconv.uint64pow10") h (by simp [hf_]) (g := 4) (t := 392) zk zk (by rw [oO_]; decide) (m := 4) zk
theorem rp_ {W:World} {g:Nat} {l:List Value} {d:List Value} (h:∃ T fz,W.heap[g]? = some (.cells l.toArray T fz)) (e:l=d):bY_ (vw W) (some ⟨g,0,none⟩) d:=by
  obtain⟨T,fz,h⟩:=h;subst e;exact .inr ⟨g,0,_,T,fz,rfl,(Array.getElem?_eq_some_iff.1 h).1,h,fun j x m=>by rw[Nat.zero_add];simpa using m⟩
theorem Bh_ {W:World} (h:laidMetH prog hf_ W):bN_.p (vw W):=by
  refine⟨rp_ (nk_ h) zk,rp_ (ol_ h) zk,trivial,?_⟩;obtain⟨T,fz,d⟩:=hr_ h;refine⟨trivial,(Array.getElem?_eq_some_iff.1 d).1,T,fz,?_⟩;rw[show (Lib.pow10Tab.map fun z=>Value.int .u64 z)=fw_ (H:=Unit) Rows.laid_internal_strconv_uint64pow10 by kernel_rfl];exact d
theorem Bi_ {W:World} (h:laidMetH prog hf_ W):hW_.p (vw W):=rp_ (nl_ h) zac_
end Go.Proofs.YthmjeabeoodghaaGreatDoor
namespace Go.Proofs.YthmjeabeoodghaaGreatDoor
open Go Go.Sx Go.Proofs Tryz
attribute [local irreducible] Code.wp wpList wpAnyH
open Go.Vs Go.ChangeShapes Go.WideShapes Go.ChangeAt Go.RowKit
structure TysB (P:Program) (tAs tQ:TypeId):Prop where
  q:∃ fs,P.underlying tQ=some (.struct fs)∧fs.toList.map (fun f=>(f.type,f.offset))=[(tAs,0)]
  cas:P.cellsOf tAs=1
  cq:P.cellsOf tQ=1
section
variable {H:Type} {enc:TypeId×Value→H} {P:Program} {W:World} {tI tB tS tSs tC tCs tA tAs tP tPs tQ:TypeId} (X:Tys P tI tB tS tSs tC tCs tA tAs tP tPs) (Y:TysB P tAs tQ) {base:Nat} {v:Value} {d:DataW H} {ps:List MemPlace}
include X Y
theorem AK_ (e:Value.okWide P W .any base tQ v) (h:DataW.Trod enc P W 0 (fun _=>true) true tQ v d ps) (F:wok (d.weights P tQ)) :
    ∃ (l:List Ax) (ad:Ao) (cap:Nat),v=.agg #[.slice ad l.length cap]∧(ch_ ad l).p (vw W)∧(∀ y∈l,y.ok)∧l.length≤cap∧cap≤2199023255488:=by
  obtain⟨M,G,L⟩:=Y.q;unfold Value.okWide at e;rw[G]at e;obtain⟨cs,rfl,_⟩:=e;obtain⟨n,J⟩:=h;simp only[Value.cells]at J;obtain⟨xs,m,I,N,hl,x,K,E⟩:=fields_of G L J;rw[E]at F
  match xs,x with
  | [x0],_ =>
  simp only[List.map_cons,List.map_nil,DataW.weightsEach,fq_]at F;have B:=K 0 _ rfl;simp only[List.getElem?_cons_zero,Y.cas]at B;obtain⟨l,ad,cap,A,C⟩:=axs_of X B F.1;rw[Y.cq]at hl;refine⟨l,ad,cap,?_,C⟩;rw[List.drop_zero,List.take_of_length_le zaa_]at A;rw[← A]
end
theorem tysB:TysB prog 22 24 where
  q:=⟨_,underlying24,rfl⟩
  cas:=by kernel_rfl
  cq:=by kernel_rfl
end Go.Proofs.YthmjeabeoodghaaGreatDoor
