/-
  Part of the proof of the law ModuleShrinks over this seat: the small logic, the data, the contracts of functions (no condition).
-/
import Derived.Test.YtamklbgaipakfaaGreatDoorQModuleShrinks13
import Derived.Test.YtamklbgaipakfaaGreatDoorQModuleShrinks11
import Derived.Test.YtamklbgaipakfaaGreatDoorQModuleShrinks7
import Derived.Test.YtamklbgaipakfaaGreatDoorQModuleShrinks12
import Derived.Test.YtamklbgaipakfaaGreatDoorQModuleShrinks10
set_option linter.unusedVariables false
set_option linter.unusedSimpArgs false
set_option linter.unusedSectionVars false
set_option maxHeartbeats 1000000
namespace Go.Proofs.YtamklbgaipakfaaGreatDoor
open Go Go.Sx Go.Proofs
attribute [local irreducible] Code.wp wpList wpAnyH
open Go.Vs
def TyR (x:Ax) (y:Ax×Int):Prop:=y.2=x.tdyE∧(y.2=0→TdyOf x y.1∧y.1.ok)
def Ax.zero:Ax:=.mk 0 false Con.zeroC Con.zeroC none 0 [] [] [] []
def SdF (u:Bool) (c q:Con):Prop:=(u=true→TdR c (q,0))∧(u=false→q=c)
theorem SdF.core {u:Bool} {c q:Con} (h:SdF u c q):q.core=(if u=true then c.tdy.1 else c).core:=by
  cases u with
  | true=>rw[if_pos rfl];exact ((h.1 rfl).2 rfl).1
  | false=>rw[if_neg (by simp),h.2 rfl]
theorem SdF.ok {u:Bool} {c q:Con} (h:SdF u c q) (hok:c.ok):q.ok:=by
  cases u with
  | true=>exact ((h.1 rfl).2 rfl).2
  | false=>rw[h.2 rfl];exact hok
theorem SdF.er {u:Bool} {c q:Con} (h:SdF u c q):¬ (u=true∧c.tdy.2≠0):=fun k=>k.2 (h.1 k.1).1.symm
theorem SdF.yes {u:Bool} {c q:Con} {e:Int} (hu:u=true) (h:TdR c (q,e)) (he:e=0):SdF u c q:=⟨fun _=>by rw[← he];exact h,fun k=>by rw[hu]at k;exact absurd k (by simp)⟩
theorem SdF.no {u:Bool} {c:Con} (hu:¬ u=true):SdF u c c:=⟨fun k=>absurd k hu,fun _=>rfl⟩
theorem SdF.sz {u:Bool} {c q:Con} (h:SdF u c q):q.sz≤c.sz:=by
  cases u with
  | true =>
    rw[Con.sz_core _ _ ((h.1 rfl).2 rfl).1]
    exact Con.tdy_sz c
  | false=>rw[h.2 rfl];exact Nat.le_refl _
theorem TyE1 {x y:Ax} (h:x.check≠0):TyR x (y,x.check):=⟨by unfold Ax.tdyE;rw[if_pos h],fun k=>absurd k h⟩
theorem TyE2 {x y:Ax} {q:Con} {e:Int} (h:x.check=0) (hu:(us x.kind).left=true) (hq:TdR x.left (q,e)) (he:e≠0):TyR x (y,e):=by
  have h1:e=x.left.tdy.2:=hq.1
  refine⟨?_,fun k=>absurd k he⟩
  unfold Ax.tdyE
  rw[if_neg (by rw[h];simp),if_pos ⟨hu,by rw[← h1];exact he⟩]
  exact h1
theorem TyE3 {x y:Ax} {l q:Con} {e:Int} (h:x.check=0) (hl:SdF (us x.kind).left x.left l) (hu:(us x.kind).right=true) (hq:TdR x.right (q,e)) (he:e≠0):TyR x (y,e):=by
  have h1:e=x.right.tdy.2:=hq.1
  refine⟨?_,fun k=>absurd k he⟩
  unfold Ax.tdyE
  rw[if_neg (by rw[h];simp),if_neg hl.er,if_pos ⟨hu,by rw[← h1];exact he⟩]
  exact h1
theorem Ty_e {x:Ax} {l r:Con} (h:x.check=0) (hl:SdF (us x.kind).left x.left l) (hr:SdF (us x.kind).right x.right r):x.tdyE=0:=by
  unfold Ax.tdyE
  rw[if_neg (by rw[h];simp),if_neg hl.er,if_neg hr.er]
theorem tQ_ {x:Ax} {l r:Con} (hl:SdF (us x.kind).left x.left l) (hr:SdF (us x.kind).right x.right r):Con.cmp x.tdyL x.tdyR=Con.cmp l r:=Con.cmp_of hl.core.symm hr.core.symm
theorem jr_ {x:Ax} {l r:Con} (hok:x.ok) (h:x.check=0) (hl:SdF (us x.kind).left x.left l) (hr:SdF (us x.kind).right x.right r) (hs:¬ ((x.kind=2∨x.kind=3)∧0<Con.cmp l r)):TyR x (.mk x.kind x.opn l r x.ad x.cap x.roles x.role x.a x.b,0):=by
 have hns:¬ x.swp:=by unfold Ax.swp;rw[tQ_ hl hr];exact hs
 refine⟨(Ty_e h hl hr).symm,fun _=>⟨⟨rfl,rfl,rfl,rfl,rfl,rfl,?_,?_⟩,?_⟩⟩
 ·rw[if_neg hns];exact hl.core
 ·rw[if_neg hns];exact hr.core
 exact⟨hok.lo,hok.hi,hl.ok hok.left,hr.ok hok.right,hok.len,hok.cap,hok.roles,hok.role,hok.a,hok.b⟩
theorem ox_ {x:Ax} {l r:Con} (hok:x.ok) (h:x.check=0) (hl:SdF (us x.kind).left x.left l) (hr:SdF (us x.kind).right x.right r) (hk:x.kind=2∨x.kind=3) (hs:0<Con.cmp l r):TyR x (.mk x.kind x.opn r l x.ad x.cap x.roles x.role x.a x.b,0):=by
 have hns:x.swp:=by unfold Ax.swp;rw[tQ_ hl hr];exact⟨hk,hs⟩
 refine⟨(Ty_e h hl hr).symm,fun _=>⟨⟨rfl,rfl,rfl,rfl,rfl,rfl,?_,?_⟩,?_⟩⟩
 ·rw[if_pos hns];exact hr.core
 ·rw[if_pos hns];exact hl.core
 exact⟨hok.lo,hok.hi,hr.ok hok.right,hl.ok hok.left,hok.len,hok.cap,hok.roles,hok.role,hok.a,hok.b⟩
theorem kK_ {x:Ax} (h:x.check=0):x.shaped=true:=by
  cases e:x.shaped with
  | true=>rfl
  | false=>unfold Ax.check at h;rw[if_pos e]at h;simp at h
theorem qy_ {x:Ax} (h:x.check=0):1≤x.kind∧x.kind≤9:=by
 have h1:=kK_ h
 unfold Ax.shaped at h1
 by_cases e:x.kind<1∨9<x.kind
 ·rw[if_pos e]at h1;simp at h1
 omega
theorem ot_ {x:Ax} (h:x.check=0):x.namedU (us x.kind)=true:=by
  cases e:x.namedU (us x.kind) with
  | true=>rfl
  | false=>rw[Ax.check_20 (kK_ h) e]at h;simp at h
theorem jC_ {x:Ax} (h:x.check=0) (hu:(us x.kind).left=true):x.left.check=0:=by
 by_cases e:x.left.check=0
 ·exact e
 rw[Ax.check_left (kK_ h) (ot_ h) hu e]at h;exact absurd h e
theorem ip_ {x:Ax} (h:x.check=0) (hu:(us x.kind).right=true):x.right.check=0:=by
 by_cases e:x.right.check=0
 ·exact e
 rw[Ax.check_right (kK_ h) (ot_ h) (jC_ h) hu e]at h;exact absurd h e
theorem us_get {x:Ax} (h:1≤x.kind∧x.kind≤9):nj_[x.kind.toNat]? = some (us x.kind):=by
  have hl:x.kind.toNat<nj_.length:=by show x.kind.toNat<10;omega
  unfold us
  rw[List.getElem?_eq_getElem hl];rfl
theorem dF_ {k:Int} (h:k=2∨k=3):(us k).left=true∧(us k).right=true:=by rcases h with rfl|rfl<;>exact⟨rfl,rfl⟩
theorem iV_ {x:Ax} {l:Con} (h:x.check=0) (hl:SdF (us x.kind).left x.left l) (hu:(us x.kind).left=true):l.sz≤1000000:=by
  have h1:=hl.sz
  have h2:=(Con.check_zero (jC_ h hu)).2
  omega
theorem gr_ {x:Ax} {l:Con} (h:x.check=0) (hl:SdF (us x.kind).right x.right l) (hu:(us x.kind).right=true):l.sz≤1000000:=by
  have h1:=hl.sz
  have h2:=(Con.check_zero (ip_ h hu)).2
  omega
theorem fq_:iT_ Tryz.prog 48 [(0,1),(1,1),(2,5),(7,5),(12,1),(13,1),(14,1),(15,1)] [.int .i64 0,.bool false,.int .i64 0,str [],.int .i64 0,.int .i64 0,.slice none 0 0,.int .i64 0,str [],.int .i64 0,.int .i64 0,.slice none 0 0,.slice none 0 0,str [],str [],str []]:=⟨_,av_,bo_,fun w=>by simp[U_,cj_,ah_,vb_,g_]⟩
set_option maxHeartbeats 1000000 in
theorem nn_ (x:Ax) (hok:x.ok):Tri Tryz.prog 48 #[Ax.val x] [] [Ax.memF x,bn_] (fun y:{y:Ax×Int // TyR x y}=>.tuple #[Ax.val y.1.1,.int .i64 y.1.2]) (fun _=>[]) (fun y=>[Ax.memF y.1.1]):=by
 refine j_ Tryz.func48 rfl rfl Tryz.ntmps48 rfl fun v0=>?_
 refine Zz 2 ?_
 refine N_ rfl rfl fun b1=>G_ av_ rfl fun b2=>Zz 7 ?_
 refine d_ (eV_ x hok) rfl e_ zf rfl fun _=>Zi 6 (fun hr1=>?_) fun hr1=>?_
 ·have hC:Ax.check x=0:=by simpa using hr1
  have hkk:=qy_ hC
  refine Zz 9 ?_
  refine c_ (er_ qX_ cg_ rfl rfl (by show (0:Int)≤x.kind;omega) (by show x.kind<(10:Int);omega)) rfl ?_
  obtain⟨ul,hul⟩:∃ b,(us (Ax.kind x)).left=b:=⟨_,rfl⟩
  obtain⟨ur,hur⟩:∃ b,(us (Ax.kind x)).right=b:=⟨_,rfl⟩
  refine c_ (L_ (ad:=some ⟨0,0,none⟩) (us:=Use.cells (us x.kind)) vf_ cg_ rfl (fun v _ h=>h.2.1.2.1) (Use.cells_len _) (o_ Use.cells_len (us_get hkk))) rfl ?_
  unfold Use.cells;rw[hul,hur]
  refine G_ Tryz.zeroValue150 rfl fun b3=>n_ 0 cg_ rfl rfl rfl rfl rfl rfl (Zz 5 ?_)
  refine n_ 1 f_ rfl rfl rfl rfl rfl rfl (Zz 9 ?_)
  cases ul
  ·refine Zz 10 ?_
   cases ur
   ·refine Zi 8 (fun hr2=>?_) fun hr2=>?_
    ·refine Zi 6 (fun hr3=>?_) fun hr3=>?_
     ·refine Zz 17 ?_
      refine n_ 1 f_ rfl rfl rfl rfl rfl rfl (Zz 4 ?_)
      exact cr_ ⟨(x,0),jr_ hok hC (SdF.no (by rw[hul];simp)) (SdF.no (by rw[hur];simp)) (by omega)⟩ (fun aa v h1 h2=>bg_ (us:=Ax.cells x) 1 aF_ K_ f_ rfl rfl rfl rfl aa v h1 h2) e_ zf
     refine Zz 11 ?_
     refine d_ (dA_ (Ax.left x) (Ax.right x) (iV_ hC (SdF.no (by rw[hul];simp)) (dF_ (by omega)).1) (gr_ hC (SdF.no (by rw[hur];simp)) (dF_ (by omega)).2)) rfl e_ (fun v _ h=>by exact⟨h.1.1,h.1.2.1,trivial⟩) rfl fun _=>?_
     refine az_ rfl rfl ?_
     refine Zi 0 (fun hr4=>?_) fun hr4=>?_
     ·refine Zz 9 ?_
      refine n_ 1 f_ rfl rfl rfl rfl rfl rfl (Zz 4 ?_)
      exact cr_ ⟨(x,0),jr_ hok hC (SdF.no (by rw[hul];simp)) (SdF.no (by rw[hur];simp)) (by omega)⟩ (fun aa v h1 h2=>bg_ (us:=Ax.cells x) 1 aF_ K_ f_ rfl rfl rfl rfl aa v h1 h2) e_ zf
     refine Zz 10 ?_
     refine n_ 1 g_ rfl rfl rfl rfl rfl rfl (Zz 1 ?_)
     refine n_ 1 g_ rfl rfl rfl rfl rfl rfl (Zz 5 ?_)
     refine n_ 1 f_ rfl rfl rfl rfl rfl rfl (Zz 4 ?_)
     exact cr_ ⟨((Ax.mk (Ax.kind x) (Ax.opn x) (Ax.right x) (Ax.left x) (Ax.ad x) (Ax.cap x) (Ax.roles x) (Ax.role x) (Ax.a x) (Ax.b x)),0),ox_ hok hC (SdF.no (by rw[hul];simp)) (SdF.no (by rw[hur];simp)) (by omega) (by omega)⟩ (fun aa v h1 h2=>bg_ (us:=Ax.cells (Ax.mk (Ax.kind x) (Ax.opn x) (Ax.right x) (Ax.left x) (Ax.ad x) (Ax.cap x) (Ax.roles x) (Ax.role x) (Ax.a x) (Ax.b x))) 1 aF_ K_ f_ rfl rfl rfl rfl aa v h1 h2) e_ (fun v _ h=>by exact⟨⟨h.1.2.1,h.1.1,h.1.2.2⟩,trivial⟩)
    refine Zz 15 ?_
    refine d_ (dA_ (Ax.left x) (Ax.right x) (iV_ hC (SdF.no (by rw[hul];simp)) (dF_ (by omega)).1) (gr_ hC (SdF.no (by rw[hur];simp)) (dF_ (by omega)).2)) rfl e_ (fun v _ h=>by exact⟨h.1.1,h.1.2.1,trivial⟩) rfl fun _=>?_
    refine az_ rfl rfl ?_
    refine Zi 0 (fun hr5=>?_) fun hr5=>?_
    ·refine Zz 9 ?_
     refine n_ 1 f_ rfl rfl rfl rfl rfl rfl (Zz 4 ?_)
     exact cr_ ⟨(x,0),jr_ hok hC (SdF.no (by rw[hul];simp)) (SdF.no (by rw[hur];simp)) (by omega)⟩ (fun aa v h1 h2=>bg_ (us:=Ax.cells x) 1 aF_ K_ f_ rfl rfl rfl rfl aa v h1 h2) e_ zf
    refine Zz 10 ?_
    refine n_ 1 g_ rfl rfl rfl rfl rfl rfl (Zz 1 ?_)
    refine n_ 1 g_ rfl rfl rfl rfl rfl rfl (Zz 5 ?_)
    refine n_ 1 f_ rfl rfl rfl rfl rfl rfl (Zz 4 ?_)
    exact cr_ ⟨((Ax.mk (Ax.kind x) (Ax.opn x) (Ax.right x) (Ax.left x) (Ax.ad x) (Ax.cap x) (Ax.roles x) (Ax.role x) (Ax.a x) (Ax.b x)),0),ox_ hok hC (SdF.no (by rw[hul];simp)) (SdF.no (by rw[hur];simp)) (by omega) (by omega)⟩ (fun aa v h1 h2=>bg_ (us:=Ax.cells (Ax.mk (Ax.kind x) (Ax.opn x) (Ax.right x) (Ax.left x) (Ax.ad x) (Ax.cap x) (Ax.roles x) (Ax.role x) (Ax.a x) (Ax.b x))) 1 aF_ K_ f_ rfl rfl rfl rfl aa v h1 h2) e_ (fun v _ h=>by exact⟨⟨h.1.2.1,h.1.1,h.1.2.2⟩,trivial⟩)
   refine Zz 5 ?_
   refine d_ (oF_ (Ax.right x) hok.right (ip_ hC hur)) rfl e_ (fun v _ h=>by exact⟨h.1.2.1,trivial⟩) rfl fun⟨⟨q2,e2⟩,hq2⟩=>?_
   dsimp only
   try dsimp only at hq2
   refine Zz 4 ?_
   refine n_ 1 g_ rfl rfl rfl rfl rfl rfl (Zi 6 (fun hr6=>?_) fun hr6=>?_)
   ·refine Zi 10 (fun hr7=>?_) fun hr7=>?_
    ·refine Zi 6 (fun hr8=>?_) fun hr8=>?_
     ·refine Zz 17 ?_
      refine n_ 1 f_ rfl rfl rfl rfl rfl rfl (Zz 4 ?_)
      exact cr_ ⟨((Ax.mk (Ax.kind x) (Ax.opn x) (Ax.left x) q2 (Ax.ad x) (Ax.cap x) (Ax.roles x) (Ax.role x) (Ax.a x) (Ax.b x)),0),jr_ hok hC (SdF.no (by rw[hul];simp)) (SdF.yes hur hq2 (by simpa using hr6)) (by omega)⟩ (fun aa v h1 h2=>bg_ (us:=Ax.cells (Ax.mk (Ax.kind x) (Ax.opn x) (Ax.left x) q2 (Ax.ad x) (Ax.cap x) (Ax.roles x) (Ax.role x) (Ax.a x) (Ax.b x))) 1 aF_ K_ f_ rfl rfl rfl rfl aa v h1 h2) e_ (fun v _ h=>by exact⟨⟨h.2.1.1,h.1,h.2.1.2.2⟩,trivial⟩)
     refine Zz 11 ?_
     refine d_ (dA_ (Ax.left x) q2 (iV_ hC (SdF.no (by rw[hul];simp)) (dF_ (by omega)).1) (gr_ hC (SdF.yes hur hq2 (by simpa using hr6)) (dF_ (by omega)).2)) rfl e_ (fun v _ h=>by exact⟨h.2.1.1,h.1,trivial⟩) rfl fun _=>?_
     refine az_ rfl rfl ?_
     refine Zi 0 (fun hr9=>?_) fun hr9=>?_
     ·refine Zz 9 ?_
      refine n_ 1 f_ rfl rfl rfl rfl rfl rfl (Zz 4 ?_)
      exact cr_ ⟨((Ax.mk (Ax.kind x) (Ax.opn x) (Ax.left x) q2 (Ax.ad x) (Ax.cap x) (Ax.roles x) (Ax.role x) (Ax.a x) (Ax.b x)),0),jr_ hok hC (SdF.no (by rw[hul];simp)) (SdF.yes hur hq2 (by simpa using hr6)) (by omega)⟩ (fun aa v h1 h2=>bg_ (us:=Ax.cells (Ax.mk (Ax.kind x) (Ax.opn x) (Ax.left x) q2 (Ax.ad x) (Ax.cap x) (Ax.roles x) (Ax.role x) (Ax.a x) (Ax.b x))) 1 aF_ K_ f_ rfl rfl rfl rfl aa v h1 h2) e_ (fun v _ h=>by exact⟨⟨h.2.1.1,h.1,h.2.1.2.2⟩,trivial⟩)
     refine Zz 10 ?_
     refine n_ 1 g_ rfl rfl rfl rfl rfl rfl (Zz 1 ?_)
     refine n_ 1 g_ rfl rfl rfl rfl rfl rfl (Zz 5 ?_)
     refine n_ 1 f_ rfl rfl rfl rfl rfl rfl (Zz 4 ?_)
     exact cr_ ⟨((Ax.mk (Ax.kind x) (Ax.opn x) q2 (Ax.left x) (Ax.ad x) (Ax.cap x) (Ax.roles x) (Ax.role x) (Ax.a x) (Ax.b x)),0),ox_ hok hC (SdF.no (by rw[hul];simp)) (SdF.yes hur hq2 (by simpa using hr6)) (by omega) (by omega)⟩ (fun aa v h1 h2=>bg_ (us:=Ax.cells (Ax.mk (Ax.kind x) (Ax.opn x) q2 (Ax.left x) (Ax.ad x) (Ax.cap x) (Ax.roles x) (Ax.role x) (Ax.a x) (Ax.b x))) 1 aF_ K_ f_ rfl rfl rfl rfl aa v h1 h2) e_ (fun v _ h=>by exact⟨⟨h.1,h.2.1.1,h.2.1.2.2⟩,trivial⟩)
    refine Zz 15 ?_
    refine d_ (dA_ (Ax.left x) q2 (iV_ hC (SdF.no (by rw[hul];simp)) (dF_ (by omega)).1) (gr_ hC (SdF.yes hur hq2 (by simpa using hr6)) (dF_ (by omega)).2)) rfl e_ (fun v _ h=>by exact⟨h.2.1.1,h.1,trivial⟩) rfl fun _=>?_
    refine az_ rfl rfl ?_
    refine Zi 0 (fun hr10=>?_) fun hr10=>?_
    ·refine Zz 9 ?_
     refine n_ 1 f_ rfl rfl rfl rfl rfl rfl (Zz 4 ?_)
     exact cr_ ⟨((Ax.mk (Ax.kind x) (Ax.opn x) (Ax.left x) q2 (Ax.ad x) (Ax.cap x) (Ax.roles x) (Ax.role x) (Ax.a x) (Ax.b x)),0),jr_ hok hC (SdF.no (by rw[hul];simp)) (SdF.yes hur hq2 (by simpa using hr6)) (by omega)⟩ (fun aa v h1 h2=>bg_ (us:=Ax.cells (Ax.mk (Ax.kind x) (Ax.opn x) (Ax.left x) q2 (Ax.ad x) (Ax.cap x) (Ax.roles x) (Ax.role x) (Ax.a x) (Ax.b x))) 1 aF_ K_ f_ rfl rfl rfl rfl aa v h1 h2) e_ (fun v _ h=>by exact⟨⟨h.2.1.1,h.1,h.2.1.2.2⟩,trivial⟩)
    refine Zz 10 ?_
    refine n_ 1 g_ rfl rfl rfl rfl rfl rfl (Zz 1 ?_)
    refine n_ 1 g_ rfl rfl rfl rfl rfl rfl (Zz 5 ?_)
    refine n_ 1 f_ rfl rfl rfl rfl rfl rfl (Zz 4 ?_)
    exact cr_ ⟨((Ax.mk (Ax.kind x) (Ax.opn x) q2 (Ax.left x) (Ax.ad x) (Ax.cap x) (Ax.roles x) (Ax.role x) (Ax.a x) (Ax.b x)),0),ox_ hok hC (SdF.no (by rw[hul];simp)) (SdF.yes hur hq2 (by simpa using hr6)) (by omega) (by omega)⟩ (fun aa v h1 h2=>bg_ (us:=Ax.cells (Ax.mk (Ax.kind x) (Ax.opn x) q2 (Ax.left x) (Ax.ad x) (Ax.cap x) (Ax.roles x) (Ax.role x) (Ax.a x) (Ax.b x))) 1 aF_ K_ f_ rfl rfl rfl rfl aa v h1 h2) e_ (fun v _ h=>by exact⟨⟨h.1,h.2.1.1,h.2.1.2.2⟩,trivial⟩)
   refine Zz 5 ?_
   refine c_ (A_ fq_ rfl rfl) rfl (Zz 1 ?_)
   refine n_ 1 f_ rfl rfl rfl rfl rfl rfl (Zz 4 ?_)
   exact cr_ ⟨((Ax.mk 0 false (Con.mk 0 [] 0 0 none 0 []) (Con.mk 0 [] 0 0 none 0 []) none 0 [] [] [] []),e2),TyE3 hC (SdF.no (by rw[hul];simp)) hur hq2 (by simpa using hr6)⟩ (fun aa v h1 h2=>bg_ (us:=Ax.cells (Ax.mk 0 false (Con.mk 0 [] 0 0 none 0 []) (Con.mk 0 [] 0 0 none 0 []) none 0 [] [] [] [])) 1 aF_ K_ f_ rfl rfl rfl rfl aa v h1 h2) e_ (fun v _ h=>by exact⟨⟨⟨.inl rfl,trivial⟩,⟨.inl rfl,trivial⟩,(.inl rfl)⟩,trivial⟩)
  refine Zz 5 ?_
  refine d_ (oF_ (Ax.left x) hok.left (jC_ hC hul)) rfl e_ (fun v _ h=>by exact⟨h.1.1,trivial⟩) rfl fun⟨⟨q1,e1⟩,hq1⟩=>?_
  dsimp only
  try dsimp only at hq1
  refine Zz 4 ?_
  refine n_ 1 g_ rfl rfl rfl rfl rfl rfl (Zi 6 (fun hr11=>?_) fun hr11=>?_)
  ·refine Zz 12 ?_
   cases ur
   ·refine Zi 8 (fun hr12=>?_) fun hr12=>?_
    ·refine Zi 6 (fun hr13=>?_) fun hr13=>?_
     ·refine Zz 17 ?_
      refine n_ 1 f_ rfl rfl rfl rfl rfl rfl (Zz 4 ?_)
      exact cr_ ⟨((Ax.mk (Ax.kind x) (Ax.opn x) q1 (Ax.right x) (Ax.ad x) (Ax.cap x) (Ax.roles x) (Ax.role x) (Ax.a x) (Ax.b x)),0),jr_ hok hC (SdF.yes hul hq1 (by simpa using hr11)) (SdF.no (by rw[hur];simp)) (by omega)⟩ (fun aa v h1 h2=>bg_ (us:=Ax.cells (Ax.mk (Ax.kind x) (Ax.opn x) q1 (Ax.right x) (Ax.ad x) (Ax.cap x) (Ax.roles x) (Ax.role x) (Ax.a x) (Ax.b x))) 1 aF_ K_ f_ rfl rfl rfl rfl aa v h1 h2) e_ (fun v _ h=>by exact⟨⟨h.1,h.2.1.2.1,h.2.1.2.2⟩,trivial⟩)
     refine Zz 11 ?_
     refine d_ (dA_ q1 (Ax.right x) (iV_ hC (SdF.yes hul hq1 (by simpa using hr11)) (dF_ (by omega)).1) (gr_ hC (SdF.no (by rw[hur];simp)) (dF_ (by omega)).2)) rfl e_ (fun v _ h=>by exact⟨h.1,h.2.1.2.1,trivial⟩) rfl fun _=>?_
     refine az_ rfl rfl ?_
     refine Zi 0 (fun hr14=>?_) fun hr14=>?_
     ·refine Zz 9 ?_
      refine n_ 1 f_ rfl rfl rfl rfl rfl rfl (Zz 4 ?_)
      exact cr_ ⟨((Ax.mk (Ax.kind x) (Ax.opn x) q1 (Ax.right x) (Ax.ad x) (Ax.cap x) (Ax.roles x) (Ax.role x) (Ax.a x) (Ax.b x)),0),jr_ hok hC (SdF.yes hul hq1 (by simpa using hr11)) (SdF.no (by rw[hur];simp)) (by omega)⟩ (fun aa v h1 h2=>bg_ (us:=Ax.cells (Ax.mk (Ax.kind x) (Ax.opn x) q1 (Ax.right x) (Ax.ad x) (Ax.cap x) (Ax.roles x) (Ax.role x) (Ax.a x) (Ax.b x))) 1 aF_ K_ f_ rfl rfl rfl rfl aa v h1 h2) e_ (fun v _ h=>by exact⟨⟨h.1,h.2.1.2.1,h.2.1.2.2⟩,trivial⟩)
     refine Zz 10 ?_
     refine n_ 1 g_ rfl rfl rfl rfl rfl rfl (Zz 1 ?_)
     refine n_ 1 g_ rfl rfl rfl rfl rfl rfl (Zz 5 ?_)
     refine n_ 1 f_ rfl rfl rfl rfl rfl rfl (Zz 4 ?_)
     exact cr_ ⟨((Ax.mk (Ax.kind x) (Ax.opn x) (Ax.right x) q1 (Ax.ad x) (Ax.cap x) (Ax.roles x) (Ax.role x) (Ax.a x) (Ax.b x)),0),ox_ hok hC (SdF.yes hul hq1 (by simpa using hr11)) (SdF.no (by rw[hur];simp)) (by omega) (by omega)⟩ (fun aa v h1 h2=>bg_ (us:=Ax.cells (Ax.mk (Ax.kind x) (Ax.opn x) (Ax.right x) q1 (Ax.ad x) (Ax.cap x) (Ax.roles x) (Ax.role x) (Ax.a x) (Ax.b x))) 1 aF_ K_ f_ rfl rfl rfl rfl aa v h1 h2) e_ (fun v _ h=>by exact⟨⟨h.2.1.2.1,h.1,h.2.1.2.2⟩,trivial⟩)
    refine Zz 15 ?_
    refine d_ (dA_ q1 (Ax.right x) (iV_ hC (SdF.yes hul hq1 (by simpa using hr11)) (dF_ (by omega)).1) (gr_ hC (SdF.no (by rw[hur];simp)) (dF_ (by omega)).2)) rfl e_ (fun v _ h=>by exact⟨h.1,h.2.1.2.1,trivial⟩) rfl fun _=>?_
    refine az_ rfl rfl ?_
    refine Zi 0 (fun hr15=>?_) fun hr15=>?_
    ·refine Zz 9 ?_
     refine n_ 1 f_ rfl rfl rfl rfl rfl rfl (Zz 4 ?_)
     exact cr_ ⟨((Ax.mk (Ax.kind x) (Ax.opn x) q1 (Ax.right x) (Ax.ad x) (Ax.cap x) (Ax.roles x) (Ax.role x) (Ax.a x) (Ax.b x)),0),jr_ hok hC (SdF.yes hul hq1 (by simpa using hr11)) (SdF.no (by rw[hur];simp)) (by omega)⟩ (fun aa v h1 h2=>bg_ (us:=Ax.cells (Ax.mk (Ax.kind x) (Ax.opn x) q1 (Ax.right x) (Ax.ad x) (Ax.cap x) (Ax.roles x) (Ax.role x) (Ax.a x) (Ax.b x))) 1 aF_ K_ f_ rfl rfl rfl rfl aa v h1 h2) e_ (fun v _ h=>by exact⟨⟨h.1,h.2.1.2.1,h.2.1.2.2⟩,trivial⟩)
    refine Zz 10 ?_
    refine n_ 1 g_ rfl rfl rfl rfl rfl rfl (Zz 1 ?_)
    refine n_ 1 g_ rfl rfl rfl rfl rfl rfl (Zz 5 ?_)
    refine n_ 1 f_ rfl rfl rfl rfl rfl rfl (Zz 4 ?_)
    exact cr_ ⟨((Ax.mk (Ax.kind x) (Ax.opn x) (Ax.right x) q1 (Ax.ad x) (Ax.cap x) (Ax.roles x) (Ax.role x) (Ax.a x) (Ax.b x)),0),ox_ hok hC (SdF.yes hul hq1 (by simpa using hr11)) (SdF.no (by rw[hur];simp)) (by omega) (by omega)⟩ (fun aa v h1 h2=>bg_ (us:=Ax.cells (Ax.mk (Ax.kind x) (Ax.opn x) (Ax.right x) q1 (Ax.ad x) (Ax.cap x) (Ax.roles x) (Ax.role x) (Ax.a x) (Ax.b x))) 1 aF_ K_ f_ rfl rfl rfl rfl aa v h1 h2) e_ (fun v _ h=>by exact⟨⟨h.2.1.2.1,h.1,h.2.1.2.2⟩,trivial⟩)
   refine Zz 5 ?_
   refine d_ (oF_ (Ax.right x) hok.right (ip_ hC hur)) rfl e_ (fun v _ h=>by exact⟨h.2.1.2.1,trivial⟩) rfl fun⟨⟨q2,e2⟩,hq2⟩=>?_
   dsimp only
   try dsimp only at hq2
   refine Zz 4 ?_
   refine n_ 1 g_ rfl rfl rfl rfl rfl rfl (Zi 6 (fun hr16=>?_) fun hr16=>?_)
   ·refine Zi 10 (fun hr17=>?_) fun hr17=>?_
    ·refine Zi 6 (fun hr18=>?_) fun hr18=>?_
     ·refine Zz 17 ?_
      refine n_ 1 f_ rfl rfl rfl rfl rfl rfl (Zz 4 ?_)
      exact cr_ ⟨((Ax.mk (Ax.kind x) (Ax.opn x) q1 q2 (Ax.ad x) (Ax.cap x) (Ax.roles x) (Ax.role x) (Ax.a x) (Ax.b x)),0),jr_ hok hC (SdF.yes hul hq1 (by simpa using hr11)) (SdF.yes hur hq2 (by simpa using hr16)) (by omega)⟩ (fun aa v h1 h2=>bg_ (us:=Ax.cells (Ax.mk (Ax.kind x) (Ax.opn x) q1 q2 (Ax.ad x) (Ax.cap x) (Ax.roles x) (Ax.role x) (Ax.a x) (Ax.b x))) 1 aF_ K_ f_ rfl rfl rfl rfl aa v h1 h2) e_ (fun v _ h=>by exact⟨⟨h.2.1,h.1,h.2.2.1.2.2⟩,trivial⟩)
     refine Zz 11 ?_
     refine d_ (dA_ q1 q2 (iV_ hC (SdF.yes hul hq1 (by simpa using hr11)) (dF_ (by omega)).1) (gr_ hC (SdF.yes hur hq2 (by simpa using hr16)) (dF_ (by omega)).2)) rfl e_ zf rfl fun _=>az_ rfl rfl ?_
     refine Zi 0 (fun hr19=>?_) fun hr19=>?_
     ·refine Zz 9 ?_
      refine n_ 1 f_ rfl rfl rfl rfl rfl rfl (Zz 4 ?_)
      exact cr_ ⟨((Ax.mk (Ax.kind x) (Ax.opn x) q1 q2 (Ax.ad x) (Ax.cap x) (Ax.roles x) (Ax.role x) (Ax.a x) (Ax.b x)),0),jr_ hok hC (SdF.yes hul hq1 (by simpa using hr11)) (SdF.yes hur hq2 (by simpa using hr16)) (by omega)⟩ (fun aa v h1 h2=>bg_ (us:=Ax.cells (Ax.mk (Ax.kind x) (Ax.opn x) q1 q2 (Ax.ad x) (Ax.cap x) (Ax.roles x) (Ax.role x) (Ax.a x) (Ax.b x))) 1 aF_ K_ f_ rfl rfl rfl rfl aa v h1 h2) e_ (fun v _ h=>by exact⟨⟨h.2.1,h.1,h.2.2.1.2.2⟩,trivial⟩)
     refine Zz 10 ?_
     refine n_ 1 g_ rfl rfl rfl rfl rfl rfl (Zz 1 ?_)
     refine n_ 1 g_ rfl rfl rfl rfl rfl rfl (Zz 5 ?_)
     refine n_ 1 f_ rfl rfl rfl rfl rfl rfl (Zz 4 ?_)
     exact cr_ ⟨((Ax.mk (Ax.kind x) (Ax.opn x) q2 q1 (Ax.ad x) (Ax.cap x) (Ax.roles x) (Ax.role x) (Ax.a x) (Ax.b x)),0),ox_ hok hC (SdF.yes hul hq1 (by simpa using hr11)) (SdF.yes hur hq2 (by simpa using hr16)) (by omega) (by omega)⟩ (fun aa v h1 h2=>bg_ (us:=Ax.cells (Ax.mk (Ax.kind x) (Ax.opn x) q2 q1 (Ax.ad x) (Ax.cap x) (Ax.roles x) (Ax.role x) (Ax.a x) (Ax.b x))) 1 aF_ K_ f_ rfl rfl rfl rfl aa v h1 h2) e_ (fun v _ h=>by exact⟨⟨h.1,h.2.1,h.2.2.1.2.2⟩,trivial⟩)
    refine Zz 15 ?_
    refine d_ (dA_ q1 q2 (iV_ hC (SdF.yes hul hq1 (by simpa using hr11)) (dF_ (by omega)).1) (gr_ hC (SdF.yes hur hq2 (by simpa using hr16)) (dF_ (by omega)).2)) rfl e_ zf rfl fun _=>az_ rfl rfl ?_
    refine Zi 0 (fun hr20=>?_) fun hr20=>?_
    ·refine Zz 9 ?_
     refine n_ 1 f_ rfl rfl rfl rfl rfl rfl (Zz 4 ?_)
     exact cr_ ⟨((Ax.mk (Ax.kind x) (Ax.opn x) q1 q2 (Ax.ad x) (Ax.cap x) (Ax.roles x) (Ax.role x) (Ax.a x) (Ax.b x)),0),jr_ hok hC (SdF.yes hul hq1 (by simpa using hr11)) (SdF.yes hur hq2 (by simpa using hr16)) (by omega)⟩ (fun aa v h1 h2=>bg_ (us:=Ax.cells (Ax.mk (Ax.kind x) (Ax.opn x) q1 q2 (Ax.ad x) (Ax.cap x) (Ax.roles x) (Ax.role x) (Ax.a x) (Ax.b x))) 1 aF_ K_ f_ rfl rfl rfl rfl aa v h1 h2) e_ (fun v _ h=>by exact⟨⟨h.2.1,h.1,h.2.2.1.2.2⟩,trivial⟩)
    refine Zz 10 ?_
    refine n_ 1 g_ rfl rfl rfl rfl rfl rfl (Zz 1 ?_)
    refine n_ 1 g_ rfl rfl rfl rfl rfl rfl (Zz 5 ?_)
    refine n_ 1 f_ rfl rfl rfl rfl rfl rfl (Zz 4 ?_)
    exact cr_ ⟨((Ax.mk (Ax.kind x) (Ax.opn x) q2 q1 (Ax.ad x) (Ax.cap x) (Ax.roles x) (Ax.role x) (Ax.a x) (Ax.b x)),0),ox_ hok hC (SdF.yes hul hq1 (by simpa using hr11)) (SdF.yes hur hq2 (by simpa using hr16)) (by omega) (by omega)⟩ (fun aa v h1 h2=>bg_ (us:=Ax.cells (Ax.mk (Ax.kind x) (Ax.opn x) q2 q1 (Ax.ad x) (Ax.cap x) (Ax.roles x) (Ax.role x) (Ax.a x) (Ax.b x))) 1 aF_ K_ f_ rfl rfl rfl rfl aa v h1 h2) e_ (fun v _ h=>by exact⟨⟨h.1,h.2.1,h.2.2.1.2.2⟩,trivial⟩)
   refine Zz 5 ?_
   refine c_ (A_ fq_ rfl rfl) rfl (Zz 1 ?_)
   refine n_ 1 f_ rfl rfl rfl rfl rfl rfl (Zz 4 ?_)
   exact cr_ ⟨((Ax.mk 0 false (Con.mk 0 [] 0 0 none 0 []) (Con.mk 0 [] 0 0 none 0 []) none 0 [] [] [] []),e2),TyE3 hC (SdF.yes hul hq1 (by simpa using hr11)) hur hq2 (by simpa using hr16)⟩ (fun aa v h1 h2=>bg_ (us:=Ax.cells (Ax.mk 0 false (Con.mk 0 [] 0 0 none 0 []) (Con.mk 0 [] 0 0 none 0 []) none 0 [] [] [] [])) 1 aF_ K_ f_ rfl rfl rfl rfl aa v h1 h2) e_ (fun v _ h=>by exact⟨⟨⟨.inl rfl,trivial⟩,⟨.inl rfl,trivial⟩,(.inl rfl)⟩,trivial⟩)
  refine Zz 5 ?_
  refine c_ (A_ fq_ rfl rfl) rfl (Zz 1 ?_)
  refine n_ 1 f_ rfl rfl rfl rfl rfl rfl (Zz 4 ?_)
  exact cr_ ⟨((Ax.mk 0 false (Con.mk 0 [] 0 0 none 0 []) (Con.mk 0 [] 0 0 none 0 []) none 0 [] [] [] []),e1),TyE2 hC hul hq1 (by simpa using hr11)⟩ (fun aa v h1 h2=>bg_ (us:=Ax.cells (Ax.mk 0 false (Con.mk 0 [] 0 0 none 0 []) (Con.mk 0 [] 0 0 none 0 []) none 0 [] [] [] [])) 1 aF_ K_ f_ rfl rfl rfl rfl aa v h1 h2) e_ (fun v _ h=>by exact⟨⟨⟨.inl rfl,trivial⟩,⟨.inl rfl,trivial⟩,(.inl rfl)⟩,trivial⟩)
 refine Zz 5 ?_
 refine c_ (A_ fq_ rfl rfl) rfl (Zz 1 ?_)
 refine n_ 0 f_ rfl rfl rfl rfl rfl rfl (Zz 4 ?_)
 exact cr_ ⟨((Ax.mk 0 false (Con.mk 0 [] 0 0 none 0 []) (Con.mk 0 [] 0 0 none 0 []) none 0 [] [] [] []),(Ax.check x)),TyE1 (by simpa using hr1)⟩ (fun aa v h1 h2=>bg_ (us:=Ax.cells (Ax.mk 0 false (Con.mk 0 [] 0 0 none 0 []) (Con.mk 0 [] 0 0 none 0 []) none 0 [] [] [] [])) 0 aF_ K_ f_ rfl rfl rfl rfl aa v h1 h2) e_ (fun v _ h=>by exact⟨⟨⟨.inl rfl,trivial⟩,⟨.inl rfl,trivial⟩,(.inl rfl)⟩,trivial⟩)
end Go.Proofs.YtamklbgaipakfaaGreatDoor
namespace Go.Proofs.YtamklbgaipakfaaGreatDoor
open Go Go.Sx Go.Proofs
attribute [local irreducible] Code.wp wpList wpAnyH
open Go.Vs
def lX_ (x:Ax):Prop:=x.left.core=(if x.swp then x.tdyR.core else x.tdyL.core)∧x.right.core=if x.swp then x.tdyL.core else x.tdyR.core
theorem ld_ {x y:Ax} (h:TdyOf x y):x.alk y↔lX_ x :=
  ⟨fun⟨_,h1,h2,_⟩=>⟨by rw[h1,h.left],by rw[h2,h.right]⟩,fun⟨h1,h2⟩=>⟨h.kind.symm,by rw[h1,h.left],by rw[h2,h.right],h.roles.symm,h.role.symm,h.a.symm,h.b.symm⟩⟩
instance (x:Ax):Decidable (lX_ x):=decidable_of_iff (Con.cmp x.left (if x.swp then x.tdyR else x.tdyL)=0∧Con.cmp x.right (if x.swp then x.tdyL else x.tdyR)=0) (by
 rw[Con.cmp_zero,Con.cmp_zero]
 unfold lX_
 by_cases h:x.swp
 ·simp only[if_pos h]
 simp only[if_neg h])
def fP_ (x:Ax):Int:=if x.tdyE≠0 then x.tdyE else if lX_ x then 0 else 22
def axE:List Ax→Int
  | []=>0
  | x::l=>if fP_ x≠0 then fP_ x else axE l
theorem tI_:∀ {l:List Ax} {i:Nat} {x:Ax},(∀ z∈l.take i,fP_ z=0)→l[i]? = some x→fP_ x≠0→axE l=fP_ x
  | [],_,_,_,h,_=>by simp at h
  | y::l,0,x,_,h,hx=>by simp at h;subst h;simp[axE,hx]
  | y::l,i+1,x,h0,h,hx=>by
    have hy:fP_ y=0:=h0 y (by simp)
    simp only[axE]
    rw[if_neg (by rw[hy];simp)]
    exact tI_ (i:=i) (fun z hz=>h0 z (by rw[List.take_succ_cons];exact List.mem_cons_of_mem _ hz)) (by simpa using h) hx
theorem fJ_:∀ {l:List Ax},axE l=0↔∀ z∈l,fP_ z=0
 | []=>by simp[axE]
 | y::l=>by
   simp only[axE]
   by_cases h:fP_ y=0
   · rw[if_neg (by rw[h];simp),fJ_];simp[h]
   · rw[if_pos h]
     exact⟨fun q=>absurd q h,fun q=>absurd (q y (by simp)) h⟩
def hF_ (l:List Ax):Prop:=∀ (i:Nat) (x y:Ax),l[i]? = some x→l[i+1]? = some y→Ax.cmp x y=-1
def kL_ (x:Ax):Prop:=lm_ x=true∧x.opn=false
def BCk (l:List Ax) (e:Int):Prop :=
  (axE l≠0∧e=axE l)∨(axE l=0∧¬ hF_ l∧e=70)∨(axE l=0∧hF_ l∧1024<l.length∧e=2)∨(axE l=0∧hF_ l∧l.length≤1024∧(∃ x∈l,kL_ x)∧e=71) ∨
    (axE l=0∧hF_ l∧l.length≤1024∧(∀ x∈l,¬ kL_ x)∧RlR l e)
theorem BCk.uniq {l:List Ax} {a b:Int} (h:BCk l a) (k:BCk l b):a=b:=by
  rcases h with⟨h1,h2⟩|⟨h1,h2,h3⟩|⟨h1,h2,h3,h4⟩|⟨h1,h2,h3,h4,h5⟩|⟨h1,h2,h3,h4,h5⟩<;>rcases k with⟨k1,k2⟩|⟨k1,k2,k3⟩|⟨k1,k2,k3,k4⟩|⟨k1,k2,k3,k4,k5⟩|⟨k1,k2,k3,k4,k5⟩ <;>
    first|(exact absurd h1 k1)|(exact absurd k1 h1)|(exact absurd h2 k2)|(exact absurd k2 h2)|omega|(obtain⟨x,hx,hs⟩:=h4;exact absurd hs (k4 x hx))|(obtain⟨x,hx,hs⟩:=k4;exact absurd hs (h4 x hx))|exact h5.uniq k5
theorem hr_ {x:Ax} (h:x.tdyE=0):x.check=0:=by
 by_cases e:x.check=0
 ·exact e
 unfold Ax.tdyE at h;rw[if_pos e]at h;exact h
theorem iw_ {x:Ax}:fP_ x=0↔x.tdyE=0∧lX_ x:=by
 unfold fP_
 by_cases h:x.tdyE=0
 ·rw[if_neg (by rw[h];simp)]
  by_cases c:lX_ x
  ·rw[if_pos c];exact⟨fun _=>⟨h,c⟩,fun _=>rfl⟩
  rw[if_neg c];exact⟨fun q=>by omega,fun q=>absurd q.2 c⟩
 rw[if_pos h];exact⟨fun q=>absurd q h,fun q=>q.1⟩
theorem tidE_a {x y:Ax} {e:Int} (h:TyR x (y,e)) (he:e≠0):fP_ x=e:=by
  have h1:e=x.tdyE:=h.1
  unfold fP_
  rw[if_pos (by rw[← h1];exact he),h1]
theorem tidE_b {x y:Ax} {e:Int} (h:TyR x (y,e)) (he:e=0) (hn:¬ x.alk y):fP_ x=22:=by
  have h1:e=x.tdyE:=h.1
  have h2:=ld_ (h.2 he).1
  unfold fP_
  rw[if_neg (by rw[← h1,he];simp),if_neg fun q=>hn (h2.2 q)]
theorem tidE_c {x y:Ax} {e:Int} (h:TyR x (y,e)) (he:e=0) (hn:x.alk y):fP_ x=0:=by
  have h1:e=x.tdyE:=h.1
  have h2:=ld_ (h.2 he).1
  exact iw_.2 ⟨by rw[← h1,he],h2.1 hn⟩
theorem ol_ {c:Con} (h:c.empty=true):c.sz=1:=by
  cases c with
  | mk k n l hi ad cp ps =>
    unfold Con.empty at h
    simp only[Bool.and_eq_true,beq_iff_eq,Con.parts]at h
    have:ps=[]:=List.eq_nil_of_length_eq_zero (by omega)
    subst this
    simp[Con.sz,Con.sz.szs]
theorem kJ_ {x:Ax} (h:x.check=0):x.left.sz≤64∧x.right.sz≤64:=by
 have hs:=kK_ h
 have hk:=qy_ h
 unfold Ax.shaped at hs
 rw[if_neg (by omega)]at hs
 simp only[Bool.and_eq_true,Bool.or_eq_true]at hs
 obtain⟨⟨⟨⟨⟨⟨h1,h2⟩,_⟩,_⟩,_⟩,_⟩,_⟩:=hs
 constructor
 ·rcases h1 with h1|h1
  ·exact (Con.check_zero (jC_ h h1)).2
  rw[ol_ h1];omega
 rcases h2 with h2|h2
 ·exact (Con.check_zero (ip_ h h2)).2
 rw[ol_ h2];omega
theorem sh_ {x:Ax} (h:x.check=0):x.tdyL.sz≤64∧x.tdyR.sz≤64:=by
  have h1:=kJ_ h
  have h2:=Con.tdy_sz x.left
  have h3:=Con.tdy_sz x.right
  unfold Ax.tdyL Ax.tdyR
  constructor<;>split<;>omega
theorem no_ {x y:Ax} (h:TdyOf x y) (hC:x.check=0):y.left.sz≤64∧y.right.sz≤64:=by
 have h1:=sh_ hC
 have h2:=h.left
 have h3:=h.right
 by_cases c:x.swp
 ·rw[if_pos c]at h2 h3
  rw[Con.sz_core _ _ h2,Con.sz_core _ _ h3];exact⟨h1.2,h1.1⟩
 rw[if_neg c]at h2 h3
 rw[Con.sz_core _ _ h2,Con.sz_core _ _ h3];exact h1
theorem hF_.step {l:List Ax} {k:Nat} {x y:Ax} (h:∀ (i:Nat) (x y:Ax),i+1<k+1→l[i]? = some x→l[i+1]? = some y→Ax.cmp x y=-1) (hx:l[k]? = some x) (hy:l[k+1]? = some y) (hc:Ax.cmp x y=-1) :
    ∀ (i:Nat) (x y:Ax),i+1<k+1+1→l[i]? = some x→l[i+1]? = some y→Ax.cmp x y=-1:=fun i x' y' hi h1 h2=>by
  by_cases e:i=k
  · subst e;rw[hx]at h1;rw[hy]at h2;cases h1;cases h2;exact hc
  · exact h i x' y' (by omega) h1 h2
theorem hF_.all {l:List Ax} {k:Nat} (h:∀ (i:Nat) (x y:Ax),i+1<k→l[i]? = some x→l[i+1]? = some y→Ax.cmp x y=-1) (hk:l.length≤k):hF_ l:=fun i x y h1 h2=>h i x y (by have:=(List.getElem?_eq_some_iff.1 h2).1;omega) h1 h2
theorem BCk.er {l:List Ax} {i:Nat} {x:Ax} {e:Int} (h0:∀ z∈l.take i,fP_ z=0) (hx:l[i]? = some x) (he:fP_ x=e) (hn:e≠0):BCk l e:=by
  have:=tI_ h0 hx (by rw[he];exact hn)
  exact .inl ⟨by rw[this,he];exact hn,by rw[this,he]⟩
theorem ow_ {l:List Ax} {i:Nat} {p:Ax→Prop} (h:∀ z∈l.take i,p z) (hi:l.length≤i):∀ z∈l,p z:=by rwa [List.take_of_length_le hi]at h
theorem jP_ {l:List Ax} {i:Nat} {x:Ax} {p:Ax→Prop} (h:∀ z∈l.take i,p z) (hx:l[i]? = some x) (hp:p x):∀ z∈l.take (i+1),p z:=fun z hz=>by
 rw[take_snoc hx,List.mem_append,List.mem_singleton]at hz
 rcases hz with hz|rfl
 ·exact h z hz
 exact hp
theorem iR_ {l:List Ax} (h:axE l=0):∀ x∈l,x.check=0:=fun x hx=>hr_ (iw_.1 (fJ_.1 h x hx)).1
theorem bk_eq {a:Bool} {n:Int} (h:(a&&(n==0))=true):a=true∧n=0:=by simpa using h
theorem bk_ne {x y:Ax} {e:Int} (h:((x.opn==y.opn)&&(Ax.cmp x y==0))=false) (ht:TyR x (y,e)) (he:e=0):¬ x.alk y:=fun q=>by
  have h1:=(Ax.cmp_zero _ _).2 q
  have h2:=(ht.2 he).1.opn
  dsimp only at h2
  rw[h1,h2]at h
  simp at h
set_option maxHeartbeats 1000000 in
theorem gJ_ (l:List Ax) (ad:Option Addr) (cap:Nat) (hok:∀ x∈l,x.ok) (hll:l.length≤1000000):Tri Tryz.prog 19 #[.agg #[.slice ad (List.length l) cap]] [] [aR_ ad l,bn_] (fun y:{e:Int // BCk l e}=>.int .i64 y.1) (fun _=>[]) (fun _=>[]):=by
 refine j_ Tryz.func19 rfl rfl Tryz.ntmps19 rfl fun v0=>?_
 refine Zz 2 ?_
 refine N_ rfl rfl fun b1=>Zz 13 ?_
 refine Y_ (ι:={y:Nat // y≤List.length l∧(∀ z∈List.take y l,fP_ z=0)}) (fun y=>[(1,zp_ b1 0),(2,.int .i64 0),(11,.slice ad (List.length l) cap),(12,.int .i64 (List.length l:Int)),(13,.int .i64 (y.1:Int))]) (fun y=>((b1,.cells #[.slice ad (List.length l) cap] 37 (0,0))::[])) (fun y=>[aR_ ad l,bn_]) (fun y=>List.length l - y.1) ⟨(0:Nat),by simp,(by simp)⟩ zl i_ zh ?_
 rintro ⟨i,hi_i,hE⟩
 dsimp only at hi_i hE ⊢
 refine Zi 2 (fun hr1=>?_) fun hr1=>?_
 ·refine Zz 13 ?_
  have hE0:axE l=0:=fJ_.2 (ow_ hE (by omega))
  have hC:=iR_ hE0
  refine Y_ (ι:={y:Nat // 1≤y∧(∀ (n:Nat) (p q:Ax),n+1<y→l[n]? = some p→l[n+1]? = some q→Ax.cmp p q=-1)}) (fun y=>[(1,zp_ b1 0),(2,.int .i64 0),(7,.int .i64 (y.1:Int))]) (fun y=>((b1,.cells #[.slice ad (List.length l) cap] 37 (0,0))::[])) (fun y=>[aR_ ad l,bn_]) (fun y=>List.length l - y.1) ⟨(1:Nat),(by simp),(fun i x y h=>by omega)⟩ zl i_ zh ?_
  rintro ⟨k3,hi1,hS⟩
  dsimp only at hi1 hS ⊢
  refine Zi 7 (fun hr2=>?_) fun hr2=>?_
  ·refine Zi 11 (fun hr3=>?_) fun hr3=>?_
   ·refine Zz 15 ?_
    have hSr:hF_ l:=hF_.all hS (by omega)
    refine Y_ (ι:={y:Nat // y≤List.length l∧(∀ z∈List.take y l,¬ kL_ z)}) (fun y=>[(1,zp_ b1 0),(2,.int .i64 0),(56,.slice ad (List.length l) cap),(57,.int .i64 (List.length l:Int)),(58,.int .i64 (y.1:Int))]) (fun y=>((b1,.cells #[.slice ad (List.length l) cap] 37 (0,0))::[])) (fun y=>[aR_ ad l,bn_]) (fun y=>List.length l - y.1) ⟨(0:Nat),by simp,(by simp)⟩ zl i_ zh ?_
    rintro ⟨j,hi_j,hN⟩
    dsimp only at hi_j hN ⊢
    refine Zi 2 (fun hr4=>?_) fun hr4=>?_
    ·refine Zz 10 ?_
     refine d_ (rb_ l ad cap hok hC (by omega)) rfl e_ zf rfl fun⟨⟨rv,re⟩,hre⟩=>?_
     dsimp only
     refine Zz 13 ?_
     exact E_ gz_ ⟨re,.inr (.inr (.inr (.inr ⟨hE0,hSr,by omega,ow_ hN (by omega),hre⟩)))⟩ rfl e_ zt
    have hlz1:j<List.length l:=by omega
    obtain⟨z1,hz1⟩:∃ e0,l[j]? = some e0:=⟨_,List.getElem?_eq_getElem hlz1⟩
    have hmz1:z1∈l:=List.mem_of_getElem? hz1
    refine Zz 10 ?_
    refine c_ (C_ s_ f_ rfl rfl (fun v _ h=>q_ (n:=16) Ax.cells_len (by decide) (by exact h.1.1) hz1) (by omega) (by first|omega|(simp;done))) rfl ?_
    refine c_ (L_ (ad:=ad) (us:=Ax.cells z1) K_ f_ rfl (fun v _ h=>by exact h.1.1) (Ax.cells_len _) (o_ Ax.cells_len hz1)) rfl (G_ av_ rfl fun b2=>n_ 0 f_ rfl rfl rfl rfl rfl rfl (Zz 5 ?_))
    refine af_ (kH_ z1) rfl e_ zt rfl fun r5 hr5=>Zz 1 ?_
    cases r5
    ·refine Zz 14 ?_
     exact z_ ⟨j+1,hlz1,(jP_ hN hz1 (by unfold kL_;intro q;simp_all))⟩ (by dsimp only;omega) zl (l_ i_) zh
    refine Zz 4 ?_
    generalize hzo:Ax.opn z1=zo
    refine az_ rfl rfl (c_ (aG_ rfl) rfl (Zz 3 ?_))
    cases zo
    ·refine Zz 7 ?_
     exact E_ gz_ ⟨71,.inr (.inr (.inr (.inl ⟨hE0,hSr,by omega,⟨z1,hmz1,by unfold kL_;simp_all⟩,rfl⟩)))⟩ rfl e_ zt
    refine Zz 8 ?_
    exact z_ ⟨j+1,hlz1,(jP_ hN hz1 (by unfold kL_;intro q;simp_all))⟩ (by dsimp only;omega) zl (l_ i_) zh
   refine Zz 9 ?_
   have hSr:hF_ l:=hF_.all hS (by omega)
   exact E_ gz_ ⟨2,.inr (.inr (.inl ⟨hE0,hSr,by omega,rfl⟩))⟩ rfl e_ zt
  obtain⟨i0,rfl⟩:∃ i0,k3=i0+1:=⟨k3 - 1,by omega⟩
  obtain⟨hlx1,x1,hx1,hmx1⟩:=zge (show i0<List.length l by omega)
  have hly1:(i0+1:Nat)<List.length l:=by omega
  obtain⟨y1,hy1⟩:∃ e0,l[(i0+1:Nat)]? = some e0:=⟨_,List.getElem?_eq_getElem hly1⟩
  have hmy1:y1∈l:=List.mem_of_getElem? hy1
  refine Zz 9 ?_
  refine Q_ 2 [0,1,2,3,4,5,6,7,8,9,10] zk zs (Zz 3 ?_)
  refine P_ rfl (aA_ (as_ rfl rfl rfl (aV_ (by omega) (by omega))) (show _=Value.int .i64 (i0:Int) from congrArg _ (by omega))) rfl ?_
  refine P_ rfl (C_ s_ f_ rfl rfl (fun v _ h=>q_ (n:=16) Ax.cells_len (by decide) (by exact h.1.1) hx1) (by omega) (by first|omega|(simp;done))) rfl ?_
  refine P_ rfl (L_ (ad:=ad) (us:=Ax.cells x1) K_ f_ rfl (fun v _ h=>by exact h.1.1) (Ax.cells_len _) (o_ Ax.cells_len hx1)) rfl (Zz 3 ?_)
  refine P_ rfl (C_ s_ f_ rfl rfl (fun v _ h=>q_ (n:=16) Ax.cells_len (by decide) (by exact h.1.1) hy1) (by omega) (by first|omega|(simp;done))) rfl ?_
  refine P_ rfl (L_ (ad:=ad) (us:=Ax.cells y1) K_ f_ rfl (fun v _ h=>by exact h.1.1) (Ax.cells_len _) (o_ Ax.cells_len hy1)) rfl (ba_ (p_ 11 rfl zk (d_ (mR_ x1 y1 (hok x1 hmx1) (hok y1 hmy1) (by have:=(kJ_ (hC x1 hmx1)).1;omega) (by have:=(kJ_ (hC x1 hmx1)).2;omega) (by have:=(kJ_ (hC y1 hmy1)).1;omega) (by have:=(kJ_ (hC y1 hmy1)).2;omega)) rfl e_ (fun v _ h=>by exact⟨(h.1.2 x1 hmx1),(h.1.2 y1 hmy1),trivial⟩) rfl fun _=>?_)))
  refine Zz 3 ?_
  refine Q_ 0 [12] zk zs ?_
  refine Zi 0 (fun hr6=>?_) fun hr6=>?_
  ·refine Zz 8 ?_
   refine c_ (aA_ (as_ rfl rfl rfl (aV_ (by omega) (by omega))) (show _=Value.int .i64 ((i0+1+1:Nat):Int) from congrArg _ (by omega))) rfl (Zz 3 ?_)
   exact z_ ⟨i0+1+1,(by omega),(hF_.step hS hx1 hy1 (by simpa using hr6))⟩ (by dsimp only;omega) zl i_ zh
  refine Zz 10 ?_
  exact E_ gz_ ⟨70,.inr (.inl ⟨hE0,fun q=>hr6 (q i0 x1 y1 hx1 hy1),rfl⟩)⟩ rfl e_ zt
 obtain⟨hlx1,x1,hx1,hmx1⟩:=zge (show i<List.length l by omega)
 refine Zz 10 ?_
 refine c_ (C_ s_ f_ rfl rfl (fun v _ h=>q_ (n:=16) Ax.cells_len (by decide) (by exact h.1.1) hx1) (by omega) (by first|omega|(simp;done))) rfl ?_
 refine c_ (L_ (ad:=ad) (us:=Ax.cells x1) K_ f_ rfl (fun v _ h=>by exact h.1.1) (Ax.cells_len _) (o_ Ax.cells_len hx1)) rfl (G_ av_ rfl fun b3=>n_ 0 f_ rfl rfl rfl rfl rfl rfl (Zz 5 ?_))
 refine d_ (nn_ x1 (hok x1 hmx1)) rfl e_ (fun v _ h=>by exact⟨(h.1.2 x1 hmx1),h.2.1,trivial⟩) rfl fun⟨⟨y1,e1⟩,hy1⟩=>?_
 dsimp only
 try dsimp only at hy1
 refine Zz 3 ?_
 refine G_ av_ rfl fun b4=>n_ 0 f_ rfl rfl rfl rfl rfl rfl (Zi 7 (fun hr7=>?_) fun hr7=>?_)
 ·have he1:e1=0:=by simpa using hr7
  have hC1:Ax.check x1=0:=hr_ (by have q:=hy1.1;dsimp only at q;rw[← q,he1])
  have hz1:=kJ_ hC1
  have hz2:=no_ (hy1.2 he1).1 hC1
  dsimp only at hz2
  refine Zz 8 ?_
  refine c_ (A_ oH_ rfl rfl) rfl (Zz 1 ?_)
  refine af_ (qp_ x1 y1 (hok x1 hmx1) (hy1.2 he1).2 (by omega) (by omega) (by omega) (by omega)) rfl e_ (fun v _ h=>by exact⟨(h.2.1.2 x1 hmx1),h.1,trivial⟩) rfl fun r8 hr8=>c_ (aG_ rfl) rfl (Zz 2 ?_)
  cases r8
  ·refine Zz 7 ?_
   exact E_ gz_ ⟨22,BCk.er hE hx1 (tidE_b hy1 he1 (bk_ne hr8 hy1 he1)) (by decide)⟩ rfl e_ zt
  refine Zz 8 ?_
  exact z_ ⟨i+1,hlx1,(jP_ hE hx1 (tidE_c hy1 he1 ((Ax.cmp_zero _ _).1 (bk_eq hr8).2)))⟩ (by dsimp only;omega) zl (l_ (l_ i_)) (fun _ _ h=>h.2)
 refine Zz 10 ?_
 exact E_ gz_ ⟨e1,BCk.er hE hx1 (tidE_a hy1 (by simpa using hr7)) (by simpa using hr7)⟩ rfl e_ zt
end Go.Proofs.YtamklbgaipakfaaGreatDoor
namespace Go.Proofs.YtamklbgaipakfaaGreatDoor
open Go Go.Sx Go.Proofs
attribute [local irreducible] Code.wp wpList wpAnyH
open Go.Vs
def FiB (l:List Ax) (x:Ax):Prop:=x.tdyE=0∧∃ y,TdyOf x y∧∃ z∈l,y.alk z
theorem FiB.no {l:List Ax} {x y:Ax} {e:Int} (h:TyR x (y,e)) (he:e≠0):¬ FiB l x:=fun q=>he (h.1.trans q.1)
theorem FiB.yes {l:List Ax} {x y:Ax} {e:Int} {b:Bool} (h:TyR x (y,e)) (he:e=0) (hb:b=l.any fun z=>Ax.cmp y z==0):b=true↔FiB l x:=by
 have h1:=(h.2 he).1
 dsimp only at h1
 rw[hb,List.any_eq_true]
 constructor
 ·rintro ⟨z,hz,hc⟩
  exact⟨by rw[← h.1];exact he,y,h1,z,hz,(Ax.cmp_zero _ _).1 (by simpa using hc)⟩
 rintro ⟨_,y',h2,z,hz,hc⟩
 refine⟨z,hz,?_⟩
 have h3:=h1.alk h2
 have h4:y.alk z:=⟨h3.1.trans hc.1,h3.2.1.trans hc.2.1,h3.2.2.1.trans hc.2.2.1,h3.2.2.2.1.trans hc.2.2.2.1,h3.2.2.2.2.1.trans hc.2.2.2.2.1,h3.2.2.2.2.2.1.trans hc.2.2.2.2.2.1,h3.2.2.2.2.2.2.trans hc.2.2.2.2.2.2⟩
 rw[(Ax.cmp_zero _ _).2 h4];rfl
theorem tl_ (l:List Ax) (ad:Option Addr) (cap:Nat) (hok:∀ x∈l,x.ok) (hz:∀ x∈l,x.left.sz≤1000000∧x.right.sz≤1000000) (hll:l.length≤1000000) (u:Ax) (hoy:u.ok) (hzy:u.left.sz≤1000000∧u.right.sz≤1000000):Tri Tryz.prog 53 #[.slice ad (List.length l) cap,.func (.func 54) #[.agg #[.int .i64 (Ax.kind u),.bool (Ax.opn u),.int .i64 (Con.kind (Ax.left u)),str (Con.name (Ax.left u)),.int .i64 (Con.lo (Ax.left u)),.int .i64 (Con.hi (Ax.left u)),.slice (Con.ad (Ax.left u)) (List.length (Con.parts (Ax.left u))) (Con.cap (Ax.left u)),.int .i64 (Con.kind (Ax.right u)),str (Con.name (Ax.right u)),.int .i64 (Con.lo (Ax.right u)),.int .i64 (Con.hi (Ax.right u)),.slice (Con.ad (Ax.right u)) (List.length (Con.parts (Ax.right u))) (Con.cap (Ax.right u)),.slice (Ax.ad u) (List.length (Ax.roles u)) (Ax.cap u),str (Ax.role u),str (Ax.a u),str (Ax.b u)]] #[]] [] [aR_ ad l,Ax.memF u] (fun r:{r:Int // decide (0≤r)=l.any fun z=>Ax.cmp u z==0}=>.int .i64 r.1) (fun _=>[]) (fun _=>[]):=by
 refine j_ Tryz.func53 rfl rfl Tryz.ntmps53 rfl fun v0=>?_
 refine Zz 14 ?_
 refine Y_ (ι:={y:Nat // y≤List.length l∧(List.any (List.take y l) (fun z=>Ax.cmp u z==0))=false}) (fun y=>[(0,.slice ad (List.length l) cap),(1,.func (.func 54) #[.agg #[.int .i64 (Ax.kind u),.bool (Ax.opn u),.int .i64 (Con.kind (Ax.left u)),str (Con.name (Ax.left u)),.int .i64 (Con.lo (Ax.left u)),.int .i64 (Con.hi (Ax.left u)),.slice (Con.ad (Ax.left u)) (List.length (Con.parts (Ax.left u))) (Con.cap (Ax.left u)),.int .i64 (Con.kind (Ax.right u)),str (Con.name (Ax.right u)),.int .i64 (Con.lo (Ax.right u)),.int .i64 (Con.hi (Ax.right u)),.slice (Con.ad (Ax.right u)) (List.length (Con.parts (Ax.right u))) (Con.cap (Ax.right u)),.slice (Ax.ad u) (List.length (Ax.roles u)) (Ax.cap u),str (Ax.role u),str (Ax.a u),str (Ax.b u)]] #[]),(4,.int .i64 0),(7,.int .i64 (List.length l:Int)),(8,.int .i64 (y.1:Int))]) (fun y=>([])) (fun y=>[aR_ ad l,Ax.memF u]) (fun y=>List.length l - y.1) ⟨(0:Nat),by simp,(by simp)⟩ zl e_ zh ?_
 rintro ⟨i,hi_i,hA⟩
 dsimp only at hi_i hA ⊢
 refine Zi 2 (fun hr1=>?_) fun hr1=>?_
 ·refine Zz 12 ?_
  exact E_ Tryz.results53 ⟨-1,by have q:=hA;rw[List.take_of_length_le (by omega)]at q;rw[q];rfl⟩ rfl e_ zt
 obtain⟨hlx1,x1,hx1,hmx1⟩:=zge (show i<List.length l by omega)
 refine Zz 19 ?_
 refine c_ (C_ s_ f_ rfl rfl (fun v _ h=>q_ (n:=16) Ax.cells_len (by decide) (by exact h.1.1) hx1) (by omega) (by first|omega|(simp;done))) rfl ?_
 refine c_ (L_ (ad:=ad) (us:=Ax.cells x1) K_ f_ rfl (fun v _ h=>by exact h.1.1) (Ax.cells_len _) (o_ Ax.cells_len hx1)) rfl (fV_ (qz_ u x1 hoy (hok x1 hmx1) hzy.1 hzy.2 (hz x1 hmx1).1 (hz x1 hmx1).2) rfl rfl e_ (fun v _ h=>by exact⟨h.2.1,(h.1.2 x1 hmx1),trivial⟩) rfl fun r2 hr2=>Zz 2 ?_)
 cases r2
 ·refine Zz 8 ?_
  exact z_ ⟨i+1,hlx1,(by rw[take_snoc hx1,List.any_append,hA];simpa using hr2)⟩ (by dsimp only;omega) zl e_ zh
 refine Zz 8 ?_
 exact E_ Tryz.results53 ⟨(i:Int),by rw[show (List.any l fun z=>Ax.cmp u z==0)=true from List.any_eq_true.2 ⟨x1,hmx1,hr2⟩];exact decide_eq_true (by omega)⟩ rfl e_ zt
theorem mG_ (l:List Ax) (ad:Option Addr) (cap:Nat) (hok:∀ x∈l,x.ok) (hz:∀ x∈l,x.left.sz≤1000000∧x.right.sz≤1000000) (hll:l.length≤1000000) (a:Ax) (hoa:a.ok):Tri Tryz.prog 20 #[.agg #[.slice ad (List.length l) cap],Ax.val a] [] [aR_ ad l,Ax.memF a,bn_] (fun r:{r:Int×Bool // r.2=true↔FiB l a}=>.tuple #[.int .i64 r.1.1,.bool r.1.2]) (fun _=>[]) (fun _=>[]):=by
 refine j_ Tryz.func20 rfl rfl Tryz.ntmps20 rfl fun v0=>?_
 refine Zz 2 ?_
 refine N_ rfl rfl fun b1=>N_ rfl rfl fun b2=>Zz 7 ?_
 refine d_ (nn_ a hoa) rfl e_ zf rfl fun⟨⟨y1,e1⟩,hy1⟩=>?_
 dsimp only
 try dsimp only at hy1
 refine Zz 3 ?_
 refine G_ av_ rfl fun b3=>n_ 0 f_ rfl rfl rfl rfl rfl rfl (Zi 7 (fun hr1=>?_) fun hr1=>?_)
 ·have he1:e1=0:=by simpa using hr1
  have hC1:Ax.check a=0:=hr_ (by have q:=hy1.1;dsimp only at q;rw[← q,he1])
  have hz2:=no_ (hy1.2 he1).1 hC1
  dsimp only at hz2
  refine Zz 10 ?_
  refine c_ (A_ oH_ rfl rfl) rfl (c_ (dw_ rfl rfl) rfl (d_ (tl_ l ad cap hok hz hll y1 (hy1.2 he1).2 ⟨by omega,by omega⟩) rfl e_ zf rfl fun⟨ix,hix⟩=>?_))
  dsimp only
  refine Zi 7 (fun hr2=>?_) fun hr2=>?_
  ·refine Zz 13 ?_
   exact fr_ Tryz.results20 ⟨(ix,true),FiB.yes hy1 he1 (by rw[← hix];exact (decide_eq_true (by omega)).symm)⟩ rfl rfl rfl e_ zt
  refine Zz 10 ?_
  exact fr_ Tryz.results20 ⟨(0,false),FiB.yes hy1 he1 (by rw[← hix];exact (decide_eq_false (by omega)).symm)⟩ rfl rfl rfl e_ zt
 refine Zz 10 ?_
 exact fr_ Tryz.results20 ⟨(0,false),⟨fun q=>(by cases q),fun q=>absurd q (FiB.no hy1 (by simpa using hr1))⟩⟩ rfl rfl rfl e_ zt
end Go.Proofs.YtamklbgaipakfaaGreatDoor
namespace Go.Proofs.YtamklbgaipakfaaGreatDoor
open Go Go.Sx Go.Proofs
attribute [local irreducible] Code.wp wpList wpAnyH
open Go.Vs
theorem dW_ (s:Str):Fn0 Tryz.prog 31 #[str s] (Con.val (Con.mk 3 s 0 0 none 0 [])):=by
  refine j_ Tryz.func31 rfl rfl Tryz.ntmps31 rfl fun v0=>?_
  refine Zz 2 ?_
  refine G_ aC_ rfl fun b1=>Zz 5 ?_
  refine c_ (A_ gs_ rfl rfl) rfl (n_ 0 g_ rfl rfl rfl rfl rfl rfl (Zz 3 ?_))
  exact cr_ () (fun aa v h1 h2=>dT_ (us:=Con.cells (Con.mk 3 s 0 0 none 0 [])) 0 Tryz.results31 R_ g_ rfl rfl rfl aa v h1 h2) e_ (fun v _ h=>trivial)
theorem fQ_ (a b:Str):Fn0 Tryz.prog 32 #[str a,str b] (Ax.val (Ax.mk 1 false (Con.mk 3 a 0 0 none 0 []) (Con.mk 3 b 0 0 none 0 []) none 0 [] [] [] [])):=by
  refine j_ Tryz.func32 rfl rfl Tryz.ntmps32 rfl fun v0=>?_
  refine Zz 2 ?_
  refine G_ av_ rfl fun b1=>Zz 5 ?_
  refine d_ (dW_ a) rfl e_ zt rfl fun _=>Zz 1 ?_
  refine d_ (dW_ b) rfl e_ zt rfl fun _=>c_ (A_ fq_ rfl rfl) rfl (n_ 0 f_ rfl rfl rfl rfl rfl rfl (Zz 3 ?_))
  exact cr_ () (fun aa v h1 h2=>dT_ (us:=Ax.cells (Ax.mk 1 false (Con.mk 3 a 0 0 none 0 []) (Con.mk 3 b 0 0 none 0 []) none 0 [] [] [] [])) 0 Tryz.results32 K_ f_ rfl rfl rfl aa v h1 h2) e_ (fun v _ h=>trivial)
theorem uK_ (ls:List Ax) (lad:Option Addr) (lcap:Nat) (hcap:ls.length≤lcap∧lcap≤2199023255488) (hok:∀ x∈ls,x.ok):Tri Tryz.prog 9 #[.slice lad (List.length ls) lcap] [] [aR_ lad ls] (fun b:{b:Bool // b=true→ls.length≤12∧∀ x∈ls,Ax.Few x}=>.bool b.1) (fun _=>[]) (fun _=>[]):=by
  refine j_ Tryz.func9 rfl rfl Tryz.ntmps9 rfl fun v0=>?_
  refine Zz 8 ?_
  refine d_ (mH_ ls lad lcap 12 hcap hok) rfl e_ zf rfl fun⟨r,hr⟩=>?_
  dsimp only
  refine Zz 4 ?_
  exact E_ Tryz.results9 ⟨r,fun h=>⟨by have:=(hr h).1;omega,(hr h).2⟩⟩ rfl (.refl _) zt
theorem qR_ (S:List Str) (sad:Option Addr) (scap:Nat) (hSb:S.length≤8796093021952) (hSl:∀ s∈S,s.length≤140737488351232):Tri Tryz.prog 10 #[.slice sad (List.length S) scap] [] [ac_ sad (List.flatMap aJ_ S)] (fun b:{b:Bool // b=true→S.length≤8∧∀ s∈S,s.length≤300}=>.bool b.1) (fun _=>[]) (fun _=>[]):=by
 refine j_ Tryz.func10 rfl rfl Tryz.ntmps10 rfl fun v0=>?_
 refine Zi 10 (fun hr1=>?_) fun hr1=>?_
 ·refine Zz 12 ?_
  refine Y_ (ι:={y:Nat // y≤List.length S∧iU_ S y (fun _ s=>List.length s≤300)}) (fun y=>[(0,.slice sad (List.length S) scap),(2,.bool false),(3,.int .i64 (y.1:Int))]) (fun y=>([])) (fun y=>[ac_ sad (List.flatMap aJ_ S)]) (fun y=>List.length S - y.1) ⟨(0:Nat),by simp,iU_.zero⟩ zl e_ zh ?_
  rintro ⟨i,hi_i,hva⟩
  dsimp only at hi_i hva ⊢
  refine Zi 6 (fun hr2=>?_) fun hr2=>?_
  ·refine Zz 11 ?_
   exact E_ Tryz.results10 ⟨true,fun _=>⟨by omega,fun s hs=>by have:=hva.all (by assumption) s hs;omega⟩⟩ rfl e_ zt
  have hls1:i<List.length S:=by omega
  obtain⟨s1,hs1⟩:∃ e0,S[i]? = some e0:=⟨_,List.getElem?_eq_getElem hls1⟩
  have hms1:s1∈S:=List.mem_of_getElem? hs1
  have hsl:=hSl _ hms1
  refine Zz 13 ?_
  refine c_ (dk_ aj_ rfl) rfl ?_
  refine Zi 0 (fun hr3=>?_) fun hr3=>?_
  ·refine Zz 11 ?_
   exact z_ ⟨i+1,hls1,hva.step hs1 (by omega)⟩ (by dsimp only;omega) zl e_ zh
  refine Zz 9 ?_
  exact E_ Tryz.results10 ⟨false,fun h=>by cases h⟩ rfl e_ zt
 refine Zz 9 ?_
 exact E_ Tryz.results10 ⟨false,fun h=>by cases h⟩ rfl e_ zt
theorem dz_ (ls:List Ax) (lad:Option Addr) (lcap:Nat) (hcap:ls.length≤lcap∧lcap≤2199023255488) (hok:∀ x∈ls,x.ok) (hll:ls.length≤100000000) (S:List Str) (sad:Option Addr) (scap:Nat) (hS:S.length≤100000000) (hSl:∀ s∈S,s.length≤100000) (p:List Pc) (er:Int) (hPL:ad_ ls=(p,er)) (hp:p.length≤100000000) (want:List Int) (wad:Option Addr) (wcap:Nat) (hw:want.length≤100000000) (hR:hu_ ls p er S=(want,0)):Tri Tryz.prog 33 #[.slice lad (List.length ls) lcap,.slice sad (List.length S) scap,.slice wad (List.length want) wcap] [] [aR_ lad ls,bn_,ac_ sad (List.flatMap aJ_ S),ac_ wad (List.flatMap ct_ want)] (fun _:Unit=>.bool true) (fun _=>[]) (fun _=>[]):=by
 refine j_ Tryz.func33 rfl rfl Tryz.ntmps33 rfl fun v0=>?_
 refine Zz 9 ?_
 refine d_ (qB_ ls lad lcap hcap hok hll S sad scap hS hSl p er hPL hp want 0 hR) rfl e_ zf rfl fun⟨⟨qad,qcap⟩,hq1,hq2,hq3⟩=>?_
 dsimp only
 refine Zz 11 ?_
 refine c_ (aA_ (bR_ rfl rfl) (show _=Value.bool false from congrArg Value.bool (by decide))) rfl (Zi 10 (fun hr1=>?_) fun hr1=>?_)
 ·refine Zz 13 ?_
  refine Y_ (ι:={y:Nat // y≤List.length want}) (fun y=>[(2,.slice wad (List.length want) wcap),(6,.bool false),(7,.slice qad (List.length want) qcap),(9,.int .i64 (y.1:Int))]) (fun y=>([])) (fun y=>[ac_ qad (List.flatMap ct_ want),aR_ lad ls,bn_,ac_ sad (List.flatMap aJ_ S),ac_ wad (List.flatMap ct_ want)]) (fun y=>List.length want - y.1) ⟨(0:Nat),by simp⟩ zl e_ zh ?_
  rintro ⟨i,hi_i⟩
  dsimp only at hi_i ⊢
  refine Zi 6 (fun hr2=>?_) fun hr2=>?_
  ·refine Zz 11 ?_
   exact E_ Tryz.results33 () rfl e_ zt
  obtain⟨hlx1,x1,hx1,hmx1⟩:=zge (show i<List.length want by omega)
  refine Zz 9 ?_
  refine Q_ 0 [0,1,2,3,4,5,6,7,8] zk zs (Zi 8 (fun hr3=>?_) fun hr3=>?_)
  ·refine Zz 12 ?_
   exact z_ ⟨i+1,hlx1⟩ (by dsimp only;omega) zl e_ zh
  exact absurd rfl hr3
 exact absurd rfl hr1
end Go.Proofs.YtamklbgaipakfaaGreatDoor
namespace Go.Proofs.YtamklbgaipakfaaGreatDoor
open Go Go.Sx Go.Proofs
attribute [local irreducible] Code.wp wpList wpAnyH
open Go.Vs
theorem kP_.len {p:List Pc} {er:Int} {v:Bool} {S X:List Str} {e:Int} (h:kP_ p er v S X e):X.length≤2*p.length+S.length+2:=by
 rcases h with⟨_,rfl,_⟩|⟨_,_,rfl,_⟩|⟨_,_,_,hs,hm⟩
 ·simp
 ·simp
 have h1:(X.map fun n=>(⟨1,n⟩:Thg)).Nodup:=by
   unfold List.Nodup
   rw[List.pairwise_map]
   exact List.Pairwise.imp (fun {a b} hab e=>by have:=(Thg.mk.inj e).2;subst this;exact fw_ _ hab) hs
 have h2:=dK_ _ (hM_ p S) h1 fun t ht=>by
   obtain⟨n,hn,rfl⟩:=List.mem_map.1 ht
   exact ((hm n).1 hn).univ
 have h3:=eW_ p S
 rw[List.length_map]at h2
 omega
end Go.Proofs.YtamklbgaipakfaaGreatDoor
namespace Go.Proofs.YtamklbgaipakfaaGreatDoor
open Go Go.Sx Go.Proofs
attribute [local irreducible] Code.wp wpList wpAnyH
open Go.Vs
theorem sK_ {a b:Ax} (h:Ax.cmp a b=-1):∀ (i:Nat) x y,[a,b][i]? = some x→[a,b][i+1]? = some y→Ax.cmp x y=-1:=by
  intro i x y h1 h2
  cases i with
  | zero =>
    simp only[List.getElem?_cons_zero,Nat.zero_add,List.getElem?_cons_succ,Option.some.injEq]at h1 h2
    subst h1;subst h2;exact h
  | succ i=>simp at h2
theorem gL_ {S:List Str} (h:(S.all fun s=>Nat.ble s.length 100000)=true):∀ s∈S,s.length≤100000:=fun s hs=>Nat.le_of_ble_eq_true (List.all_eq_true.1 h s hs)
theorem sv_:Tri Tryz.prog 8 #[] [] [bn_] (fun _:Unit=>.bool true) (fun _=>[]) (fun _=>[]):=by
  refine j_ Tryz.func8 rfl rfl Tryz.ntmps8 rfl fun v0=>?_
  refine Zz 7 ?_
  refine d_ (dW_ [66]) rfl e_ zt rfl fun _=>B_ D_ g_ aC_ rfl rfl rfl rfl rfl rfl fun b1=>?_
  refine ai_ (List.flatMap Con.cells [(Con.mk 3 [66] 0 0 none 0 [])]) i_ rfl ?_
  refine c_ (A_ gs_ rfl rfl) rfl (G_ aC_ rfl fun b2=>n_ 0 g_ rfl rfl rfl rfl rfl rfl (Zz 4 ?_))
  refine Q_ 6 [1] zk zs (Zz 2 ?_)
  refine p_ 0 rfl zk (d_ (dW_ [65]) rfl e_ zt rfl fun _=>Zz 3 ?_)
  refine Q_ 4 [2] zk zs (P_ rfl (A_ fq_ rfl rfl) rfl (ba_ (p_ 3 rfl zk (d_ (fQ_ [66] [67]) rfl e_ zt rfl fun _=>Zz 3 ?_))))
  refine p_ 4 rfl zk (d_ (fQ_ [68] [65]) rfl e_ zt rfl fun _=>Zz 3 ?_)
  refine p_ 5 rfl zk (B_ s_ f_ av_ rfl rfl rfl rfl rfl rfl fun b3=>?_)
  refine ai_ (List.flatMap Ax.cells [(Ax.mk 1 false (Con.mk 3 [65] 0 0 none 0 []) (Con.mk 6 [114] 0 0 (some ⟨b1,0,none⟩) 1 [(Con.mk 3 [66] 0 0 none 0 [])]) none 0 [] [] [] []),(Ax.mk 1 false (Con.mk 3 [66] 0 0 none 0 []) (Con.mk 3 [67] 0 0 none 0 []) none 0 [] [] [] []),(Ax.mk 1 false (Con.mk 3 [68] 0 0 none 0 []) (Con.mk 3 [65] 0 0 none 0 []) none 0 [] [] [] [])]) i_ rfl ?_
  refine Zz 3 ?_
  refine Q_ 0 [6] zk zs (Zz 8 ?_)
  refine B_ t_ ah_ aK_ rfl rfl rfl rfl rfl rfl fun b4=>?_
  refine ai_ (List.flatMap aJ_ [[65]]) i_ rfl ?_
  refine B_ I_ U_ aU_ rfl rfl rfl rfl rfl rfl fun b5=>?_
  refine ai_ (List.flatMap ct_ [0,1]) i_ rfl ?_
  refine d_ (dz_ [(Ax.mk 1 false (Con.mk 3 [65] 0 0 none 0 []) (Con.mk 6 [114] 0 0 (some ⟨b1,0,none⟩) 1 [(Con.mk 3 [66] 0 0 none 0 [])]) none 0 [] [] [] []),(Ax.mk 1 false (Con.mk 3 [66] 0 0 none 0 []) (Con.mk 3 [67] 0 0 none 0 []) none 0 [] [] [] []),(Ax.mk 1 false (Con.mk 3 [68] 0 0 none 0 []) (Con.mk 3 [65] 0 0 none 0 []) none 0 [] [] [] [])] (some ⟨b3,0,none⟩) 3 ⟨by simp,by decide⟩ (fun z9 hz9=>by simp only[List.mem_cons,List.not_mem_nil,or_false]at hz9;rcases hz9 with rfl|rfl|rfl<;>(constructor<;>simp[Con.ok,Con.ok.oks])) (by simp) [[65]] (some ⟨b4,0,none⟩) 1 (by simp) (gL_ zk) (ad_ [(Ax.mk 1 false (Con.mk 3 [65] 0 0 none 0 []) (Con.mk 6 [114] 0 0 (some ⟨b1,0,none⟩) 1 [(Con.mk 3 [66] 0 0 none 0 [])]) none 0 [] [] [] []),(Ax.mk 1 false (Con.mk 3 [66] 0 0 none 0 []) (Con.mk 3 [67] 0 0 none 0 []) none 0 [] [] [] []),(Ax.mk 1 false (Con.mk 3 [68] 0 0 none 0 []) (Con.mk 3 [65] 0 0 none 0 []) none 0 [] [] [] [])]).1 (ad_ [(Ax.mk 1 false (Con.mk 3 [65] 0 0 none 0 []) (Con.mk 6 [114] 0 0 (some ⟨b1,0,none⟩) 1 [(Con.mk 3 [66] 0 0 none 0 [])]) none 0 [] [] [] []),(Ax.mk 1 false (Con.mk 3 [66] 0 0 none 0 []) (Con.mk 3 [67] 0 0 none 0 []) none 0 [] [] [] []),(Ax.mk 1 false (Con.mk 3 [68] 0 0 none 0 []) (Con.mk 3 [65] 0 0 none 0 []) none 0 [] [] [] [])]).2 (Prod.eta _).symm (Nat.le_of_ble_eq_true zk) [0,1] (some ⟨b5,0,none⟩) 2 (by simp) zk) rfl e_ (fun v _ h=>by exact⟨⟨h.2.2.1,fun y hy=>by simp only[List.mem_cons,List.not_mem_nil,or_false]at hy;rcases hy with rfl|rfl|rfl;exact⟨⟨.inl rfl,trivial⟩,⟨h.2.2.2.1,⟨⟨.inl rfl,trivial⟩,trivial⟩⟩,(.inl rfl)⟩;exact⟨⟨.inl rfl,trivial⟩,⟨.inl rfl,trivial⟩,(.inl rfl)⟩;exact⟨⟨.inl rfl,trivial⟩,⟨.inl rfl,trivial⟩,(.inl rfl)⟩⟩,h.2.2.2.2.1,h.2.1,h.1,trivial⟩) rfl fun _=>?_
  refine c_ (aG_ rfl) rfl (Zz 4 ?_)
  refine B_ t_ ah_ aK_ rfl rfl rfl rfl rfl rfl fun b6=>?_
  refine ai_ (List.flatMap aJ_ [[66]]) i_ rfl ?_
  refine az_ rfl rfl (B_ I_ U_ aU_ rfl rfl rfl rfl rfl rfl fun b7=>?_)
  refine ai_ (List.flatMap ct_ [1]) i_ rfl ?_
  refine az_ rfl rfl (d_ (dz_ [(Ax.mk 1 false (Con.mk 3 [65] 0 0 none 0 []) (Con.mk 6 [114] 0 0 (some ⟨b1,0,none⟩) 1 [(Con.mk 3 [66] 0 0 none 0 [])]) none 0 [] [] [] []),(Ax.mk 1 false (Con.mk 3 [66] 0 0 none 0 []) (Con.mk 3 [67] 0 0 none 0 []) none 0 [] [] [] []),(Ax.mk 1 false (Con.mk 3 [68] 0 0 none 0 []) (Con.mk 3 [65] 0 0 none 0 []) none 0 [] [] [] [])] (some ⟨b3,0,none⟩) 3 ⟨by simp,by decide⟩ (fun z9 hz9=>by simp only[List.mem_cons,List.not_mem_nil,or_false]at hz9;rcases hz9 with rfl|rfl|rfl<;>(constructor<;>simp[Con.ok,Con.ok.oks])) (by simp) [[66]] (some ⟨b6,0,none⟩) 1 (by simp) (gL_ zk) (ad_ [(Ax.mk 1 false (Con.mk 3 [65] 0 0 none 0 []) (Con.mk 6 [114] 0 0 (some ⟨b1,0,none⟩) 1 [(Con.mk 3 [66] 0 0 none 0 [])]) none 0 [] [] [] []),(Ax.mk 1 false (Con.mk 3 [66] 0 0 none 0 []) (Con.mk 3 [67] 0 0 none 0 []) none 0 [] [] [] []),(Ax.mk 1 false (Con.mk 3 [68] 0 0 none 0 []) (Con.mk 3 [65] 0 0 none 0 []) none 0 [] [] [] [])]).1 (ad_ [(Ax.mk 1 false (Con.mk 3 [65] 0 0 none 0 []) (Con.mk 6 [114] 0 0 (some ⟨b1,0,none⟩) 1 [(Con.mk 3 [66] 0 0 none 0 [])]) none 0 [] [] [] []),(Ax.mk 1 false (Con.mk 3 [66] 0 0 none 0 []) (Con.mk 3 [67] 0 0 none 0 []) none 0 [] [] [] []),(Ax.mk 1 false (Con.mk 3 [68] 0 0 none 0 []) (Con.mk 3 [65] 0 0 none 0 []) none 0 [] [] [] [])]).2 (Prod.eta _).symm (Nat.le_of_ble_eq_true zk) [1] (some ⟨b7,0,none⟩) 1 (by simp) zk) rfl e_ (fun v _ h=>by exact⟨⟨h.2.2.2.2.1,fun y hy=>by simp only[List.mem_cons,List.not_mem_nil,or_false]at hy;rcases hy with rfl|rfl|rfl;exact⟨⟨.inl rfl,trivial⟩,⟨h.2.2.2.2.2.1,⟨⟨.inl rfl,trivial⟩,trivial⟩⟩,(.inl rfl)⟩;exact⟨⟨.inl rfl,trivial⟩,⟨.inl rfl,trivial⟩,(.inl rfl)⟩;exact⟨⟨.inl rfl,trivial⟩,⟨.inl rfl,trivial⟩,(.inl rfl)⟩⟩,h.2.2.2.2.2.2.1,h.2.1,h.1,trivial⟩) rfl fun _=>?_)
  refine az_ rfl rfl (c_ (aG_ rfl) rfl (Zz 5 ?_))
  refine B_ t_ ah_ aK_ rfl rfl rfl rfl rfl rfl fun b8=>?_
  refine ai_ (List.flatMap aJ_ [[60,115,111,109,101,32,114,32,66,62]]) i_ rfl ?_
  refine az_ rfl rfl (B_ I_ U_ aU_ rfl rfl rfl rfl rfl rfl fun b9=>?_)
  refine ai_ (List.flatMap ct_ [0,1]) i_ rfl ?_
  refine az_ rfl rfl (d_ (dz_ [(Ax.mk 1 false (Con.mk 3 [65] 0 0 none 0 []) (Con.mk 6 [114] 0 0 (some ⟨b1,0,none⟩) 1 [(Con.mk 3 [66] 0 0 none 0 [])]) none 0 [] [] [] []),(Ax.mk 1 false (Con.mk 3 [66] 0 0 none 0 []) (Con.mk 3 [67] 0 0 none 0 []) none 0 [] [] [] []),(Ax.mk 1 false (Con.mk 3 [68] 0 0 none 0 []) (Con.mk 3 [65] 0 0 none 0 []) none 0 [] [] [] [])] (some ⟨b3,0,none⟩) 3 ⟨by simp,by decide⟩ (fun z9 hz9=>by simp only[List.mem_cons,List.not_mem_nil,or_false]at hz9;rcases hz9 with rfl|rfl|rfl<;>(constructor<;>simp[Con.ok,Con.ok.oks])) (by simp) [[60,115,111,109,101,32,114,32,66,62]] (some ⟨b8,0,none⟩) 1 (by simp) (gL_ zk) (ad_ [(Ax.mk 1 false (Con.mk 3 [65] 0 0 none 0 []) (Con.mk 6 [114] 0 0 (some ⟨b1,0,none⟩) 1 [(Con.mk 3 [66] 0 0 none 0 [])]) none 0 [] [] [] []),(Ax.mk 1 false (Con.mk 3 [66] 0 0 none 0 []) (Con.mk 3 [67] 0 0 none 0 []) none 0 [] [] [] []),(Ax.mk 1 false (Con.mk 3 [68] 0 0 none 0 []) (Con.mk 3 [65] 0 0 none 0 []) none 0 [] [] [] [])]).1 (ad_ [(Ax.mk 1 false (Con.mk 3 [65] 0 0 none 0 []) (Con.mk 6 [114] 0 0 (some ⟨b1,0,none⟩) 1 [(Con.mk 3 [66] 0 0 none 0 [])]) none 0 [] [] [] []),(Ax.mk 1 false (Con.mk 3 [66] 0 0 none 0 []) (Con.mk 3 [67] 0 0 none 0 []) none 0 [] [] [] []),(Ax.mk 1 false (Con.mk 3 [68] 0 0 none 0 []) (Con.mk 3 [65] 0 0 none 0 []) none 0 [] [] [] [])]).2 (Prod.eta _).symm (Nat.le_of_ble_eq_true zk) [0,1] (some ⟨b9,0,none⟩) 2 (by simp) zk) rfl e_ (fun v _ h=>by exact⟨⟨h.2.2.2.2.2.2.1,fun y hy=>by simp only[List.mem_cons,List.not_mem_nil,or_false]at hy;rcases hy with rfl|rfl|rfl;exact⟨⟨.inl rfl,trivial⟩,⟨h.2.2.2.2.2.2.2.1,⟨⟨.inl rfl,trivial⟩,trivial⟩⟩,(.inl rfl)⟩;exact⟨⟨.inl rfl,trivial⟩,⟨.inl rfl,trivial⟩,(.inl rfl)⟩;exact⟨⟨.inl rfl,trivial⟩,⟨.inl rfl,trivial⟩,(.inl rfl)⟩⟩,h.2.2.2.2.2.2.2.2.1,h.2.1,h.1,trivial⟩) rfl fun _=>?_)
  refine az_ rfl rfl (c_ (aG_ rfl) rfl (Zz 8 ?_))
  refine c_ (A_ gs_ rfl rfl) rfl (d_ (dW_ [65]) rfl e_ zt rfl fun _=>c_ (A_ fq_ rfl rfl) rfl (B_ s_ f_ av_ rfl rfl rfl rfl rfl rfl fun b10=>?_))
  refine ai_ (List.flatMap Ax.cells [(Ax.mk 1 false (Con.mk 1 [] 0 0 none 0 []) (Con.mk 3 [65] 0 0 none 0 []) none 0 [] [] [] [])]) i_ rfl ?_
  refine Zz 5 ?_
  refine d_ (dW_ [65]) rfl e_ zt rfl fun _=>d_ (dW_ [66]) rfl e_ zt rfl fun _=>c_ (A_ fq_ rfl rfl) rfl (B_ s_ f_ av_ rfl rfl rfl rfl rfl rfl fun b11=>?_)
  refine ai_ (List.flatMap Ax.cells [(Ax.mk 3 false (Con.mk 3 [65] 0 0 none 0 []) (Con.mk 3 [66] 0 0 none 0 []) none 0 [] [] [] [])]) i_ rfl ?_
  refine Zz 5 ?_
  refine c_ (A_ fq_ rfl rfl) rfl (d_ (dW_ [65]) rfl e_ zt rfl fun _=>c_ (A_ fq_ rfl rfl) rfl (d_ (fQ_ [65] [66]) rfl e_ zt rfl fun _=>B_ s_ f_ av_ rfl rfl rfl rfl rfl rfl fun b12=>?_))
  refine ai_ (List.flatMap Ax.cells [(Ax.mk 7 true (Con.mk 0 [] 0 0 none 0 []) (Con.mk 0 [] 0 0 none 0 []) none 0 [] [114] [] []),(Ax.mk 4 false (Con.mk 0 [] 0 0 none 0 []) (Con.mk 3 [65] 0 0 none 0 []) none 0 [] [114] [] []),(Ax.mk 1 false (Con.mk 3 [65] 0 0 none 0 []) (Con.mk 3 [66] 0 0 none 0 []) none 0 [] [] [] [])]) i_ rfl ?_
  refine Zz 7 ?_
  refine B_ I_ U_ aU_ rfl rfl rfl rfl rfl rfl fun b13=>?_
  refine ai_ (List.flatMap ct_ [0]) i_ rfl ?_
  refine d_ (dz_ [(Ax.mk 1 false (Con.mk 1 [] 0 0 none 0 []) (Con.mk 3 [65] 0 0 none 0 []) none 0 [] [] [] [])] (some ⟨b10,0,none⟩) 1 ⟨by simp,by decide⟩ (fun z9 hz9=>by simp only[List.mem_cons,List.not_mem_nil,or_false]at hz9;rcases hz9 with rfl<;>(constructor<;>simp[Con.ok,Con.ok.oks])) (by simp) ([]:List Str) none 0 (by simp) (gL_ zk) (ad_ [(Ax.mk 1 false (Con.mk 1 [] 0 0 none 0 []) (Con.mk 3 [65] 0 0 none 0 []) none 0 [] [] [] [])]).1 (ad_ [(Ax.mk 1 false (Con.mk 1 [] 0 0 none 0 []) (Con.mk 3 [65] 0 0 none 0 []) none 0 [] [] [] [])]).2 (Prod.eta _).symm (Nat.le_of_ble_eq_true zk) [0] (some ⟨b13,0,none⟩) 1 (by simp) zk) rfl e_ (fun v _ h=>by exact⟨⟨h.2.2.2.1,fun y hy=>by simp only[List.mem_cons,List.not_mem_nil,or_false]at hy;rcases hy with rfl;exact⟨⟨.inl rfl,trivial⟩,⟨.inl rfl,trivial⟩,(.inl rfl)⟩⟩,h.2.2.2.2.2.2.2.2.2.2.2.2.1,.inl rfl,h.1,trivial⟩) rfl fun _=>?_
  refine c_ (aG_ rfl) rfl (Zz 4 ?_)
  refine B_ t_ ah_ aK_ rfl rfl rfl rfl rfl rfl fun b14=>?_
  refine ai_ (List.flatMap aJ_ [[65]]) i_ rfl ?_
  refine az_ rfl rfl (d_ (dz_ [(Ax.mk 3 false (Con.mk 3 [65] 0 0 none 0 []) (Con.mk 3 [66] 0 0 none 0 []) none 0 [] [] [] [])] (some ⟨b11,0,none⟩) 1 ⟨by simp,by decide⟩ (fun z9 hz9=>by simp only[List.mem_cons,List.not_mem_nil,or_false]at hz9;rcases hz9 with rfl<;>(constructor<;>simp[Con.ok,Con.ok.oks])) (by simp) [[65]] (some ⟨b14,0,none⟩) 1 (by simp) (gL_ zk) (ad_ [(Ax.mk 3 false (Con.mk 3 [65] 0 0 none 0 []) (Con.mk 3 [66] 0 0 none 0 []) none 0 [] [] [] [])]).1 (ad_ [(Ax.mk 3 false (Con.mk 3 [65] 0 0 none 0 []) (Con.mk 3 [66] 0 0 none 0 []) none 0 [] [] [] [])]).2 (Prod.eta _).symm (Nat.le_of_ble_eq_true zk) ([]:List Int) none 0 (by simp) zk) rfl e_ (fun v _ h=>by exact⟨⟨h.2.2.2.1,fun y hy=>by simp only[List.mem_cons,List.not_mem_nil,or_false]at hy;rcases hy with rfl;exact⟨⟨.inl rfl,trivial⟩,⟨.inl rfl,trivial⟩,(.inl rfl)⟩⟩,h.2.2.2.2.2.2.2.2.2.2.2.2.2.1,h.1,.inl rfl,trivial⟩) rfl fun _=>?_)
  refine az_ rfl rfl (c_ (aG_ rfl) rfl (Zz 5 ?_))
  refine B_ t_ ah_ aK_ rfl rfl rfl rfl rfl rfl fun b15=>?_
  refine ai_ (List.flatMap aJ_ [[65],[66]]) i_ rfl ?_
  refine az_ rfl rfl (B_ I_ U_ aU_ rfl rfl rfl rfl rfl rfl fun b16=>?_)
  refine ai_ (List.flatMap ct_ [0]) i_ rfl ?_
  refine az_ rfl rfl (d_ (dz_ [(Ax.mk 3 false (Con.mk 3 [65] 0 0 none 0 []) (Con.mk 3 [66] 0 0 none 0 []) none 0 [] [] [] [])] (some ⟨b11,0,none⟩) 1 ⟨by simp,by decide⟩ (fun z9 hz9=>by simp only[List.mem_cons,List.not_mem_nil,or_false]at hz9;rcases hz9 with rfl<;>(constructor<;>simp[Con.ok,Con.ok.oks])) (by simp) [[65],[66]] (some ⟨b15,0,none⟩) 2 (by simp) (gL_ zk) (ad_ [(Ax.mk 3 false (Con.mk 3 [65] 0 0 none 0 []) (Con.mk 3 [66] 0 0 none 0 []) none 0 [] [] [] [])]).1 (ad_ [(Ax.mk 3 false (Con.mk 3 [65] 0 0 none 0 []) (Con.mk 3 [66] 0 0 none 0 []) none 0 [] [] [] [])]).2 (Prod.eta _).symm (Nat.le_of_ble_eq_true zk) [0] (some ⟨b16,0,none⟩) 1 (by simp) zk) rfl e_ (fun v _ h=>by exact⟨⟨h.2.2.2.2.2.1,fun y hy=>by simp only[List.mem_cons,List.not_mem_nil,or_false]at hy;rcases hy with rfl;exact⟨⟨.inl rfl,trivial⟩,⟨.inl rfl,trivial⟩,(.inl rfl)⟩⟩,h.2.2.2.2.2.2.2.2.2.2.2.2.2.2.2.1,h.2.1,h.1,trivial⟩) rfl fun _=>?_)
  refine az_ rfl rfl (c_ (aG_ rfl) rfl (Zz 5 ?_))
  refine B_ t_ ah_ aK_ rfl rfl rfl rfl rfl rfl fun b17=>?_
  refine ai_ (List.flatMap aJ_ [[67]]) i_ rfl ?_
  refine az_ rfl rfl (B_ I_ U_ aU_ rfl rfl rfl rfl rfl rfl fun b18=>?_)
  refine ai_ (List.flatMap ct_ [0,1,2]) i_ rfl ?_
  refine az_ rfl rfl (d_ (dz_ [(Ax.mk 7 true (Con.mk 0 [] 0 0 none 0 []) (Con.mk 0 [] 0 0 none 0 []) none 0 [] [114] [] []),(Ax.mk 4 false (Con.mk 0 [] 0 0 none 0 []) (Con.mk 3 [65] 0 0 none 0 []) none 0 [] [114] [] []),(Ax.mk 1 false (Con.mk 3 [65] 0 0 none 0 []) (Con.mk 3 [66] 0 0 none 0 []) none 0 [] [] [] [])] (some ⟨b12,0,none⟩) 3 ⟨by simp,by decide⟩ (fun z9 hz9=>by simp only[List.mem_cons,List.not_mem_nil,or_false]at hz9;rcases hz9 with rfl|rfl|rfl<;>(constructor<;>simp[Con.ok,Con.ok.oks])) (by simp) [[67]] (some ⟨b17,0,none⟩) 1 (by simp) (gL_ zk) (ad_ [(Ax.mk 7 true (Con.mk 0 [] 0 0 none 0 []) (Con.mk 0 [] 0 0 none 0 []) none 0 [] [114] [] []),(Ax.mk 4 false (Con.mk 0 [] 0 0 none 0 []) (Con.mk 3 [65] 0 0 none 0 []) none 0 [] [114] [] []),(Ax.mk 1 false (Con.mk 3 [65] 0 0 none 0 []) (Con.mk 3 [66] 0 0 none 0 []) none 0 [] [] [] [])]).1 (ad_ [(Ax.mk 7 true (Con.mk 0 [] 0 0 none 0 []) (Con.mk 0 [] 0 0 none 0 []) none 0 [] [114] [] []),(Ax.mk 4 false (Con.mk 0 [] 0 0 none 0 []) (Con.mk 3 [65] 0 0 none 0 []) none 0 [] [114] [] []),(Ax.mk 1 false (Con.mk 3 [65] 0 0 none 0 []) (Con.mk 3 [66] 0 0 none 0 []) none 0 [] [] [] [])]).2 (Prod.eta _).symm (Nat.le_of_ble_eq_true zk) [0,1,2] (some ⟨b18,0,none⟩) 3 (by simp) zk) rfl e_ (fun v _ h=>by exact⟨⟨h.2.2.2.2.2.2.1,fun y hy=>by simp only[List.mem_cons,List.not_mem_nil,or_false]at hy;rcases hy with rfl|rfl|rfl;exact⟨⟨.inl rfl,trivial⟩,⟨.inl rfl,trivial⟩,(.inl rfl)⟩;exact⟨⟨.inl rfl,trivial⟩,⟨.inl rfl,trivial⟩,(.inl rfl)⟩;exact⟨⟨.inl rfl,trivial⟩,⟨.inl rfl,trivial⟩,(.inl rfl)⟩⟩,h.2.2.2.2.2.2.2.2.2.2.2.2.2.2.2.2.2.1,h.2.1,h.1,trivial⟩) rfl fun _=>?_)
  refine az_ rfl rfl (c_ (aG_ rfl) rfl (Zz 8 ?_))
  refine d_ (fQ_ [65] [66]) rfl e_ zt rfl fun _=>d_ (fQ_ [67] [68]) rfl e_ zt rfl fun _=>B_ s_ f_ av_ rfl rfl rfl rfl rfl rfl fun b19=>?_
  refine ai_ (List.flatMap Ax.cells [(Ax.mk 1 false (Con.mk 3 [65] 0 0 none 0 []) (Con.mk 3 [66] 0 0 none 0 []) none 0 [] [] [] []),(Ax.mk 1 false (Con.mk 3 [67] 0 0 none 0 []) (Con.mk 3 [68] 0 0 none 0 []) none 0 [] [] [] [])]) i_ rfl ?_
  refine c_ (A_ oI_ rfl rfl) rfl (d_ (fQ_ [65] [68]) rfl e_ zt rfl fun _=>?_)
  refine d_ (Of0_c [(Ax.mk 1 false (Con.mk 3 [65] 0 0 none 0 []) (Con.mk 3 [66] 0 0 none 0 []) none 0 [] [] [] []),(Ax.mk 1 false (Con.mk 3 [67] 0 0 none 0 []) (Con.mk 3 [68] 0 0 none 0 []) none 0 [] [] [] [])] (some ⟨b19,0,none⟩) 2 (fun z9 hz9=>by simp only[List.mem_cons,List.not_mem_nil,or_false]at hz9;rcases hz9 with rfl|rfl<;>(constructor<;>simp[Con.ok,Con.ok.oks])) (fun z9 hz9=>by simp only[List.mem_cons,List.not_mem_nil,or_false]at hz9;rcases hz9 with rfl|rfl<;>kernel_rfl) (fun z9 hz9=>by simp only[List.mem_cons,List.not_mem_nil,or_false]at hz9;rcases hz9 with rfl|rfl<;>exact⟨rfl,rfl,rfl⟩) (by simp) (fun z9 hz9=>by simp only[List.mem_cons,List.not_mem_nil,or_false]at hz9;rcases hz9 with rfl|rfl<;>exact⟨Nat.le_of_ble_eq_true zk,Nat.le_of_ble_eq_true zk⟩) (sK_ zk) ⟨by simp,by decide⟩ (ad_ [(Ax.mk 1 false (Con.mk 3 [65] 0 0 none 0 []) (Con.mk 3 [66] 0 0 none 0 []) none 0 [] [] [] []),(Ax.mk 1 false (Con.mk 3 [67] 0 0 none 0 []) (Con.mk 3 [68] 0 0 none 0 []) none 0 [] [] [] [])]).1 zk (Nat.le_of_ble_eq_true zk) (Ax.mk 1 false (Con.mk 3 [65] 0 0 none 0 []) (Con.mk 3 [68] 0 0 none 0 []) none 0 [] [] [] []) (by constructor<;>simp[Con.ok,Con.ok.oks]) (Ax.goalP (Ax.mk 1 false (Con.mk 3 [65] 0 0 none 0 []) (Con.mk 3 [68] 0 0 none 0 []) none 0 [] [] [] [])).1 (Ax.goalP (Ax.mk 1 false (Con.mk 3 [65] 0 0 none 0 []) (Con.mk 3 [68] 0 0 none 0 []) none 0 [] [] [] [])).2.1 zk (Nat.le_of_ble_eq_true zk)) rfl e_ (fun v _ h=>by exact⟨⟨h.1,fun y hy=>by simp only[List.mem_cons,List.not_mem_nil,or_false]at hy;rcases hy with rfl|rfl;exact⟨⟨.inl rfl,trivial⟩,⟨.inl rfl,trivial⟩,(.inl rfl)⟩;exact⟨⟨.inl rfl,trivial⟩,⟨.inl rfl,trivial⟩,(.inl rfl)⟩⟩,h.2.2.2.2.2.2.2.2.2.2.2.2.2.2.2.2.2.2.1,⟨⟨.inl rfl,trivial⟩,⟨.inl rfl,trivial⟩,(.inl rfl)⟩,trivial⟩) rfl fun⟨⟨svq,Hqq⟩,hrq⟩=>?_
  dsimp only
  dsimp only at hrq
  rw[show cV_ [(Ax.mk 1 false (Con.mk 3 [65] 0 0 none 0 []) (Con.mk 3 [66] 0 0 none 0 []) none 0 [] [] [] []),(Ax.mk 1 false (Con.mk 3 [67] 0 0 none 0 []) (Con.mk 3 [68] 0 0 none 0 []) none 0 [] [] [] [])] (di_ [(Ax.mk 1 false (Con.mk 3 [65] 0 0 none 0 []) (Con.mk 3 [66] 0 0 none 0 []) none 0 [] [] [] []),(Ax.mk 1 false (Con.mk 3 [67] 0 0 none 0 []) (Con.mk 3 [68] 0 0 none 0 []) none 0 [] [] [] [])] ((ad_ [(Ax.mk 1 false (Con.mk 3 [65] 0 0 none 0 []) (Con.mk 3 [66] 0 0 none 0 []) none 0 [] [] [] []),(Ax.mk 1 false (Con.mk 3 [67] 0 0 none 0 []) (Con.mk 3 [68] 0 0 none 0 []) none 0 [] [] [] [])]).1++(Ax.goalP (Ax.mk 1 false (Con.mk 3 [65] 0 0 none 0 []) (Con.mk 3 [68] 0 0 none 0 []) none 0 [] [] [] [])).1) (em_ (Ax.goalP (Ax.mk 1 false (Con.mk 3 [65] 0 0 none 0 []) (Con.mk 3 [68] 0 0 none 0 []) none 0 [] [] [] [])).1) (List.length [(Ax.mk 1 false (Con.mk 3 [65] 0 0 none 0 []) (Con.mk 3 [66] 0 0 none 0 []) none 0 [] [] [] []),(Ax.mk 1 false (Con.mk 3 [67] 0 0 none 0 []) (Con.mk 3 [68] 0 0 none 0 []) none 0 [] [] [] [])]))=[(Ax.mk 1 false (Con.mk 3 [65] 0 0 none 0 []) (Con.mk 3 [66] 0 0 none 0 []) none 0 [] [] [] [])] from by rw[tJ_];kernel_rfl]at hrq
  refine bu_ hrq aI_ fun oad ocap hoad hcoad hmoad hzoad=>?_
  subst hoad
  refine Zz 3 ?_
  refine G_ cQ_ rfl fun b20=>n_ 0 bl_ rfl rfl rfl rfl rfl rfl (Zz 5 ?_)
  refine B_ t_ ah_ aK_ rfl rfl rfl rfl rfl rfl fun b21=>?_
  refine ai_ (List.flatMap aJ_ [[60]]) i_ rfl ?_
  refine d_ (qB_ ([]:List Ax) none 0 ⟨by simp,by decide⟩ (fun z9 hz9=>by cases hz9) (by simp) [[60]] (some ⟨b21,0,none⟩) 1 (by simp) (gL_ zk) [] 0 zk (by simp) [] 1 zk) rfl e_ (fun v _ h=>by exact⟨⟨.inl rfl,by simp⟩,h.2.2.2.2.2.2.2.2.2.2.2.2.2.2.2.2.2.2.2.2.1,h.1,trivial⟩) rfl fun⟨⟨rad,rcap⟩,hrc⟩=>?_
  dsimp only
  refine Zz 9 ?_
  refine Q_ 8 [0,1,2,3,4,5,6,7,8,9,10,11,12] zk zs (Zz 1 ?_)
  refine P_ rfl (aA_ (ay_ rfl rfl) (show _=Value.bool true from congrArg Value.bool (by decide))) rfl (Zz 4 ?_)
  refine hQ_ rfl rfl rfl (aA_ (ay_ rfl rfl) (show _=Value.bool true from congrArg Value.bool (by decide))) rfl (Zz 4 ?_)
  refine hQ_ rfl rfl rfl (C_ s_ f_ rfl rfl (fun v _ h=>q_ (n:=16) Ax.cells_len (by decide) (by exact h.2.2.1) (show [(Ax.mk 1 false (Con.mk 3 [65] 0 0 none 0 []) (Con.mk 3 [66] 0 0 none 0 []) none 0 [] [] [] [])][0]? = some _ from rfl)) (by omega) (by first|omega|(simp;done))) rfl ?_
  refine hQ_ rfl rfl rfl (L_ (ad:=oad) (us:=Ax.cells (Ax.mk 1 false (Con.mk 3 [65] 0 0 none 0 []) (Con.mk 3 [66] 0 0 none 0 []) none 0 [] [] [] [])) K_ f_ rfl zf (Ax.cells_len _) (o_ Ax.cells_len (show [(Ax.mk 1 false (Con.mk 3 [65] 0 0 none 0 []) (Con.mk 3 [66] 0 0 none 0 []) none 0 [] [] [] [])][0]? = some _ from rfl))) rfl (ba_ (p_ 13 rfl zk (az_ rfl rfl (d_ (fQ_ [65] [66]) rfl e_ zt rfl fun _=>Zz 3 ?_))))
  refine p_ 14 rfl zk (az_ rfl rfl (d_ ((show Tri Tryz.prog 34 _ [] _ (fun _:Unit=>.bool true) (fun _=>[]) (fun _=>[]) from by have h:=li_ (Ax.mk 1 false (Con.mk 3 [65] 0 0 none 0 []) (Con.mk 3 [66] 0 0 none 0 []) none 0 [] [] [] []) (Ax.mk 1 false (Con.mk 3 [65] 0 0 none 0 []) (Con.mk 3 [66] 0 0 none 0 []) none 0 [] [] [] []) (by constructor<;>simp[Con.ok,Con.ok.oks]) (by constructor<;>simp[Con.ok,Con.ok.oks]) (Nat.le_of_ble_eq_true zk) (Nat.le_of_ble_eq_true zk) (Nat.le_of_ble_eq_true zk) (Nat.le_of_ble_eq_true zk);rw[show ((Ax.opn (Ax.mk 1 false (Con.mk 3 [65] 0 0 none 0 []) (Con.mk 3 [66] 0 0 none 0 []) none 0 [] [] [] [])==Ax.opn (Ax.mk 1 false (Con.mk 3 [65] 0 0 none 0 []) (Con.mk 3 [66] 0 0 none 0 []) none 0 [] [] [] []))&&(Ax.cmp (Ax.mk 1 false (Con.mk 3 [65] 0 0 none 0 []) (Con.mk 3 [66] 0 0 none 0 []) none 0 [] [] [] []) (Ax.mk 1 false (Con.mk 3 [65] 0 0 none 0 []) (Con.mk 3 [66] 0 0 none 0 []) none 0 [] [] [] [])==0))=true from by kernel_rfl]at h;exact h)) rfl e_ (fun v _ h=>by exact⟨⟨⟨.inl rfl,trivial⟩,⟨.inl rfl,trivial⟩,(.inl rfl)⟩,⟨⟨.inl rfl,trivial⟩,⟨.inl rfl,trivial⟩,(.inl rfl)⟩,trivial⟩) rfl fun _=>?_))
  refine Zz 3 ?_
  refine Q_ 0 [15,16,17,18,19,20] zk zs (Zz 3 ?_)
  refine hQ_ rfl rfl rfl (aA_ (ay_ rfl rfl) (show _=Value.bool true from congrArg Value.bool (by decide))) rfl (Zz 6 ?_)
  exact E_ Tryz.results8 () rfl (.refl _) zt
end Go.Proofs.YtamklbgaipakfaaGreatDoor
namespace Go.Vs
open Go Go.Sx
def Rng (z:Int):Prop:=z=-1∨z=0∨z=1
theorem mk_:∀ {l:List Int},(∀ z∈l,Rng z)→Rng (orF l)
 | [],_=>.inr (.inl rfl)
 | x::l,h=>by
   rw[orF]
   split
   · exact mk_ fun z hz=>h z (List.mem_cons_of_mem _ hz)
   · exact h x (by simp)
theorem iQ_ (x y:Int):Rng (Lib.compareInt x y):=by unfold Lib.compareInt Rng;(repeat' split)<;>omega
theorem iP_:∀ (x y:Str),Rng (Lib.compareBytes x y)
 | [],[]=>by simp[Lib.compareBytes,Rng]
 | [],b::y=>by simp[Lib.compareBytes,Rng]
 | a::x,[]=>by simp[Lib.compareBytes,Rng]
 | a::x,b::y=>by
   rw[Lib.compareBytes]
   split
   · exact .inl rfl
   · split
     · exact .inr (.inr rfl)
     · exact iP_ x y
theorem tG_:∀ (x y:List Str),Rng (bQ_ x y)
 | [],[]=>by simp[bQ_,Rng]
 | [],b::y=>by simp[bQ_,Rng]
 | a::x,[]=>by simp[bQ_,Rng]
 | a::x,b::y=>by
   rw[bQ_]
   split
   · exact tG_ x y
   · exact iP_ a b
namespace Con
theorem op_:∀ (n:Nat),(∀ a b:Con,a.sz≤n→Rng (cmp a b))→∀ xs ys:List Con,(∀ p∈xs,p.sz≤n)→Rng (cmp.cmps xs ys)
 | n,h,[],[],_=>by simp[cmp.cmps,Rng]
 | n,h,[],b::y,_=>by simp[cmp.cmps,Rng]
 | n,h,a::x,[],_=>by simp[cmp.cmps,Rng]
 | n,h,a::x,b::y,hs=>by
   rw[cmp.cmps]
   split
   · exact op_ n h x y fun p hp=>hs p (List.mem_cons_of_mem _ hp)
   · exact h a b (hs a (by simp))
theorem cmp_rng:∀ (n:Nat) (a b:Con),a.sz≤n→Rng (cmp a b)
 | 0,a,b,h=>by have:=sz_pos a;omega
 | n+1,a,b,h=>by
   rw[cmp_eq]
   refine mk_ fun z hz=>?_
   simp only[List.mem_cons,List.not_mem_nil,or_false]at hz
   rcases hz with rfl|rfl|rfl|rfl|rfl|rfl
   · exact iQ_ _ _
   · exact iQ_ _ _
   · exact iP_ _ _
   · exact iQ_ _ _
   · exact iQ_ _ _
   · exact op_ n (fun a b h=>cmp_rng n a b h) _ _ fun p hp=>by have:=sz_part hp;omega
end Con
theorem Ax.cmp_rng (x y:Ax):Rng (cmp x y):=by
 unfold cmp
 refine mk_ fun z hz=>?_
 simp only[List.mem_cons,List.not_mem_nil,or_false]at hz
 rcases hz with rfl|rfl|rfl|rfl|rfl|rfl|rfl|rfl
 ·exact iQ_ _ _
 ·exact iQ_ _ _
 ·exact Con.cmp_rng _ _ _ (Nat.le_refl _)
 ·exact Con.cmp_rng _ _ _ (Nat.le_refl _)
 ·exact tG_ _ _
 ·exact iP_ _ _
 ·exact iP_ _ _
 exact iP_ _ _
theorem Ax.cmp_m1 {x y:Ax}:cmp x y=-1↔cmp x y<0:=by
  have:=cmp_rng x y
  unfold Rng at this
  omega
end Go.Vs
namespace Go.Proofs.YtamklbgaipakfaaGreatDoor
open Go Go.Sx Go.Proofs
attribute [local irreducible] Code.wp wpList wpAnyH
open Go.Vs
theorem rm_ (l:List Ax) (ad:Option Addr) (cap:Nat) (hcap:l.length≤2199023255488) (hok:∀ x∈l,x.ok) {p:List Pc} {er:Int} (e:ad_ l=(p,er)) :
    Tri Tryz.prog 27 #[.slice ad l.length cap] [] [aR_ ad l,bn_] (fun y:{y:Option Addr×Nat // p.length≤y.2∧y.2≤maxLen∧(y.1=none→y.2=0)}=>.tuple #[.slice y.1.1 p.length y.1.2,.int .i64 er]) (fun _=>[]) (fun y=>[ac_ y.1.1 (p.flatMap Pc.cells)]):=by
  have h:=lr_ l ad cap hcap hok
  generalize ad_ l=g at h e
  subst e
  exact h
def MpR (l:List Ax) (P:List Pc) (e:Int):Prop:=∃ e0,BCk l e0∧((e0≠0∧e=e0∧P=[])∨(e0=0∧e=(ad_ l).2∧P=(ad_ l).1))
def ExR (l:List Ax) (S:List Str) (X:List Ax) (e:Int):Prop:=∃ e0,BCk l e0∧((e0≠0∧e=e0∧X=[])∨(e0=0∧(ad_ l).2≠0∧e=(ad_ l).2∧X=[])∨(e0=0∧(ad_ l).2=0∧dE_ S=false∧e=1∧X=[]) ∨
    (e0=0∧(ad_ l).2=0∧dE_ S=true∧e=0∧X=cV_ l (di_ l (ad_ l).1 S l.length)))
theorem ExR.er {l:List Ax} {S:List Str} {P:List Pc} {e:Int} (h:MpR l P e) (he:e≠0):ExR l S [] e:=by
 obtain⟨e0,h0,h|h⟩:=h
 ·exact⟨e0,h0,.inl ⟨h.1,h.2.1,rfl⟩⟩
 exact⟨e0,h0,.inr (.inl ⟨h.1,by rw[← h.2.1];exact he,h.2.1,rfl⟩)⟩
theorem MpR.ok {l:List Ax} {P:List Pc} {e:Int} (h:MpR l P e) (he:e=0):BCk l 0∧(ad_ l).2=0∧P=(ad_ l).1:=by
 obtain⟨e0,h0,h|h⟩:=h
 ·exact absurd (h.2.1.symm.trans he) h.1
 exact⟨h.1▸h0,h.2.1.symm.trans he,h.2.2⟩
theorem ExR.arg {l:List Ax} {S:List Str} {P:List Pc} {e:Int} (h:MpR l P e) (he:e=0) (hv:dE_ S=false):ExR l S [] 1:=by
  obtain⟨h1,h2,h3⟩:=h.ok he
  exact⟨0,h1,.inr (.inr (.inl ⟨rfl,h2,hv,rfl,rfl⟩))⟩
theorem ExR.ok {l:List Ax} {S:List Str} {P:List Pc} {e:Int} (h:MpR l P e) (he:e=0) (hv:dE_ S=true):ExR l S (cV_ l (di_ l P S l.length)) 0:=by
  obtain⟨h1,h2,h3⟩:=h.ok he
  exact⟨0,h1,.inr (.inr (.inr ⟨rfl,h2,hv,rfl,by rw[h3]⟩))⟩
theorem nI_ {l:List Ax} {p:List Pc} {er:Int} (hl:l.length≤12) (h:ad_ l=(p,er)):p.length≤16384:=by
 have hg:∀ (l:List Ax) (i:Nat) (p q:List Pc),p.length≤16384→ex_ i l p=some q→q.length≤16384:=by
   intro l
   induction l with
   | nil=>intro i p q hp e;simp only[ex_,Option.some.injEq]at e;rw[← e];exact hp
   | cons x l ih =>
     intro i p q hp e
     simp only[ex_]at e
     split at e
     · cases e
     · rename_i hn;exact ih (i+1) _ _ (by omega) e
 unfold ad_ at h
 split at h
 ·cases h;simp
 split at h
 ·cases h;simp
 cases e:ex_ 0 l [] with
 | none=>rw[e]at h;cases h;simp
 | some q=>rw[e]at h;cases h;exact hg l 0 [] _ (by simp) e
def SmR (l m:List Ax) (b:Bool):Prop:=l=m→b=true
theorem nT_ (l:List Ax) (ad:Option Addr) (cap:Nat) (hok:∀ x∈l,x.ok) (hll:l.length≤12):Tri Tryz.prog 45 #[.agg #[.slice ad (List.length l) cap]] [] [aR_ ad l,bn_] (fun y:{y:Option Addr×Nat×List Pc×Int // MpR l y.2.2.1 y.2.2.2∧y.2.2.1.length≤16384}=>.tuple #[.slice y.1.1 y.1.2.2.1.length y.1.2.1,.int .i64 y.1.2.2.2]) (fun _=>[]) (fun y=>[ac_ y.1.1 (y.1.2.2.1.flatMap Pc.cells)]):=by
 refine j_ Tryz.func45 rfl rfl Tryz.ntmps45 rfl fun v0=>?_
 obtain⟨⟨p,er⟩,hPL⟩:∃ q,ad_ l=q:=⟨_,rfl⟩
 refine Zz 2 ?_
 refine N_ rfl rfl fun b1=>Zz 8 ?_
 refine d_ (gJ_ l ad cap hok (by omega)) rfl e_ zf rfl fun⟨e0,he0⟩=>?_
 dsimp only
 refine Zi 6 (fun hr1=>?_) fun hr1=>?_
 ·refine Zz 9 ?_
  refine d_ (rm_ l ad cap (by omega) hok hPL) rfl e_ zf rfl fun⟨⟨pad,pcap⟩,hpc1,hpc2,hpc3⟩=>?_
  dsimp only
  refine Zz 7 ?_
  exact fr_ Tryz.results45 ⟨(pad,pcap,p,er),⟨e0,he0,.inr ⟨by simpa using hr1,by rw[hPL],by rw[hPL]⟩⟩,nI_ hll hPL⟩ rfl rfl rfl e_ zf
 refine Zz 11 ?_
 exact fr_ Tryz.results45 ⟨(none,0,[],e0),⟨e0,he0,.inl ⟨by simpa using hr1,rfl,rfl⟩⟩,by simp⟩ rfl rfl rfl e_ (fun v _ h=>by exact⟨.inl rfl,trivial⟩)
theorem fG_ (l:List Ax) (ad:Option Addr) (cap:Nat) (hok:∀ x∈l,x.ok) (hll:l.length≤12) (S:List Str) (sad:Option Addr) (scap:Nat) (hS:S.length≤100000000) (hSl:∀ s∈S,s.length≤100000):Tri Tryz.prog 17 #[.agg #[.slice ad (List.length l) cap],.slice sad (List.length S) scap] [] [aR_ ad l,bn_,ac_ sad (List.flatMap aJ_ S)] (fun y:{y:Value×Hp×List Ax×Int // ar_ 48 16 y.1 y.2.2.1.length (y.2.2.1.flatMap Ax.cells) y.2.1∧ExR l S y.2.2.1 y.2.2.2}=>.tuple #[.agg #[y.1.1],.int .i64 y.1.2.2.2]) (fun y=>y.1.2.1) (fun _=>[]):=by
 refine j_ Tryz.func17 rfl rfl Tryz.ntmps17 rfl fun v0=>?_
 refine Zz 2 ?_
 refine N_ rfl rfl fun b1=>G_ cQ_ rfl fun b2=>Zz 6 ?_
 refine d_ (nT_ l ad cap hok hll) rfl e_ zf rfl fun⟨⟨pad,pcap,P,e1⟩,hMp,hPl⟩=>?_
 dsimp only
 try dsimp only at hMp hPl
 refine Zi 11 (fun hr1=>?_) fun hr1=>?_
 ·refine Zz 9 ?_
  refine af_ (pJ_ S sad scap hSl) rfl e_ zf rfl fun r2 hr2=>c_ (aG_ rfl) rfl (Zz 2 ?_)
  cases r2
  ·refine Zz 3 ?_
   refine c_ (A_ oI_ rfl rfl) rfl (n_ 0 bl_ rfl rfl rfl rfl rfl rfl (Zz 4 ?_))
   exact cr_ ⟨(.slice none 0 0,[],[],1),ar_.nil _ _,ExR.arg hMp (by simpa using hr1) (by simpa using hr2)⟩ (fun aa v h1 h2=>bg_ (us:=[.slice none 0 0]) 0 Tryz.results17 gE_ bl_ rfl rfl rfl rfl aa v h1 h2) e_ zt
  refine Zz 9 ?_
  refine d_ (sJ_ l ad cap P pad pcap S sad scap (by omega) (by omega) (by omega)) rfl e_ zf rfl fun⟨⟨svq,Hqq,Lq⟩,hrq,hLq⟩=>?_
  dsimp only
  dsimp only at hrq hLq ⊢
  subst hLq
  refine u_ (bm_ (an_ i_) (bO_ br_)) (n_ 0 bl_ rfl rfl rfl rfl rfl (by have q:=(db_ hrq).2;simp only[Value.cells,List.all_cons,List.all_nil,q,Bool.and_true]) ?_)
  refine Zz 4 ?_
  exact cr_ ⟨(svq,Hqq,(cV_ l (di_ l P S (List.length l))),0),hrq,ExR.ok hMp (by simpa using hr1) (by simpa using hr2)⟩ (fun aa v h1 h2=>bg_ (us:=[svq]) 0 Tryz.results17 gE_ bl_ rfl rfl rfl rfl aa v h1 h2) (l_ au_) zt
 refine Zz 5 ?_
 refine c_ (A_ oI_ rfl rfl) rfl (Zz 1 ?_)
 refine n_ 0 bl_ rfl rfl rfl rfl rfl rfl (Zz 4 ?_)
 exact cr_ ⟨(.slice none 0 0,[],[],e1),ar_.nil _ _,ExR.er hMp (by simpa using hr1)⟩ (fun aa v h1 h2=>bg_ (us:=[.slice none 0 0]) 0 Tryz.results17 gE_ bl_ rfl rfl rfl rfl aa v h1 h2) e_ zt
theorem qT_ (l:List Ax) (ad:Option Addr) (cap:Nat) (m:List Ax) (mad:Option Addr) (mcap:Nat) (hok:∀ x∈l,x.ok) (hokm:∀ x∈m,x.ok) (hz:∀ x∈l,x.left.sz≤1000∧x.right.sz≤1000) (hzm:∀ x∈m,x.left.sz≤1000∧x.right.sz≤1000) (hll:l.length≤1000000):Tri Tryz.prog 47 #[.slice ad (List.length l) cap,.slice mad (List.length m) mcap] [] [aR_ ad l,aR_ mad m] (fun y:{b:Bool // SmR l m b}=>.bool y.1) (fun _=>[]) (fun _=>[]):=by
 refine j_ Tryz.func47 rfl rfl Tryz.ntmps47 rfl fun v0=>?_
 refine Zi 12 (fun hr1=>?_) fun hr1=>?_
 ·refine Zz 12 ?_
  refine Y_ (ι:={y:Nat // y≤List.length l}) (fun y=>[(0,.slice ad (List.length l) cap),(1,.slice mad (List.length m) mcap),(4,.bool false),(5,.int .i64 (y.1:Int))]) (fun y=>([])) (fun y=>[aR_ ad l,aR_ mad m]) (fun y=>List.length l - y.1) ⟨(0:Nat),by simp⟩ zl e_ zh ?_
  rintro ⟨i,hi_i⟩
  dsimp only at hi_i ⊢
  refine Zi 6 (fun hr2=>?_) fun hr2=>?_
  ·refine Zz 11 ?_
   exact E_ Tryz.results47 ⟨true,fun _=>rfl⟩ rfl e_ zt
  obtain⟨hlx1,x1,hx1,hmx1⟩:=zge (show i<List.length l by omega)
  have hlw1:i<List.length m:=by omega
  obtain⟨w1,hw1⟩:∃ e0,m[i]? = some e0:=⟨_,List.getElem?_eq_getElem hlw1⟩
  have hmw1:w1∈m:=List.mem_of_getElem? hw1
  refine Zz 9 ?_
  refine Q_ 2 [0,1,2,3,4,5,6,7] zk zs (Zz 2 ?_)
  refine P_ rfl (C_ s_ f_ rfl rfl (fun v _ h=>q_ (n:=16) Ax.cells_len (by decide) (by exact h.1.1) hx1) (by omega) (by first|omega|(simp;done))) rfl ?_
  refine P_ rfl (L_ (ad:=ad) (us:=Ax.cells x1) K_ f_ rfl (fun v _ h=>by exact h.1.1) (Ax.cells_len _) (o_ Ax.cells_len hx1)) rfl (Zz 2 ?_)
  refine P_ rfl (C_ s_ f_ rfl rfl (fun v _ h=>q_ (n:=16) Ax.cells_len (by decide) (by exact h.2.1.1) hw1) (by omega) (by first|omega|(simp;done))) rfl ?_
  refine P_ rfl (L_ (ad:=mad) (us:=Ax.cells w1) K_ f_ rfl (fun v _ h=>by exact h.2.1.1) (Ax.cells_len _) (o_ Ax.cells_len hw1)) rfl (ba_ (p_ 8 rfl zk (af_ (li_ x1 w1 (hok x1 hmx1) (hokm w1 hmw1) (hz x1 hmx1).1 (hz x1 hmx1).2 (hzm w1 hmw1).1 (hzm w1 hmw1).2) rfl e_ (fun v _ h=>by exact⟨(h.1.2 x1 hmx1),(h.2.1.2 w1 hmw1),trivial⟩) rfl fun r3 hr3=>Zz 3 ?_)))
  refine Q_ 0 [9] zk zs (P_ rfl (aG_ rfl) rfl (Zz 3 ?_))
  cases r3
  ·refine Zz 7 ?_
   exact E_ Tryz.results47 ⟨false,fun q=>by subst q;rw[hx1]at hw1;cases hw1;rw[Ax.cmp_self]at hr3;simp at hr3⟩ rfl e_ zt
  refine Zz 9 ?_
  exact z_ ⟨i+1,hlx1⟩ (by dsimp only;omega) zl e_ zh
 refine Zz 9 ?_
 exact E_ Tryz.results47 ⟨false,fun q=>by subst q;exact absurd rfl (by omega)⟩ rfl e_ zt
theorem pR_ (l:List Ax) (ad:Option Addr) (cap:Nat) (m:List Ax) (mad:Option Addr) (mcap:Nat) (hok:∀ x∈l,x.ok) (hokm:∀ x∈m,x.ok) (hz:∀ x∈l,x.left.sz≤1000∧x.right.sz≤1000) (hzm:∀ x∈m,x.left.sz≤1000∧x.right.sz≤1000) (hll:l.length≤1000000):Tri Tryz.prog 18 #[.agg #[.slice ad (List.length l) cap],.agg #[.slice mad (List.length m) mcap]] [] [aR_ ad l,aR_ mad m] (fun y:{b:Bool // SmR l m b}=>.bool y.1) (fun _=>[]) (fun _=>[]):=by
  refine j_ Tryz.func18 rfl rfl Tryz.ntmps18 rfl fun v0=>?_
  refine Zz 2 ?_
  refine N_ rfl rfl fun b1=>N_ rfl rfl fun b2=>Zz 9 ?_
  refine d_ (qT_ l ad cap m mad mcap hok hokm hz hzm hll) rfl e_ zf rfl fun⟨bb,hbb⟩=>?_
  dsimp only
  refine Zz 4 ?_
  exact E_ Tryz.results18 ⟨bb,hbb⟩ rfl e_ zt
end Go.Proofs.YtamklbgaipakfaaGreatDoor
namespace Go.Proofs.YtamklbgaipakfaaGreatDoor
open Go Go.Sx Go.Proofs
attribute [local irreducible] Code.wp wpList wpAnyH
open Go.Vs
theorem lx_ {x y:Pc} {n:Int} (e:{ y with frm:=n }=x):ae_ y=ae_ x∧W_ y=W_ x:=by subst e;exact⟨rfl,rfl⟩
theorem up_ {p q:List Pc} {S:List Str} (hq:∀ x∈p,Usb p S x→∃ y∈q,∃ n,{ y with frm:=n }=x) {t:Thg} (h:Rch p S t):Rch q S t:=by
  induction h with
  | base h=>exact .base h
  | give hx hn ht ih =>
    obtain⟨y,hy,n,e⟩:=hq _ hx hn
    obtain⟨e1,e2⟩:=lx_ e
    exact .give hy (fun u hu=>ih u (e1▸hu)) (by rw[e2];exact ht)
theorem sz_ {p:List Pc} {S T:List Str} (hS:∀ s∈S,s∈T) {t:Thg} (h:Rch p S t):Rch p T t:=by
 induction h with
 | base h =>
   refine .base ?_
   simp only[cW_,List.mem_append,List.mem_map]at h ⊢
   rcases h with h|⟨s,hs,h⟩
   · exact .inl h
   · exact .inr ⟨s,hS s hs,h⟩
 | give hx hn ht ih=>exact .give hx ih ht
theorem sR_ {l:List Ax} {p:List Pc} {S T:List Str} (hS:∀ s∈S,s∈T) {i:Int} (h:Mat l p S i):Mat l p T i:=by
 rcases h with h|⟨x,hx,hf,hu⟩
 ·exact .inl h
 exact .inr ⟨x,hx,hf,fun u hv=>sz_ hS (hu u hv)⟩
theorem rn_ {l:List Ax} {p:List Pc} {S T:List Str} (hS:∀ s∈S,s∈T) {n:Nat} {a:Ax} (h:a∈cV_ l (di_ l p S n)):a∈cV_ l (di_ l p T n):=by
  obtain⟨i,hi,ha⟩:=fA_.1 h
  obtain⟨h1,h2⟩:=ib_.1 hi
  exact fA_.2 ⟨i,ib_.2 ⟨h1,sR_ hS h2⟩,ha⟩
theorem rA_ {l:List Ax} {S:List Str} (hl:l.length≤12) (hok:∀ x∈l,x.ok) (hc:∀ x∈l,x.check=0) {m:List Ax} (hm:m=cV_ l (di_ l (fF_ 0 l) S l.length)) {k:Nat} (hk:k<m.length):Mat m (fF_ 0 m) S k:=by
 have hsub:=ph_ (S:=S) hl hok hc
 rw[← hm]at hsub
 obtain⟨a,ha⟩:∃ a,m[k]? = some a:=⟨_,List.getElem?_eq_getElem hk⟩
 have hml:m.length≤12:=by rw[hm];exact Nat.le_trans (List.length_filterMap_le _ _) (Nat.le_trans (fC_ _) hl)
 have ham:a∈cV_ l (di_ l (fF_ 0 l) S l.length):=hm▸List.mem_of_getElem? ha
 obtain⟨i,hi,hla⟩:=fA_.1 ham
 have hal:=List.mem_of_getElem? hla
 rcases (ib_.1 hi).2 with⟨b,hb,hr⟩|⟨x,hx,hf,hu⟩
 ·rw[hla]at hb;cases hb
  exact .inl ⟨a,by simpa using ha,hr⟩
 obtain⟨j,c,h1,h2⟩:=gF_.1 hx
 rw[Nat.zero_add]at h2
 have hj:=(List.getElem?_eq_some_iff.1 h1).1
 have hcl:=List.mem_of_getElem? h1
 have hf2:x.frm=j:=(Ax.pieces_all (f:=(j:Int)) (by omega) (by omega) (hok c hcl) (hc c hcl) x h2).frm
 have e:i.toNat=j:=by omega
 rw[e,h1]at hla
 cases hla
 obtain⟨y,hy,n,e3⟩:=iY_ ((0+k:Nat):Int) h2
 have hyf:y.frm=((0+k:Nat):Int):=(Ax.pieces_all (f:=((0+k:Nat):Int)) (by omega) (by omega) (hok a hal) (hc a hal) y hy).frm
 obtain⟨e1,_⟩:=lx_ e3
 exact .inr ⟨y,gF_.2 ⟨k,a,ha,hy⟩,by rw[hyf,Nat.zero_add],fun u hv=>up_ hsub (hu u (e1▸hv))⟩
theorem nJ_ {m:List Ax} {p:List Pc} {S:List Str} (h:∀ k,k<m.length→Mat m p S k):∀ k,k≤m.length→cV_ m (di_ m p S k)=m.take k
  | 0,_=>by rw[iE_];rfl
  | k+1,hk=>by
    obtain⟨a,ha⟩:∃ a,m[k]? = some a:=⟨_,List.getElem?_eq_getElem (by omega)⟩
    rw[fB_ (h k (by omega)),ev_ (a:=a) (by simpa using ha),nJ_ h k (by omega),take_snoc ha]
theorem ke_ {l:List Ax} {p:List Pc} {S:List Str}:∀ k,k≤l.length→(cV_ l (di_ l p S k)).Sublist (l.take k)
 | 0,_=>by rw[iE_];exact List.Sublist.refl _
 | k+1,hk=>by
   obtain⟨a,ha⟩:∃ a,l[k]? = some a:=⟨_,List.getElem?_eq_getElem (by omega)⟩
   rw[take_snoc ha]
   by_cases h:Mat l p S k
   · rw[fB_ h,ev_ (a:=a) (by simpa using ha)]
     exact (ke_ k (by omega)).append (List.Sublist.refl _)
   · rw[qc_ h]
     exact (ke_ k (by omega)).trans (List.sublist_append_left _ _)
theorem srt_lt {l:List Ax} (h:hF_ l):l.Pairwise fun x y=>Ax.cmp x y<0:=by
  rw[List.pairwise_iff_getElem]
  intro i j hi hj hij
  have key:∀ (d:Nat) (i:Nat) (hi:i<l.length) (hj:i+d+1<l.length),Ax.cmp l[i] l[i+d+1]<0:=by
    intro d
    induction d with
    | zero=>intro i hi hj;have:=h i l[i] l[i+1] (List.getElem?_eq_getElem hi) (List.getElem?_eq_getElem hj);show Ax.cmp l[i] l[i+0+1]<0;simp only[Nat.add_zero];omega
    | succ d ih =>
      intro i hi hj
      have h1:=ih i hi (by omega)
      have h2:=h (i+d+1) l[i+d+1] l[i+(d+1)+1] (List.getElem?_eq_getElem (by omega)) (by rw[List.getElem?_eq_getElem (by omega)];rfl)
      exact Ax.cmp_lt h1 (by omega)
  have:=key (j - i - 1) i hi (by omega)
  simpa [show i+(j - i - 1)+1=j by omega] using this
theorem srt_of {l:List Ax} (h:l.Pairwise fun x y=>Ax.cmp x y<0):hF_ l:=fun i x y hx hy=>by
  obtain⟨h1,rfl⟩:=List.getElem?_eq_some_iff.1 hx
  obtain⟨h2,rfl⟩:=List.getElem?_eq_some_iff.1 hy
  exact Ax.cmp_m1.2 (List.pairwise_iff_getElem.1 h i (i+1) h1 h2 (by omega))
theorem kG_ {l:List Ax} (h:BCk l 0):axE l=0∧hF_ l∧l.length≤1024∧(∀ x∈l,¬ kL_ x)∧RlR l 0:=by
 rcases h with⟨h1,h2⟩|⟨_,_,h3⟩|⟨_,_,_,h4⟩|⟨_,_,_,_,h5⟩|h
 ·exact absurd h2.symm h1
 ·omega
 ·omega
 ·omega
 exact h
theorem uT_ {l m:List Ax} (h:BCk l 0) (hs:m.Sublist l):BCk m 0:=by
  obtain⟨h1,h2,h3,h4,h5⟩:=kG_ h
  refine .inr (.inr (.inr (.inr ⟨fJ_.2 fun z hz=>fJ_.1 h1 z (hs.subset hz),srt_of ((srt_lt h2).sublist hs),Nat.le_trans hs.length_le h3,fun x hx=>h4 x (hs.subset hx),h5.sub fun x hx=>hs.subset hx⟩)))
theorem qm_ {l:List Ax} {x:Ax} (hx:x∈l) (h:fP_ x=0):FiB l x:=by
  obtain⟨h1,h2⟩:=iw_.1 h
  exact⟨h1,x,⟨rfl,rfl,rfl,rfl,rfl,rfl,h2.1,h2.2⟩,x,hx,rfl,rfl,rfl,rfl,rfl,rfl,rfl⟩
theorem oB_ {S:List Str} {n:Nat} (h:dE_ S=true):dE_ (S.take n)=true:=by
  unfold dE_ at h ⊢
  rw[Bool.and_eq_true,decide_eq_true_eq,List.all_eq_true]at h ⊢
  exact⟨Nat.le_trans (List.length_take_le' _ _) h.1,fun s hs=>h.2 s (List.mem_of_mem_take hs)⟩
theorem qn_ {l X:List Ax} {S:List Str} {e:Int} (h:ExR l S X e) (he:e=0):BCk l 0∧(ad_ l).2=0∧dE_ S=true∧X=cV_ l (di_ l (ad_ l).1 S l.length):=by
 obtain⟨e0,h0,h|h|h|h⟩:=h
 ·exact absurd (h.2.1.symm.trans he) h.1
 ·exact absurd (h.2.2.1.symm.trans he) h.2.1
 ·have:=h.2.2.2.1.symm.trans he;omega
 exact⟨h.1▸h0,h.2.1,h.2.2.1,h.2.2.2.2⟩
theorem ex_er {l X:List Ax} {S:List Str} {e:Int} (h:ExR l S X e) (he:e≠0):X=[]:=by
 obtain⟨e0,h0,h|h|h|h⟩:=h
 ·exact h.2.2
 ·exact h.2.2.2
 ·exact h.2.2.2.2
 exact absurd h.2.2.2.1 he
theorem vi_ {l X:List Ax} {S:List Str} {e:Int} (h:ExR l S X e) (hb:BCk l 0) (hp:(ad_ l).2=0) (hv:dE_ S=true):e=0∧X=cV_ l (di_ l (ad_ l).1 S l.length):=by
 obtain⟨e0,h0,h|h|h|h⟩:=h
 ·exact absurd (h0.uniq hb) h.1
 ·exact absurd hp h.2.1
 ·have:=h.2.2.1;rw[hv]at this;cases this
 exact h.2.2.2
theorem ExR.sub {l X:List Ax} {S:List Str} {e:Int} (h:ExR l S X e):∀ x∈X,x∈l:=by
 obtain⟨e0,h0,h|h|h|h⟩:=h
 ·rw[h.2.2];simp
 ·rw[h.2.2.2];simp
 ·rw[h.2.2.2.2];simp
 rw[h.2.2.2.2]
 intro x hx
 obtain⟨i,_,hi⟩:=fA_.1 hx
 exact List.mem_of_getElem? hi
theorem ExR.len {l X:List Ax} {S:List Str} {e:Int} (h:ExR l S X e):X.length≤l.length:=by
 obtain⟨e0,h0,h|h|h|h⟩:=h
 ·rw[h.2.2];simp
 ·rw[h.2.2.2];simp
 ·rw[h.2.2.2.2];simp
 rw[h.2.2.2.2];exact Nat.le_trans (List.length_filterMap_le _ _) (fC_ _)
theorem pQ_ {l X Y Z:List Ax} {S:List Str} {n:Nat} {e f g:Int} (hl:l.length≤12) (hok:∀ x∈l,x.ok) (hX:ExR l S X e) (he:e=0) (hY:ExR l (S.take n) Y f) (hZ:ExR X S Z g) :
    f=0∧g=0∧BCk X 0∧Z=X∧(∀ x∈Y,FiB X x)∧∀ x∈X,FiB l x:=by
  obtain⟨h1,h2,h3,h4⟩:=qn_ hX he
  have hE:=(kG_ h1).1
  have hc:=iR_ hE
  have hp:ad_ l=(fF_ 0 l,0):=kd_ (by omega) hc
  rw[hp]at h4
  dsimp only at h4
  have hs:X.Sublist l:=by have:=ke_ (l:=l) (p:=fF_ 0 l) (S:=S) l.length (Nat.le_refl _);rw[List.take_length]at this;rw[h4];exact this
  have hbX:=uT_ h1 hs
  have hXl:X.length≤12:=Nat.le_trans hs.length_le hl
  have hcX:∀ x∈X,x.check=0:=fun x hx=>hc x (hs.subset hx)
  have hpX:ad_ X=(fF_ 0 X,0):=kd_ (by omega) hcX
  obtain⟨f0,hY2⟩:=vi_ hY h1 h2 (oB_ h3)
  obtain⟨g0,hZ2⟩:=vi_ hZ hbX (by rw[hpX]) h3
  rw[hp]at hY2
  rw[hpX]at hZ2
  dsimp only at hY2 hZ2
  have hZX:Z=X:=by
    rw[hZ2,nJ_ (fun k hk=>rA_ hl hok hc h4 hk) X.length (Nat.le_refl _),List.take_length]
  have hEl:=fJ_.1 hE
  refine⟨f0,g0,hbX,hZX,fun x hx=>?_,fun x hx=>qm_ (hs.subset hx) (hEl x (hs.subset hx))⟩
  have hxX:x∈X:=by rw[h4];rw[hY2]at hx;exact rn_ (fun s hs=>List.mem_of_mem_take hs) hx
  exact qm_ hxX (hEl x (hs.subset hxX))
end Go.Proofs.YtamklbgaipakfaaGreatDoor
