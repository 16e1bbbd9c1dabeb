/-
  Lemmas for the law ModuleExtracts (no condition).
-/
import Derived.Test.YtbffkokbdeppaaaGreatDoorQModuleExtracts17
import Derived.Test.YtbffkokbdeppaaaGreatDoorRows
import Derived.Test.YtbffkokbdeppaaaGreatDoorProg
set_option linter.unusedVariables false
set_option linter.unusedSimpArgs false
set_option linter.unusedSectionVars false
set_option maxHeartbeats 1000000
namespace Go.Proofs.YtbffkokbdeppaaaGreatDoor
open Go Go.Sx Go.Proofs Tryz
attribute [local irreducible] Code.wp wpList wpAnyH
open Go.Vs
set_option maxHeartbeats 1000000 in
theorem moduleExtracts_c (d1:Tri prog 6 #[] [] [cy_] (λ_:Unit=>.bool true) (λ_=>[]) (λ_=>[])) (M:List Ax) (lad:Ao) (lcap:Nat) (Y:M.length<=lcap/\lcap<=2199023255488) (y:∀ x∈M,x.ok) (S:List Str) (sad:Ao) (Z:Nat) (g5:S.length<=8796093021952) (g4:∀ s∈S,s.length<=140737488351232) (x:Ax) (a8:x.ok):Tri prog 3 #[.agg #[.slice lad M.length lcap],.slice sad S.length Z,Ax.val x] [] [bA_ lad M,O_ sad (S.flatMap V_),Ax.memF x,cy_] (λ_:Unit=>.bool true) (λ_=>[]) (λ_=>[]):=by
 refine l_ func3 rfl rfl ntmps3 rfl λi4=>?_;refine Zz 2 ?_;refine Q_ rfl rfl λi2=>Q_ rfl rfl λb_2=>Zz 6 ?_
 refine d_ (d1) rfl e_ zf rfl λ_=>c_ (aI_ rfl) rfl (Zz 10 ?_)
 refine d_ (Cw_ M lad lcap Y y) rfl e_ zf rfl λ⟨fb,h6⟩=>?_;dsimp only;refine c_ (aI_ rfl) rfl (Zz 1 ?_);cases fb
 .refine Zz 18 ?_
  exact W_ results3 () rfl e_ zt
 obtain⟨a0,A⟩:=h6 rfl;refine Zz 3 ?_;refine d_ (xu_ S sad Z g5 g4) rfl e_ zf rfl λ⟨sb,h1⟩=>?_;dsimp only;refine as_ rfl rfl (c_ (aI_ rfl) rfl (Zz 2 ?_));cases sb
 .refine Zz 13 ?_
  exact W_ results3 () rfl e_ zt
 obtain⟨i0,d6⟩:=h1 rfl;have a4:∀ s∈S,s.length<=100000:=λs hs=>by have:=d6 s hs;omega
 refine Zz 3 ?_;refine d_ (oo_ x a8) rfl e_ zf rfl λ⟨xb,h2⟩=>?_;dsimp only;refine as_ rfl rfl (c_ (aI_ rfl) rfl (Zz 3 ?_));cases xb
 .refine Zz 7 ?_
  exact W_ results3 () rfl e_ zt
 have d8:=h2 rfl;refine Zz 7 ?_;refine d_ (yu_ M lad lcap y a0 S sad Z zaa_ a4) rfl e_ zf rfl λ⟨⟨h7,g2,u,e_1⟩,b0,L⟩=>?_;dsimp only;try dsimp only at b0 L
 refine I_ b0 ag_ λd b4 d2 e6 f8 f7=>?_;subst d2;have B:=ExR.sub L;have d9:=ExR.len L;refine fC_ (Γ':=bA_ d u::[O_ d (u.flatMap Ax.cells),bA_ lad M,O_ sad (S.flatMap V_),Ax.memF x,cy_]) (λv _ h=>⟨⟨h.1,λx e=>(h.2.1).2 x (B x e)⟩,h⟩) ?_;refine Zz 3 ?_;refine K_ cE_ rfl λb_3=>o_ 0 ap_ rfl rfl rfl rfl rfl rfl (Zz 7 ?_)
 refine d_ (uk_ M lad lcap Y y a0 A (ml_ A) S sad Z zaa_ a4) rfl e_ zf rfl λ⟨⟨g9,h8,H,f_1⟩,a7,T⟩=>?_;dsimp only;try dsimp only at a7 T
 refine I_ a7 ag_ λk d3 b6 f0 e7 e8=>?_;subst b6;have J:=ExR.sub T;refine fC_ (Γ':=bA_ k H::[O_ k (H.flatMap Ax.cells),bA_ d u,O_ d (u.flatMap Ax.cells),bA_ lad M,O_ sad (S.flatMap V_),Ax.memF x,cy_]) (λv _ h=>⟨⟨h.1,λx e=>(h.2.2.2.1).2 x (J x e)⟩,h⟩) ?_;obtain⟨c9,b8⟩:=L.uniq T;refine Zz 3 ?_;refine K_ cE_ rfl λb_4=>o_ 0 ap_ rfl rfl rfl rfl rfl rfl (Zi 8 (λb2=>?_) λb2=>?_)
 .refine Zz 6 ?_
  refine d_ (rW_ u d b4 H k d3 (λx e=>y x (B x e)) (λx e=>y x (J x e)) (λx e=>ml_ A x (B x e)) (λx e=>ml_ A x (J x e)) zaa_) rfl e_ zf rfl λ⟨e3,c6⟩=>?_;dsimp only;refine as_ rfl rfl (c_ (aI_ rfl) rfl (Zz 3 ?_));cases e3
  .exact absurd (c6 c9) zak_
  refine Zz 7 ?_;refine d_ (wB_ M lad lcap y a0 x a8 (Ax.goalP x).1 (Ax.goalP x).2.1 (Ax.goalP x).2.2 (Av_ a8 rfl) (by have:=(rs_ a8).1;omega)) rfl e_ zf rfl λ⟨⟨g8,h4,K,i3⟩,a6,P⟩=>?_;dsimp only;try dsimp only at a6 P
  refine I_ a6 ag_ λo c2 c4 e9 f6 g1=>?_;subst c4;obtain⟨C,e2⟩:=OfR.subl P;refine fC_ (Γ':=bA_ o K::[O_ o (K.flatMap Ax.cells),bA_ k H,O_ k (H.flatMap Ax.cells),bA_ d u,O_ d (u.flatMap Ax.cells),bA_ lad M,O_ sad (S.flatMap V_),Ax.memF x,cy_]) (λv _ h=>⟨⟨h.1,λx e=>(h.2.2.2.2.2.1).2 x (C x e)⟩,h⟩) ?_;refine Zz 3 ?_;refine o_ 1 ap_ rfl rfl rfl rfl rfl rfl (Zz 7 ?_);refine d_ (of15_c M lad lcap Y y a0 A (ml_ A) x a8 (by have:=d8.left;omega) (by have:=d8.right;omega)) rfl e_ zf rfl λ⟨⟨h3,h5,R,f_2⟩,a5,X⟩=>?_;dsimp only;try dsimp only at a5 X
  refine I_ a5 ag_ λG c8 c1 f1 f2 e4=>?_;subst c1;obtain⟨F,d7⟩:=OfR.subl X;refine fC_ (Γ':=bA_ G R::[O_ G (R.flatMap Ax.cells),bA_ o K,O_ o (K.flatMap Ax.cells),bA_ k H,O_ k (H.flatMap Ax.cells),bA_ d u,O_ d (u.flatMap Ax.cells),bA_ lad M,O_ sad (S.flatMap V_),Ax.memF x,cy_]) (λv _ h=>⟨⟨h.1,λx e=>(h.2.2.2.2.2.2.2.1).2 x (F x e)⟩,h⟩) ?_;obtain⟨b5,d4⟩:=P.uniq X;refine Zz 3 ?_;refine o_ 0 ap_ rfl rfl rfl rfl rfl rfl (Zi 8 (λb3=>?_) λb3=>?_)
  .refine Zz 6 ?_
   refine d_ (rW_ K o c2 R G c8 (λx e=>y x (C x e)) (λx e=>y x (F x e)) (λx e=>ml_ A x (C x e)) (λx e=>ml_ A x (F x e)) zaa_) rfl e_ zf rfl λ⟨e1,b7⟩=>?_;dsimp only;refine as_ rfl rfl (c_ (aI_ rfl) rfl (Zz 3 ?_));cases e1
   .exact absurd (b7 b5) zak_
   refine Zz 6 ?_;refine d_ (qo_ M lad lcap y a0) rfl e_ zf rfl λ⟨⟨g6,h0,a1,i1⟩,a9,V⟩=>?_;dsimp only;try dsimp only at a9 V
   refine I_ a9 ag_ λO c0 c3 g0 f9 f5=>?_;subst c3;obtain⟨E,d5⟩:=IdR.subl V;refine fC_ (Γ':=bA_ O a1::[O_ O (a1.flatMap Ax.cells),bA_ G R,O_ G (R.flatMap Ax.cells),bA_ o K,O_ o (K.flatMap Ax.cells),bA_ k H,O_ k (H.flatMap Ax.cells),bA_ d u,O_ d (u.flatMap Ax.cells),bA_ lad M,O_ sad (S.flatMap V_),Ax.memF x,cy_]) (λv _ h=>⟨⟨h.1,λx e=>(h.2.2.2.2.2.2.2.2.2.1).2 x (E x e)⟩,h⟩) ?_;refine Zz 3 ?_;refine o_ 1 ap_ rfl rfl rfl rfl rfl rfl (Zz 6 ?_);refine d_ (oy_ M lad lcap Y y a0 A (ml_ A)) rfl e_ zf rfl λ⟨⟨g7,g3,b9,f_3⟩,a2,U⟩=>?_;dsimp only;try dsimp only at a2 U
   refine I_ a2 ag_ λa3 d0 c7 e5 f4 f3=>?_;subst c7;obtain⟨I,e0⟩:=IdR.subl U;refine fC_ (Γ':=bA_ a3 b9::[O_ a3 (b9.flatMap Ax.cells),bA_ O a1,O_ O (a1.flatMap Ax.cells),bA_ G R,O_ G (R.flatMap Ax.cells),bA_ o K,O_ o (K.flatMap Ax.cells),bA_ k H,O_ k (H.flatMap Ax.cells),bA_ d u,O_ d (u.flatMap Ax.cells),bA_ lad M,O_ sad (S.flatMap V_),Ax.memF x,cy_]) (λv _ h=>⟨⟨h.1,λx e=>(h.2.2.2.2.2.2.2.2.2.2.2.1).2 x (I x e)⟩,h⟩) ?_;obtain⟨Q,c5⟩:=V.uniq U;refine Zz 3 ?_;refine o_ 0 ap_ rfl rfl rfl rfl rfl rfl (Zi 7 (λb1=>?_) λb1=>?_)
   .exact absurd c5 b1
   refine Zz 6 ?_;refine d_ (rW_ a1 O c0 b9 a3 d0 (λx e=>y x (E x e)) (λx e=>y x (I x e)) (λx e=>ml_ A x (E x e)) (λx e=>ml_ A x (I x e)) zaa_) rfl e_ zf rfl λ⟨h9,W⟩=>?_;dsimp only;refine Zz 5 ?_;exact W_ results3 () (n_ rfl (by first|exact W Q|exact (W Q).symm|simp[W Q])) e_ zt
  exact absurd d4 b3
 exact absurd b8 b2
end Go.Proofs.YtbffkokbdeppaaaGreatDoor
namespace Go.Proofs.YtbffkokbdeppaaaGreatDoor
open Go Go.Sx Go.Proofs Tryz
attribute [local irreducible] Code.wp wpList wpAnyH
open Go.Vs Go.ChangeShapes Go.WideShapes Go.ChangeAt Go.RowKit
theorem own:ownKnob Tryz.prog.godebug=none:=by kernel_rfl
def jI_ : List (String × DataW Unit) := [("math/bits.deBruijn32tab", Rows.laid_math_bits_deBruijn32tab), ("math/bits.deBruijn64tab", Rows.laid_math_bits_deBruijn64tab), ("internal/strconv.uint64pow10", Rows.laid_internal_strconv_uint64pow10), ("veilstone/terms.needs", Rows.laid_veilstone_terms_needs), ("veilstone/terms.uses", Rows.laid_veilstone_terms_uses)]
theorem Ch_:Kids prog (·<Tryz.prog.types.size):=kids_rows zam_ zam_
theorem full:∀ t e,t<Tryz.prog.types.size->Tryz.prog.underlying t=some (.slice e)->0<Tryz.prog.cellsOf e:=slices_full_of _ zam_
theorem nTypes:Tryz.prog.types.size=454:=by kernel_rfl
theorem tysX:Tys prog 3 4 9 25 28 26 30 22 80 69 where
  i:=F_
  b:=kR_
  s:=cW_
  ss:=jq_
  c:=⟨_,underlying28,rfl⟩
  cs:=underlying26
  a:=⟨_,underlying30,rfl⟩
  axs:=underlying22
  p:=⟨_,jp_,rfl⟩
  ps:=underlying69
  ci:=by kernel_rfl
  cb:=by kernel_rfl
  cs1:=by kernel_rfl
  css:=by kernel_rfl
  cc:=by kernel_rfl
  ccs:=by kernel_rfl
  ca:=by kernel_rfl
  cp:=by kernel_rfl
  bs:=by kernel_rfl
  bc:=by kernel_rfl
  ba:=by kernel_rfl
  bp:=by kernel_rfl
theorem os_ {W:World} (h:laidMetH prog jI_ W):∃ T fz,W.heap[1]? = some (.cells (gs_ (H:=Unit) Rows.laid_veilstone_terms_needs).toArray T fz):=by
  rw[MakeChecks.laidMetH_plain _ _ _ zk]at h;exact pa_ Ch_ (name := "veilstone/terms.needs") h (by simp [jI_]) (g := 1) (t := 315) zk zk (by simp_all) (m := 4) zk
theorem pb_ {W:World} (h:laidMetH prog jI_ W):∃ T fz,W.heap[0]? = some (.cells (gs_ (H:=Unit) Rows.laid_veilstone_terms_uses).toArray T fz):=by
  rw[MakeChecks.laidMetH_plain _ _ _ zk]at h;exact pa_ Ch_ (name := "veilstone/terms.uses") h (by simp [jI_]) (g := 0) (t := 91) zk zk (by simp_all) (m := 4) zk
theorem hF_ {W:World} (h:laidMetH prog jI_ W):∃ T fz,W.heap[6]? = some (.cells (gs_ (H:=Unit) Rows.laid_internal_strconv_uint64pow10).toArray T fz):=by
  rw[MakeChecks.laidMetH_plain _ _ _ zk]at h;exact pa_ Ch_ (name := "internal/strconv.uint64pow10") h (by grind[jI_]) (g := 6) (t := 437) zk zk (by simp_all) (m := 4) zk
theorem wh_ {W:World} {g:Nat} {l:List Value} {d:List Value} (h:∃ T fz,W.heap[g]? = some (.cells l.toArray T fz)) (e:l=d):bW_ (vw W) (some ⟨g,0,none⟩) d:=by
  obtain⟨T,fz,h⟩:=h;subst e;exact .inr ⟨g,0,_,T,fz,rfl,(yaC_.1 h).1,h,λj x k=>by grind⟩
theorem Bv_ {W:World} (h:laidMetH prog jI_ W):cy_.p (vw W):=by
  refine⟨wh_ (os_ h) zk,wh_ (pb_ h) zk,trivial,?_⟩;obtain⟨T,fz,d⟩:=hF_ h;refine⟨trivial,(yaC_.1 d).1,T,fz,?_⟩;rw[show (Lib.pow10Tab.map λz=>Value.int .u64 z)=gs_ (H:=Unit) Rows.laid_internal_strconv_uint64pow10 by kernel_rfl];exact d
end Go.Proofs.YtbffkokbdeppaaaGreatDoor
namespace Go.Proofs.YtbffkokbdeppaaaGreatDoor
open Go Go.Sx Go.Proofs Tryz
attribute [local irreducible] Code.wp wpList wpAnyH
open Go.Vs Go.ChangeShapes Go.WideShapes Go.ChangeAt Go.RowKit
structure TysB (P:Program) (tAs tQ:TypeId):Prop where
  q:∃ fs,P.underlying tQ=some (.struct fs)/\fs.toList.map (λf=>(f.type,f.offset))=[(tAs,0)]
  cas:P.cellsOf tAs=1
  cq:P.cellsOf tQ=1
section
variable {H:Type} {enc:TypeId×Value->H} {P:Program} {W:World} {tI tB tS tSs tC tCs tA tAs tP tPs tQ:TypeId} (X:Tys P tI tB tS tSs tC tCs tA tAs tP tPs) (Y:TysB P tAs tQ) {base:Nat} {v:Value} {d:DataW H} {ps:List MemPlace}
include X Y
theorem AZ_ (e:Value.okWide P W .any base tQ v) (h:DataW.Trod enc P W 0 (λ_=>true) true tQ v d ps) (x:wok (d.weights P tQ)) :
    ∃ (l:List Ax) (ad:Ao) (cap:Nat),v=.agg #[.slice ad l.length cap]/\(bA_ ad l).p (vw W)/\(∀ y∈l,y.ok)/\l.length<=cap/\cap<=2199023255488:=by
  obtain⟨J,C,I⟩:=Y.q;unfold Value.okWide at e;rw[C]at e;obtain⟨cs,rfl,_⟩:=e;obtain⟨n,F⟩:=h;simp only[Value.cells]at F;obtain⟨xs,m,E,K,hl,u,G,A⟩:=fields_of C I F;rw[A]at x
  match xs,u with
  | [x0],_ =>
  simp only[yaE_,ybz_,DataW.weightsEach,fO_]at x;have o:=G 0 _ rfl;simp only[ybq_,Y.cas]at o;obtain⟨l,ad,cap,k,B⟩:=axs_of X o x.1;rw[Y.cq]at hl;refine⟨l,ad,cap,?_,B⟩;rw[ycF_,yac_ zaa_]at k;rw[<-k]
end
theorem tysB:TysB prog 22 24 where
  q:=⟨_,underlying24,rfl⟩
  cas:=by kernel_rfl
  cq:=by kernel_rfl
end Go.Proofs.YtbffkokbdeppaaaGreatDoor
