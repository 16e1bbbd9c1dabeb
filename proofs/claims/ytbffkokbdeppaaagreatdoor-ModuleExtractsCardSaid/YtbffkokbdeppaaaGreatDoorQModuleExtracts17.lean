/-
  Lemmas for the law ModuleExtracts (no condition).
-/
import Derived.Test.YtbffkokbdeppaaaGreatDoorQModuleExtracts16
set_option linter.unusedVariables false
set_option linter.unusedSimpArgs false
set_option linter.unusedSectionVars false
set_option maxHeartbeats 1000000
namespace Go.Proofs.YtbffkokbdeppaaaGreatDoor
open Go Go.Sx Go.Proofs Tryz
attribute [local irreducible] Code.wp wpList wpAnyH
open Go.Vs
theorem bz_ {c:Con} (h:c.check=0):c.operandN=c.operand:=by grind[Con.operandN,Con.operand,Con.textN]
theorem px_ (c:Con):c.operand.length<=c.text.length+2:=by grind[Con.operand]
theorem cb_ (a b:Str):(cp_ a b).length=2:=rfl
theorem cc_ {x:Ax} (d:x.check=0) (h:¬ (x.kind=5\/x.kind=6\/x.kind=7)) {J:List Pc} (e:x.rgoal=J):fj_ (-1) [] J=x.goalP.1:=by
  rw[<-e,(gW_ x d h (Ax.good_of d).k1 (Ax.good_of d).k9).1]
theorem wK_ {x:Ax} (d:x.check=0) (e:x.kind=5\/x.kind=6\/x.kind=7):x.goalP=([],[],22):=by
  grind[Ax.goalP]
theorem eK_ (a b:Str):Tri prog 99 #[str a,str b] [] [] (λc:Nat=>.slice (some ⟨c,0,none⟩) 2 2) (λ_=>[]) (λc=>[O_ (some ⟨c,0,none⟩) (List.flatMap Pc.cells (cp_ a b))]):=by
  refine l_ func99 rfl rfl ntmps99 rfl λe=>?_;refine Zz 8 ?_;refine c_ (x_ ct_ rfl rfl) rfl (Zz 1 ?_);refine c_ (x_ ct_ rfl rfl) rfl (p_ u_ ab_ N_ rfl rfl rfl rfl rfl rfl λd=>?_);refine R_ (List.flatMap Pc.cells [(Pc.mk 1 a [] [42] [] [] [] 0 0 0),(Pc.mk 1 b [] [42] [] [] [] 0 0 0)]) f_ rfl ?_;refine Zz 4 ?_;exact W_ results99 d rfl e_ zf
theorem lx_ {G:Prop} (h:G:=by
 exact hJ_ jA_ ⟨(T,U,.slice (some ⟨A,0,none⟩) 2 2),u⟩ rfl rfl rfl (by rw[(gW_ x M zaa_ Q P).2]) e_ zf):G:=h
theorem ly_ {G:Prop} (h:G:=by
 exact hJ_ jA_ ⟨(T,U,.slice (some ⟨a1,0,none⟩) 1 1),u⟩ rfl rfl rfl (by rw[(gW_ x M zaa_ Q P).2]) e_ zf):G:=h
theorem ic_ {G:Prop} (h:G:=by
 dsimp only;refine Zz 3 ?_;refine C_ 0 [17,18,19] zk zs (Zz 7 ?_);exact fm_):G:=h
theorem lz_ {G:Prop} (h:G:=by
 refine j_ 18 rfl zk (p_ M_ ar_ ad_ rfl rfl rfl rfl rfl rfl λA=>Zz 3 ?_);refine C_ 0 [20,21] zk zs (Zz 6 ?_);exact fm_):G:=h
theorem lA_ {G:Prop} (h:G:=by
 exact hJ_ jA_ ⟨(none,0,.slice none 0 0),by rw[c1];simp[maxLen]⟩ rfl rfl rfl (by dsimp only;rw[c1];rfl) e_ (λv _ h=>by exact⟨by dsimp only;rw[c1];exact .inl rfl,trivial⟩)):G:=h
theorem lB_ {G:Prop} (h:G:=by
 refine j_ 4 rfl zk (d_ (jB_ (((([60]++(Con.operand x.left))++[32,97,110,100,32])++(Con.operand x.right))++[62]) (Con.nameR x.left)) rfl e_ zt rfl λa6=>Zz 3 ?_);exact nN_):G:=h
theorem lC_ {G:Prop} (h:G:=by
 refine j_ 10 rfl zk (d_ (jB_ (((([60]++(Con.operand x.left))++[32,97,110,100,32])++(Con.operand x.right))++[62]) (Con.nameR x.right)) rfl e_ zt rfl λZ=>Zz 3 ?_);exact lJ_):G:=h
theorem gw_ {G:Prop} (h:G:=by
 dsimp only;refine Zz 3 ?_;refine C_ 0 [17,18,19] zk zs (Zz 7 ?_);exact jf_):G:=h
theorem lD_ {G:Prop} (h:G:=by
 refine j_ 5 rfl zk (d_ (ds_ _ x.left (yab_ _) H.left (G.left zaa_)) rfl e_ (λv _ h=>by exact⟨h.2.1.1,trivial⟩) rfl λ⟨⟨V,W⟩,F⟩=>?_);dsimp only;refine I_ F ag_ λe d o L O K=>?_;subst o;refine Zz 3 ?_;exact lH_):G:=h
theorem lE_ {G:Prop} (h:G:=by
 refine j_ 5 rfl zk (d_ (ds_ _ x.left (yab_ _) H.left (G.left zaa_)) rfl e_ (λv _ h=>by exact⟨h.2.1.1,trivial⟩) rfl λ⟨⟨V,W⟩,F⟩=>?_);dsimp only;refine I_ F ag_ λe d o L O K=>?_;subst o;refine Zz 3 ?_;exact lI_):G:=h
theorem lF_ {G:Prop} (h:G:=by
 refine j_ 10 rfl zk (d_ (cR_ _ x.right (yab_ _) H.right (G.right zaa_)) rfl e_ (λv _ h=>by exact⟨h.2.2.1.2.1,trivial⟩) rfl λ⟨⟨V,W⟩,F⟩=>?_);dsimp only;refine I_ F ag_ λe d o L O K=>?_;subst o;refine Zz 3 ?_;exact nP_):G:=h
theorem lG_ {G:Prop} (h:G:=by
 refine j_ 14 rfl zk (d_ (cR_ _ x.left (yab_ _) H.left (G.left zaa_)) rfl e_ (λv _ h=>by exact⟨h.2.2.2.2.1.1,trivial⟩) rfl λ⟨⟨b9,c0⟩,b1⟩=>?_);dsimp only;refine I_ b1 ag_ λY X a7 b5 b4 b3=>?_;subst a7;refine Zz 3 ?_;exact nS_):G:=h
theorem id_ {G:Prop} (h:G:=by
 dsimp only;refine Zz 3 ?_;refine C_ 0 [17,18,19] zk zs (Zz 7 ?_);exact ly_):G:=h
theorem lH_ {G:Prop} (h:G:=by
 refine j_ 8 rfl zk (d_ (cR_ _ x.right (yab_ _) H.right (G.right zaa_)) rfl e_ (λv _ h=>by exact⟨h.2.2.1.2.1,trivial⟩) rfl λ⟨⟨a9,a8⟩,R⟩=>?_);dsimp only;refine I_ R ag_ λB C I a5 a4 a3=>?_;subst I;refine Zz 3 ?_;exact nO_):G:=h
theorem lI_ {G:Prop} (h:G:=by
 refine j_ 8 rfl zk (d_ (cR_ _ x.right (yab_ _) H.right (G.right zaa_)) rfl e_ (λv _ h=>by exact⟨h.2.2.1.2.1,trivial⟩) rfl λ⟨⟨a9,a8⟩,R⟩=>?_);dsimp only;refine I_ R ag_ λB C I a5 a4 a3=>?_;subst I;refine Zz 3 ?_;exact nQ_):G:=h
theorem lJ_ {G:Prop} (h:G:=by
 refine j_ 13 rfl zk (d_ (ds_ _ x.right (yab_ _) H.right (G.right zaa_)) rfl e_ (λv _ h=>by exact⟨h.2.2.2.2.1.2.1,trivial⟩) rfl λ⟨⟨a9,a8⟩,R⟩=>?_);dsimp only;refine I_ R ag_ λB C I a5 a4 a3=>?_;subst I;refine Zz 3 ?_;exact nT_):G:=h
theorem jf_ {G:Prop} (h:G:=by
 exact hJ_ jA_ ⟨(T,U,.slice (some ⟨E,0,none⟩) 1 1),u⟩ rfl rfl rfl (by rw[(gW_ x M zaa_ Q P).2]) e_ zf):G:=h
theorem jg_ {G:Prop} (h:G:=by
 dsimp only;refine Zz 3 ?_;refine C_ 3 [17] zk zs (Zz 2 ?_);refine j_ 16 rfl zk (p_ M_ ar_ ad_ rfl rfl rfl rfl rfl rfl λa1=>Zz 3 ?_);refine C_ 0 [18,19] zk zs (Zz 6 ?_);exact ly_):G:=h
theorem fm_ {G:Prop} (h:G:=by
 exact hJ_ jA_ ⟨(T,U,.slice (some ⟨A,0,none⟩) 1 1),u⟩ rfl rfl rfl (by rw[(gW_ x M zaa_ Q P).2]) e_ zf):G:=h
theorem nN_ {G:Prop} (h:G:=by
 refine j_ 7 rfl zk (d_ (ds_ _ x.left (yab_ _) H.left (G.left zaa_)) rfl e_ (λv _ h=>by exact⟨h.2.2.1.1,trivial⟩) rfl λ⟨⟨V,W⟩,F⟩=>?_);dsimp only;refine I_ F ag_ λe d o L O K=>?_;subst o;refine Zz 3 ?_;exact lC_):G:=h
theorem nO_ {G:Prop} (h:G:=by
 refine j_ 11 rfl zk (d_ (ds_ _ x.right (yab_ _) H.right (G.right zaa_)) rfl e_ (λv _ h=>by exact⟨h.2.2.2.1.2.1,trivial⟩) rfl λ⟨⟨c2,c3⟩,b2⟩=>?_);dsimp only;refine I_ b2 ag_ λa0 a2 b0 b8 b7 b6=>?_;subst b0;refine Zz 3 ?_;exact lG_):G:=h
theorem nP_ {G:Prop} (h:G:=by
 refine j_ 11 rfl zk (p_ aj_ aN_ aG_ rfl rfl rfl rfl rfl rfl λa1=>?_);refine R_ (List.flatMap Pw.cells [(Pw.mk (cp_ (([60,115,111,109,101,32]++x.role)++[32,101,118,101,114,121,116,104,105,110,103,62]) (Con.nameR x.right)) (some ⟨k,0,none⟩) 2),(Pw.mk [(Pc.mk 3 (([60,115,111,109,101,32]++x.role)++[32,101,118,101,114,121,116,104,105,110,103,62]) [] [42] x.role [] [] 0 0 0)] (some ⟨E,0,none⟩) 1),(Pw.mk (Con.rleft x.right) e d)]) f_ rfl ?_;refine Zz 3 ?_;refine j_ 12 rfl zk (d_ (bm_ [(Pw.mk (cp_ (([60,115,111,109,101,32]++x.role)++[32,101,118,101,114,121,116,104,105,110,103,62]) (Con.nameR x.right)) (some ⟨k,0,none⟩) 2),(Pw.mk [(Pc.mk 3 (([60,115,111,109,101,32]++x.role)++[32,101,118,101,114,121,116,104,105,110,103,62]) [] [42] x.role [] [] 0 0 0)] (some ⟨E,0,none⟩) 1),(Pw.mk (Con.rleft x.right) e d)] (some ⟨a1,0,none⟩) 3 (-1) zak_ zaf_ (J:=x.goalP.1) (cc_ M zaa_ zag_)) rfl e_ (λv _ h=>by exact⟨h.1,(T_ h.2.2.1 (T_ h.2.2.2.1 (T_ h.2.1 bX_))),trivial⟩) rfl λ⟨⟨T,U⟩,u⟩=>?_);exact ic_):G:=h
theorem nQ_ {G:Prop} (h:G:=by
 refine j_ 9 rfl zk (p_ aj_ aN_ aG_ rfl rfl rfl rfl rfl rfl λA=>?_);refine R_ (List.flatMap Pw.cells [(Pw.mk (cp_ (Con.nameR x.left) (Con.nameR x.right)) (some ⟨k,0,none⟩) 2),(Pw.mk (Con.rright x.left) e d),(Pw.mk (Con.rleft x.right) B C)]) f_ rfl ?_;refine Zz 3 ?_;refine j_ 10 rfl zk (d_ (bm_ [(Pw.mk (cp_ (Con.nameR x.left) (Con.nameR x.right)) (some ⟨k,0,none⟩) 2),(Pw.mk (Con.rright x.left) e d),(Pw.mk (Con.rleft x.right) B C)] (some ⟨A,0,none⟩) 3 (-1) zak_ zaf_ (J:=x.goalP.1) (cc_ M zaa_ zag_)) rfl e_ (λv _ h=>by exact⟨h.1,(T_ h.2.2.2.1 (T_ h.2.2.1 (T_ h.2.1 bX_))),trivial⟩) rfl λ⟨⟨T,U⟩,u⟩=>?_);dsimp only;refine Zz 3 ?_;refine C_ 0 [15,16,17] zk zs (Zz 7 ?_);exact jf_):G:=h
theorem nR_ {G:Prop} (h:G:=by
 refine bx_ 7 10 rfl rfl zk ?_ ?_
 .refine p_ u_ ab_ N_ rfl rfl rfl rfl rfl rfl λA=>?_
  refine R_ (List.flatMap Pc.cells [(Pc.mk 3 (([60,115,111,109,101,32]++x.role)++[32,101,118,101,114,121,116,104,105,110,103,62]) [] [42] x.role [] [] 0 0 0)]) f_ rfl ?_;refine Zz 3 ?_;refine j_ 10 rfl zk (d_ (cR_ _ x.right (yab_ _) H.right (G.right zaa_)) rfl e_ (λv _ h=>by exact⟨h.2.2.1.2.1,trivial⟩) rfl λ⟨⟨V,W⟩,F⟩=>?_);dsimp only;refine I_ F ag_ λe d o L O K=>?_;subst o;refine Zz 3 ?_;refine j_ 11 rfl zk (p_ aj_ aN_ aG_ rfl rfl rfl rfl rfl rfl λa1=>?_);refine R_ (List.flatMap Pw.cells [(Pw.mk (cp_ (([60,115,111,109,101,32]++x.role)++[32,101,118,101,114,121,116,104,105,110,103,62]) (Con.nameR x.right)) (some ⟨k,0,none⟩) 2),(Pw.mk [(Pc.mk 3 (([60,115,111,109,101,32]++x.role)++[32,101,118,101,114,121,116,104,105,110,103,62]) [] [42] x.role [] [] 0 0 0)] (some ⟨A,0,none⟩) 1),(Pw.mk (Con.rleft x.right) e d)]) f_ rfl ?_;refine Zz 3 ?_;refine j_ 12 rfl zk (d_ (bm_ [(Pw.mk (cp_ (([60,115,111,109,101,32]++x.role)++[32,101,118,101,114,121,116,104,105,110,103,62]) (Con.nameR x.right)) (some ⟨k,0,none⟩) 2),(Pw.mk [(Pc.mk 3 (([60,115,111,109,101,32]++x.role)++[32,101,118,101,114,121,116,104,105,110,103,62]) [] [42] x.role [] [] 0 0 0)] (some ⟨A,0,none⟩) 1),(Pw.mk (Con.rleft x.right) e d)] (some ⟨a1,0,none⟩) 3 (-1) zak_ zaf_ (J:=x.goalP.1) (cc_ M zaa_ zag_)) rfl e_ (λv _ h=>by exact⟨h.1,(T_ h.2.2.2.1 (T_ h.2.2.1 (T_ h.2.1 bX_))),trivial⟩) rfl λ⟨⟨T,U⟩,u⟩=>?_);exact gw_
 refine d_ (cR_ _ x.right (yab_ _) H.right (G.right zaa_)) rfl e_ (λv _ h=>by exact⟨h.2.1.2.1,trivial⟩) rfl λ⟨⟨V,W⟩,F⟩=>?_;dsimp only;refine I_ F ag_ λe d o L O K=>?_;subst o;refine Zz 3 ?_;refine j_ 7 rfl zk (p_ u_ ab_ N_ rfl rfl rfl rfl rfl rfl λA=>?_);refine R_ (List.flatMap Pc.cells [(Pc.mk 3 (([60,115,111,109,101,32]++x.role)++[32,101,118,101,114,121,116,104,105,110,103,62]) [] [42] x.role [] [] 0 0 0)]) f_ rfl ?_;refine Zz 3 ?_;refine j_ 11 rfl zk (p_ aj_ aN_ aG_ rfl rfl rfl rfl rfl rfl λa1=>?_);refine R_ (List.flatMap Pw.cells [(Pw.mk (cp_ (([60,115,111,109,101,32]++x.role)++[32,101,118,101,114,121,116,104,105,110,103,62]) (Con.nameR x.right)) (some ⟨k,0,none⟩) 2),(Pw.mk [(Pc.mk 3 (([60,115,111,109,101,32]++x.role)++[32,101,118,101,114,121,116,104,105,110,103,62]) [] [42] x.role [] [] 0 0 0)] (some ⟨A,0,none⟩) 1),(Pw.mk (Con.rleft x.right) e d)]) f_ rfl ?_;refine Zz 3 ?_;refine j_ 12 rfl zk (d_ (bm_ [(Pw.mk (cp_ (([60,115,111,109,101,32]++x.role)++[32,101,118,101,114,121,116,104,105,110,103,62]) (Con.nameR x.right)) (some ⟨k,0,none⟩) 2),(Pw.mk [(Pc.mk 3 (([60,115,111,109,101,32]++x.role)++[32,101,118,101,114,121,116,104,105,110,103,62]) [] [42] x.role [] [] 0 0 0)] (some ⟨A,0,none⟩) 1),(Pw.mk (Con.rleft x.right) e d)] (some ⟨a1,0,none⟩) 3 (-1) zak_ zaf_ (J:=x.goalP.1) (cc_ M zaa_ zag_)) rfl e_ (λv _ h=>by exact⟨h.1,(T_ h.2.2.2.1 (T_ h.2.1 (T_ h.2.2.1 bX_))),trivial⟩) rfl λ⟨⟨T,U⟩,u⟩=>?_);exact gw_):G:=h
theorem nS_ {G:Prop} (h:G:=by
 refine j_ 15 rfl zk (p_ aj_ aN_ aG_ rfl rfl rfl rfl rfl rfl λA=>?_);refine R_ (List.flatMap Pw.cells [(Pw.mk (cp_ (Con.nameR x.left) (Con.nameR x.right)) (some ⟨k,0,none⟩) 2),(Pw.mk (Con.rright x.left) e d),(Pw.mk (Con.rleft x.right) B C),(Pw.mk (Con.rright x.right) a0 a2),(Pw.mk (Con.rleft x.left) Y X)]) f_ rfl ?_;refine Zz 3 ?_;refine j_ 16 rfl zk (d_ (bm_ [(Pw.mk (cp_ (Con.nameR x.left) (Con.nameR x.right)) (some ⟨k,0,none⟩) 2),(Pw.mk (Con.rright x.left) e d),(Pw.mk (Con.rleft x.right) B C),(Pw.mk (Con.rright x.right) a0 a2),(Pw.mk (Con.rleft x.left) Y X)] (some ⟨A,0,none⟩) 5 (-1) zak_ zaf_ (J:=x.goalP.1) (cc_ M zaa_ zag_)) rfl e_ (λv _ h=>by exact⟨h.1,(T_ h.2.2.2.2.2.1 (T_ h.2.2.2.2.1 (T_ h.2.2.2.1 (T_ h.2.2.1 (T_ h.2.1 bX_))))),trivial⟩) rfl λ⟨⟨T,U⟩,u⟩=>?_);dsimp only;refine Zz 3 ?_;refine C_ 0 [24,25,26] zk zs (Zz 7 ?_);exact hJ_ jA_ ⟨(T,U,.slice (some ⟨E,0,none⟩) 2 2),u⟩ rfl rfl rfl (by rw[(gW_ x M zaa_ Q P).2]) e_ zf):G:=h
theorem nT_ {G:Prop} (h:G:=by
 refine j_ 14 rfl zk (p_ aj_ aN_ aG_ rfl rfl rfl rfl rfl rfl λA=>?_);refine R_ (List.flatMap Pw.cells [(Pw.mk (cp_ (((([60]++(Con.operand x.left))++[32,97,110,100,32])++(Con.operand x.right))++[62]) [33]) (some ⟨k,0,none⟩) 2),(Pw.mk [(Pc.mk 1 (((([60]++(Con.operand x.left))++[32,97,110,100,32])++(Con.operand x.right))++[62]) [] (Con.nameR x.left) [] [] [] 0 0 0)] (some ⟨a6,0,none⟩) 1),(Pw.mk (Con.rright x.left) e d),(Pw.mk [(Pc.mk 1 (((([60]++(Con.operand x.left))++[32,97,110,100,32])++(Con.operand x.right))++[62]) [] (Con.nameR x.right) [] [] [] 0 0 0)] (some ⟨Z,0,none⟩) 1),(Pw.mk (Con.rright x.right) B C)]) f_ rfl ?_;refine Zz 3 ?_;refine j_ 15 rfl zk (d_ (bm_ [(Pw.mk (cp_ (((([60]++(Con.operand x.left))++[32,97,110,100,32])++(Con.operand x.right))++[62]) [33]) (some ⟨k,0,none⟩) 2),(Pw.mk [(Pc.mk 1 (((([60]++(Con.operand x.left))++[32,97,110,100,32])++(Con.operand x.right))++[62]) [] (Con.nameR x.left) [] [] [] 0 0 0)] (some ⟨a6,0,none⟩) 1),(Pw.mk (Con.rright x.left) e d),(Pw.mk [(Pc.mk 1 (((([60]++(Con.operand x.left))++[32,97,110,100,32])++(Con.operand x.right))++[62]) [] (Con.nameR x.right) [] [] [] 0 0 0)] (some ⟨Z,0,none⟩) 1),(Pw.mk (Con.rright x.right) B C)] (some ⟨A,0,none⟩) 5 (-1) zak_ zaf_ (J:=x.goalP.1) (cc_ M zaa_ zag_)) rfl e_ (λv _ h=>by exact⟨h.1,(T_ h.2.2.2.2.2.1 (T_ h.2.2.2.2.1 (T_ h.2.2.2.1 (T_ h.2.2.1 (T_ h.2.1 bX_))))),trivial⟩) rfl λ⟨⟨T,U⟩,u⟩=>?_);dsimp only;refine Zz 3 ?_;refine C_ 0 [19,20,21] zk zs (Zz 7 ?_);exact jf_):G:=h
set_option maxHeartbeats 4000000 in
theorem zz_ (x:Ax) (H:x.ok) (e1:x.left.sz<=1000) (e2:x.right.sz<=1000):Tri prog 48 #[Ax.val x] [] [Ax.memF x] (λy:{y:Ao×Nat×Value // x.goalP.1.length<=y.2.1/\y.2.1<=maxLen/\(y.1=none->y.2.1=0)}=>.tuple #[.slice y.1.1 x.goalP.1.length y.1.2.1,y.1.2.2,i4_ x.goalP.2.2]) (λ_=>[]) (λy=>[O_ y.1.1 (x.goalP.1.flatMap Pc.cells)]):=by
 refine l_ func48 rfl rfl ntmps48 rfl λe7=>?_;refine Zz 2 ?_;refine Q_ rfl rfl λe6=>Zz 8 ?_
 refine d_ (eX_ x H e1 e2) rfl e_ zf rfl λ_=>Zi 7 (λc4=>?_) λc4=>?_
 .have M:Ax.check x=0:=by simpa using c4
  have G:=Ax.good_of M;have S:=Ax.sides M;have Q:=G.k1;have P:=G.k9;have c9:=Con.rleft_len _ x.left (yab_ _);have d9:=Con.rright_len _ x.left (yab_ _);have c6:=Con.rleft_len _ x.right (yab_ _);have d1:=Con.rright_len _ x.right (yab_ _);have e4:=H.a;have e5:=H.b;have e3:=H.role;refine Zz 9 ?_;refine d_ (lW_ x.left H.left S.1.1 (by have:=S.1.2;omega)) rfl e_ (λv _ h=>by exact⟨h.1.1,trivial⟩) rfl λ_=>?_;refine Zz 7 ?_;refine d_ (lW_ x.right H.right S.2.1 (by have:=S.2.2;omega)) rfl e_ (λv _ h=>by exact⟨h.1.2.1,trivial⟩) rfl λ_=>?_;refine Zi 13 (λe0=>?_) λe0=>?_
  .refine Zi 6 (λd2=>?_) λd2=>?_
   .refine Zi 6 (λd6=>?_) λd6=>?_
    .refine Zi 6 (λd5=>?_) λd5=>?_
     .refine Zi 6 (λd4=>?_) λd4=>?_
      .refine Zi 6 (λd0=>?_) λd0=>?_
       .refine Zz 14 ?_
        have c1:=wK_ M zaa_;exact lA_
       refine Zz 6 ?_;refine C_ 12 [0,1,3,4,9,10,12,13,14,15] zk zs (Zz 11 ?_);refine j_ 2 rfl zk (d_ (el_ x.a zaa_) rfl e_ zt rfl λ_=>Zz 3 ?_);refine j_ 5 rfl zk (d_ (el_ x.b zaa_) rfl e_ zt rfl λ_=>Zz 3 ?_);refine j_ 6 rfl zk (d_ (eK_ ([123]++x.a++[125]) ([123]++x.b++[125])) rfl e_ zt rfl λk=>Zz 3 ?_);refine j_ 7 rfl zk (p_ aj_ aN_ aG_ rfl rfl rfl rfl rfl rfl λE=>?_);refine R_ (List.flatMap Pw.cells [(Pw.mk (cp_ ([123]++x.a++[125]) ([123]++x.b++[125])) (some ⟨k,0,none⟩) 2)]) f_ rfl ?_;refine Zz 3 ?_;refine j_ 8 rfl zk (d_ (bm_ [(Pw.mk (cp_ ([123]++x.a++[125]) ([123]++x.b++[125])) (some ⟨k,0,none⟩) 2)] (some ⟨E,0,none⟩) 1 (-1) zak_ zaf_ (J:=x.goalP.1) (cc_ M zaa_ zag_)) rfl e_ (λv _ h=>by exact⟨h.1,(T_ h.2.1 bX_),trivial⟩) rfl λ⟨⟨T,U⟩,u⟩=>?_);dsimp only;refine Zz 3 ?_;refine j_ 11 rfl zk (d_ (el_ x.a zaa_) rfl e_ zt rfl λ_=>Zz 3 ?_);refine j_ 16 rfl zk (d_ (el_ x.b zaa_) rfl e_ zt rfl λ_=>Zz 3 ?_);refine C_ 3 [17,19] zk zs (G_ rfl (x_ gz_ rfl rfl) rfl (Zz 2 ?_));exact lz_
      have c5:=Con.nameR_eq (G.right zaa_);refine Zz 6 ?_;refine C_ 11 [0,1,3,5,6,10,11,13] zk zs (Zz 9 ?_);refine j_ 2 rfl zk (d_ (el_ x.a zaa_) rfl e_ zt rfl λ_=>Zz 3 ?_);refine j_ 4 rfl zk (d_ (eK_ ([123]++x.a++[125]) (Con.nameR x.right)) rfl e_ zt rfl λk=>Zz 3 ?_);refine j_ 7 rfl zk (d_ (cR_ _ x.right (yab_ _) H.right (G.right zaa_)) rfl e_ (λv _ h=>by exact⟨h.2.1.2.1,trivial⟩) rfl λ⟨⟨V,W⟩,F⟩=>?_);dsimp only;refine I_ F ag_ λe d o L O K=>?_;subst o;refine Zz 3 ?_;refine j_ 8 rfl zk (p_ aj_ aN_ aG_ rfl rfl rfl rfl rfl rfl λE=>?_);refine R_ (List.flatMap Pw.cells [(Pw.mk (cp_ ([123]++x.a++[125]) (Con.nameR x.right)) (some ⟨k,0,none⟩) 2),(Pw.mk (Con.rleft x.right) e d)]) f_ rfl ?_;refine Zz 3 ?_;refine j_ 9 rfl zk (d_ (bm_ [(Pw.mk (cp_ ([123]++x.a++[125]) (Con.nameR x.right)) (some ⟨k,0,none⟩) 2),(Pw.mk (Con.rleft x.right) e d)] (some ⟨E,0,none⟩) 2 (-1) zak_ zaf_ (J:=x.goalP.1) (cc_ M zaa_ zag_)) rfl e_ (λv _ h=>by exact⟨h.1,(T_ h.2.2.1 (T_ h.2.1 bX_)),trivial⟩) rfl λ⟨⟨T,U⟩,u⟩=>?_);dsimp only;refine Zz 3 ?_;refine j_ 12 rfl zk (d_ (el_ x.a zaa_) rfl e_ zt rfl λ_=>Zz 3 ?_);refine C_ 3 [14,16] zk zs (G_ rfl (x_ gz_ rfl rfl) rfl (Zz 2 ?_));refine j_ 15 rfl zk (p_ M_ ar_ ad_ rfl rfl rfl rfl rfl rfl λA=>Zz 3 ?_);refine C_ 0 [17,18] zk zs (Zz 6 ?_);exact fm_
     have c5:=Con.nameR_eq (G.right zaa_);refine Zz 8 ?_;refine c_ (bn_ rfl rfl zad_) rfl ?_;refine c_ (bn_ rfl rfl zad_) rfl ?_;refine Zz 5 ?_;refine C_ 9 [0,1,3,4,5,6,8,9,13,14,15] zk zs (Zz 5 ?_);refine G_ rfl (x_ ct_ rfl rfl) rfl (Zz 4 ?_);refine G_ rfl (x_ gz_ rfl rfl) rfl (bd_ ?_);refine jV_ [2,7,16] zk zak_ ?_;intro i hi;simp only[yar_,yav_,ybg_]at hi;rcases hi with rfl|rfl|rfl
     .refine⟨_,rfl,?_⟩
      refine d_ (eK_ (([60,115,111,109,101,32]++x.role)++[32,101,118,101,114,121,116,104,105,110,103,62]) (Con.nameR x.right)) rfl e_ zt rfl λk=>Zz 3 ?_
      refine jV_ [7,10,16] zk zak_ ?_;intro i hi;simp only[yar_,yav_,ybg_]at hi;rcases hi with rfl|rfl|rfl
      .refine⟨_,rfl,?_⟩
       refine p_ u_ ab_ N_ rfl rfl rfl rfl rfl rfl λE=>?_;refine R_ (List.flatMap Pc.cells [(Pc.mk 3 (([60,115,111,109,101,32]++x.role)++[32,101,118,101,114,121,116,104,105,110,103,62]) [] [42] x.role [] [] 0 0 0)]) f_ rfl ?_;refine Zz 3 ?_;refine bx_ 10 16 rfl rfl zk ?_ ?_
       .refine d_ (cR_ _ x.right (yab_ _) H.right (G.right zaa_)) rfl e_ (λv _ h=>by exact⟨h.2.2.1.2.1,trivial⟩) rfl λ⟨⟨V,W⟩,F⟩=>?_
        dsimp only;refine I_ F ag_ λe d o L O K=>?_;subst o;refine Zz 3 ?_;refine bx_ 11 16 rfl rfl zk ?_ ?_
        .refine p_ aj_ aN_ aG_ rfl rfl rfl rfl rfl rfl λA=>?_
         refine R_ (List.flatMap Pw.cells [(Pw.mk (cp_ (([60,115,111,109,101,32]++x.role)++[32,101,118,101,114,121,116,104,105,110,103,62]) (Con.nameR x.right)) (some ⟨k,0,none⟩) 2),(Pw.mk [(Pc.mk 3 (([60,115,111,109,101,32]++x.role)++[32,101,118,101,114,121,116,104,105,110,103,62]) [] [42] x.role [] [] 0 0 0)] (some ⟨E,0,none⟩) 1),(Pw.mk (Con.rleft x.right) e d)]) f_ rfl ?_;refine Zz 3 ?_;refine bx_ 12 16 rfl rfl zk ?_ ?_
         .refine d_ (bm_ [(Pw.mk (cp_ (([60,115,111,109,101,32]++x.role)++[32,101,118,101,114,121,116,104,105,110,103,62]) (Con.nameR x.right)) (some ⟨k,0,none⟩) 2),(Pw.mk [(Pc.mk 3 (([60,115,111,109,101,32]++x.role)++[32,101,118,101,114,121,116,104,105,110,103,62]) [] [42] x.role [] [] 0 0 0)] (some ⟨E,0,none⟩) 1),(Pw.mk (Con.rleft x.right) e d)] (some ⟨A,0,none⟩) 3 (-1) zak_ zaf_ (J:=x.goalP.1) (cc_ M zaa_ zag_)) rfl e_ (λv _ h=>by exact⟨h.1,(T_ h.2.2.2.1 (T_ h.2.2.1 (T_ h.2.1 bX_))),trivial⟩) rfl λ⟨⟨T,U⟩,u⟩=>?_
          exact jg_
         refine p_ M_ ar_ ad_ rfl rfl rfl rfl rfl rfl λa1=>Zz 3 ?_
         refine j_ 12 rfl zk (d_ (bm_ [(Pw.mk (cp_ (([60,115,111,109,101,32]++x.role)++[32,101,118,101,114,121,116,104,105,110,103,62]) (Con.nameR x.right)) (some ⟨k,0,none⟩) 2),(Pw.mk [(Pc.mk 3 (([60,115,111,109,101,32]++x.role)++[32,101,118,101,114,121,116,104,105,110,103,62]) [] [42] x.role [] [] 0 0 0)] (some ⟨E,0,none⟩) 1),(Pw.mk (Con.rleft x.right) e d)] (some ⟨A,0,none⟩) 3 (-1) zak_ zaf_ (J:=x.goalP.1) (cc_ M zaa_ zag_)) rfl e_ (λv _ h=>by exact⟨h.1,(T_ h.2.2.2.1 (T_ h.2.2.1 (T_ h.2.1 bX_))),trivial⟩) rfl λ⟨⟨T,U⟩,u⟩=>?_);exact id_
        refine p_ M_ ar_ ad_ rfl rfl rfl rfl rfl rfl λA=>Zz 3 ?_
        refine j_ 11 rfl zk (p_ aj_ aN_ aG_ rfl rfl rfl rfl rfl rfl λc9=>?_);refine R_ (List.flatMap Pw.cells [(Pw.mk (cp_ (([60,115,111,109,101,32]++x.role)++[32,101,118,101,114,121,116,104,105,110,103,62]) (Con.nameR x.right)) (some ⟨k,0,none⟩) 2),(Pw.mk [(Pc.mk 3 (([60,115,111,109,101,32]++x.role)++[32,101,118,101,114,121,116,104,105,110,103,62]) [] [42] x.role [] [] 0 0 0)] (some ⟨E,0,none⟩) 1),(Pw.mk (Con.rleft x.right) e d)]) f_ rfl ?_;refine Zz 3 ?_;refine j_ 12 rfl zk (d_ (bm_ [(Pw.mk (cp_ (([60,115,111,109,101,32]++x.role)++[32,101,118,101,114,121,116,104,105,110,103,62]) (Con.nameR x.right)) (some ⟨k,0,none⟩) 2),(Pw.mk [(Pc.mk 3 (([60,115,111,109,101,32]++x.role)++[32,101,118,101,114,121,116,104,105,110,103,62]) [] [42] x.role [] [] 0 0 0)] (some ⟨E,0,none⟩) 1),(Pw.mk (Con.rleft x.right) e d)] (some ⟨c9,0,none⟩) 3 (-1) zak_ zaf_ (J:=x.goalP.1) (cc_ M zaa_ zag_)) rfl e_ (λv _ h=>by exact⟨h.1,(T_ h.2.2.2.1 (T_ h.2.2.1 (T_ h.2.1 bX_))),trivial⟩) rfl λ⟨⟨T,U⟩,u⟩=>?_);exact ic_
       refine p_ M_ ar_ ad_ rfl rfl rfl rfl rfl rfl λd9=>Zz 3 ?_
       refine j_ 10 rfl zk (d_ (cR_ _ x.right (yab_ _) H.right (G.right zaa_)) rfl e_ (λv _ h=>by exact⟨h.2.2.1.2.1,trivial⟩) rfl λ⟨⟨V,W⟩,F⟩=>?_);dsimp only;refine I_ F ag_ λe d o L O K=>?_;subst o;refine Zz 3 ?_;refine j_ 11 rfl zk (p_ aj_ aN_ aG_ rfl rfl rfl rfl rfl rfl λA=>?_);refine R_ (List.flatMap Pw.cells [(Pw.mk (cp_ (([60,115,111,109,101,32]++x.role)++[32,101,118,101,114,121,116,104,105,110,103,62]) (Con.nameR x.right)) (some ⟨k,0,none⟩) 2),(Pw.mk [(Pc.mk 3 (([60,115,111,109,101,32]++x.role)++[32,101,118,101,114,121,116,104,105,110,103,62]) [] [42] x.role [] [] 0 0 0)] (some ⟨E,0,none⟩) 1),(Pw.mk (Con.rleft x.right) e d)]) f_ rfl ?_;refine Zz 3 ?_;refine j_ 12 rfl zk (d_ (bm_ [(Pw.mk (cp_ (([60,115,111,109,101,32]++x.role)++[32,101,118,101,114,121,116,104,105,110,103,62]) (Con.nameR x.right)) (some ⟨k,0,none⟩) 2),(Pw.mk [(Pc.mk 3 (([60,115,111,109,101,32]++x.role)++[32,101,118,101,114,121,116,104,105,110,103,62]) [] [42] x.role [] [] 0 0 0)] (some ⟨E,0,none⟩) 1),(Pw.mk (Con.rleft x.right) e d)] (some ⟨A,0,none⟩) 3 (-1) zak_ zaf_ (J:=x.goalP.1) (cc_ M zaa_ zag_)) rfl e_ (λv _ h=>by exact⟨h.1,(T_ h.2.2.2.1 (T_ h.2.2.1 (T_ h.2.1 bX_))),trivial⟩) rfl λ⟨⟨T,U⟩,u⟩=>?_);dsimp only;refine Zz 3 ?_;refine C_ 0 [17,18,19] zk zs (Zz 7 ?_);exact hJ_ jA_ ⟨(T,U,.slice (some ⟨d9,0,none⟩) 1 1),u⟩ rfl rfl rfl (by rw[(gW_ x M zaa_ Q P).2]) e_ zf
      .refine⟨_,rfl,?_⟩
       refine d_ (cR_ _ x.right (yab_ _) H.right (G.right zaa_)) rfl e_ (λv _ h=>by exact⟨h.2.1.2.1,trivial⟩) rfl λ⟨⟨V,W⟩,F⟩=>?_;dsimp only;refine I_ F ag_ λe d o L O K=>?_;subst o;refine Zz 3 ?_;refine bx_ 7 16 rfl rfl zk ?_ ?_
       .refine p_ u_ ab_ N_ rfl rfl rfl rfl rfl rfl λE=>?_
        refine R_ (List.flatMap Pc.cells [(Pc.mk 3 (([60,115,111,109,101,32]++x.role)++[32,101,118,101,114,121,116,104,105,110,103,62]) [] [42] x.role [] [] 0 0 0)]) f_ rfl ?_;refine Zz 3 ?_;refine bx_ 11 16 rfl rfl zk ?_ ?_
        .refine p_ aj_ aN_ aG_ rfl rfl rfl rfl rfl rfl λA=>?_
         refine R_ (List.flatMap Pw.cells [(Pw.mk (cp_ (([60,115,111,109,101,32]++x.role)++[32,101,118,101,114,121,116,104,105,110,103,62]) (Con.nameR x.right)) (some ⟨k,0,none⟩) 2),(Pw.mk [(Pc.mk 3 (([60,115,111,109,101,32]++x.role)++[32,101,118,101,114,121,116,104,105,110,103,62]) [] [42] x.role [] [] 0 0 0)] (some ⟨E,0,none⟩) 1),(Pw.mk (Con.rleft x.right) e d)]) f_ rfl ?_;refine Zz 3 ?_;refine bx_ 12 16 rfl rfl zk ?_ ?_
         .refine d_ (bm_ [(Pw.mk (cp_ (([60,115,111,109,101,32]++x.role)++[32,101,118,101,114,121,116,104,105,110,103,62]) (Con.nameR x.right)) (some ⟨k,0,none⟩) 2),(Pw.mk [(Pc.mk 3 (([60,115,111,109,101,32]++x.role)++[32,101,118,101,114,121,116,104,105,110,103,62]) [] [42] x.role [] [] 0 0 0)] (some ⟨E,0,none⟩) 1),(Pw.mk (Con.rleft x.right) e d)] (some ⟨A,0,none⟩) 3 (-1) zak_ zaf_ (J:=x.goalP.1) (cc_ M zaa_ zag_)) rfl e_ (λv _ h=>by exact⟨h.1,(T_ h.2.2.2.1 (T_ h.2.1 (T_ h.2.2.1 bX_))),trivial⟩) rfl λ⟨⟨T,U⟩,u⟩=>?_
          exact jg_
         refine p_ M_ ar_ ad_ rfl rfl rfl rfl rfl rfl λa1=>Zz 3 ?_
         refine j_ 12 rfl zk (d_ (bm_ [(Pw.mk (cp_ (([60,115,111,109,101,32]++x.role)++[32,101,118,101,114,121,116,104,105,110,103,62]) (Con.nameR x.right)) (some ⟨k,0,none⟩) 2),(Pw.mk [(Pc.mk 3 (([60,115,111,109,101,32]++x.role)++[32,101,118,101,114,121,116,104,105,110,103,62]) [] [42] x.role [] [] 0 0 0)] (some ⟨E,0,none⟩) 1),(Pw.mk (Con.rleft x.right) e d)] (some ⟨A,0,none⟩) 3 (-1) zak_ zaf_ (J:=x.goalP.1) (cc_ M zaa_ zag_)) rfl e_ (λv _ h=>by exact⟨h.1,(T_ h.2.2.2.1 (T_ h.2.1 (T_ h.2.2.1 bX_))),trivial⟩) rfl λ⟨⟨T,U⟩,u⟩=>?_);exact id_
        refine p_ M_ ar_ ad_ rfl rfl rfl rfl rfl rfl λA=>Zz 3 ?_
        refine j_ 11 rfl zk (p_ aj_ aN_ aG_ rfl rfl rfl rfl rfl rfl λa1=>?_);refine R_ (List.flatMap Pw.cells [(Pw.mk (cp_ (([60,115,111,109,101,32]++x.role)++[32,101,118,101,114,121,116,104,105,110,103,62]) (Con.nameR x.right)) (some ⟨k,0,none⟩) 2),(Pw.mk [(Pc.mk 3 (([60,115,111,109,101,32]++x.role)++[32,101,118,101,114,121,116,104,105,110,103,62]) [] [42] x.role [] [] 0 0 0)] (some ⟨E,0,none⟩) 1),(Pw.mk (Con.rleft x.right) e d)]) f_ rfl ?_;refine Zz 3 ?_;refine j_ 12 rfl zk (d_ (bm_ [(Pw.mk (cp_ (([60,115,111,109,101,32]++x.role)++[32,101,118,101,114,121,116,104,105,110,103,62]) (Con.nameR x.right)) (some ⟨k,0,none⟩) 2),(Pw.mk [(Pc.mk 3 (([60,115,111,109,101,32]++x.role)++[32,101,118,101,114,121,116,104,105,110,103,62]) [] [42] x.role [] [] 0 0 0)] (some ⟨E,0,none⟩) 1),(Pw.mk (Con.rleft x.right) e d)] (some ⟨a1,0,none⟩) 3 (-1) zak_ zaf_ (J:=x.goalP.1) (cc_ M zaa_ zag_)) rfl e_ (λv _ h=>by exact⟨h.1,(T_ h.2.2.2.1 (T_ h.2.1 (T_ h.2.2.1 bX_))),trivial⟩) rfl λ⟨⟨T,U⟩,u⟩=>?_);exact ic_
       refine p_ M_ ar_ ad_ rfl rfl rfl rfl rfl rfl λE=>Zz 3 ?_
       refine j_ 7 rfl zk (p_ u_ ab_ N_ rfl rfl rfl rfl rfl rfl λc6=>?_);refine R_ (List.flatMap Pc.cells [(Pc.mk 3 (([60,115,111,109,101,32]++x.role)++[32,101,118,101,114,121,116,104,105,110,103,62]) [] [42] x.role [] [] 0 0 0)]) f_ rfl ?_;refine Zz 3 ?_;refine j_ 11 rfl zk (p_ aj_ aN_ aG_ rfl rfl rfl rfl rfl rfl λd1=>?_);refine R_ (List.flatMap Pw.cells [(Pw.mk (cp_ (([60,115,111,109,101,32]++x.role)++[32,101,118,101,114,121,116,104,105,110,103,62]) (Con.nameR x.right)) (some ⟨k,0,none⟩) 2),(Pw.mk [(Pc.mk 3 (([60,115,111,109,101,32]++x.role)++[32,101,118,101,114,121,116,104,105,110,103,62]) [] [42] x.role [] [] 0 0 0)] (some ⟨c6,0,none⟩) 1),(Pw.mk (Con.rleft x.right) e d)]) f_ rfl ?_;refine Zz 3 ?_;refine j_ 12 rfl zk (d_ (bm_ [(Pw.mk (cp_ (([60,115,111,109,101,32]++x.role)++[32,101,118,101,114,121,116,104,105,110,103,62]) (Con.nameR x.right)) (some ⟨k,0,none⟩) 2),(Pw.mk [(Pc.mk 3 (([60,115,111,109,101,32]++x.role)++[32,101,118,101,114,121,116,104,105,110,103,62]) [] [42] x.role [] [] 0 0 0)] (some ⟨c6,0,none⟩) 1),(Pw.mk (Con.rleft x.right) e d)] (some ⟨d1,0,none⟩) 3 (-1) zak_ zaf_ (J:=x.goalP.1) (cc_ M zaa_ zag_)) rfl e_ (λv _ h=>by exact⟨h.1,(T_ h.2.2.2.1 (T_ h.2.1 (T_ h.2.2.1 bX_))),trivial⟩) rfl λ⟨⟨T,U⟩,u⟩=>?_);exact gw_
      refine⟨_,rfl,?_⟩;refine p_ M_ ar_ ad_ rfl rfl rfl rfl rfl rfl λE=>Zz 3 ?_
      exact nR_
     .refine⟨_,rfl,?_⟩
      refine p_ u_ ab_ N_ rfl rfl rfl rfl rfl rfl λE=>?_;refine R_ (List.flatMap Pc.cells [(Pc.mk 3 (([60,115,111,109,101,32]++x.role)++[32,101,118,101,114,121,116,104,105,110,103,62]) [] [42] x.role [] [] 0 0 0)]) f_ rfl ?_;refine Zz 3 ?_;refine bx_ 2 16 rfl rfl zk ?_ ?_
      .refine d_ (eK_ (([60,115,111,109,101,32]++x.role)++[32,101,118,101,114,121,116,104,105,110,103,62]) (Con.nameR x.right)) rfl e_ zt rfl λk=>Zz 3 ?_
       refine bx_ 10 16 rfl rfl zk ?_ ?_
       .refine d_ (cR_ _ x.right (yab_ _) H.right (G.right zaa_)) rfl e_ (λv _ h=>by exact⟨h.2.2.1.2.1,trivial⟩) rfl λ⟨⟨V,W⟩,F⟩=>?_
        dsimp only;refine I_ F ag_ λe d o L O K=>?_;subst o;refine Zz 3 ?_;refine bx_ 11 16 rfl rfl zk ?_ ?_
        .refine p_ aj_ aN_ aG_ rfl rfl rfl rfl rfl rfl λA=>?_
         refine R_ (List.flatMap Pw.cells [(Pw.mk (cp_ (([60,115,111,109,101,32]++x.role)++[32,101,118,101,114,121,116,104,105,110,103,62]) (Con.nameR x.right)) (some ⟨k,0,none⟩) 2),(Pw.mk [(Pc.mk 3 (([60,115,111,109,101,32]++x.role)++[32,101,118,101,114,121,116,104,105,110,103,62]) [] [42] x.role [] [] 0 0 0)] (some ⟨E,0,none⟩) 1),(Pw.mk (Con.rleft x.right) e d)]) f_ rfl ?_;refine Zz 3 ?_;refine bx_ 12 16 rfl rfl zk ?_ ?_
         .refine d_ (bm_ [(Pw.mk (cp_ (([60,115,111,109,101,32]++x.role)++[32,101,118,101,114,121,116,104,105,110,103,62]) (Con.nameR x.right)) (some ⟨k,0,none⟩) 2),(Pw.mk [(Pc.mk 3 (([60,115,111,109,101,32]++x.role)++[32,101,118,101,114,121,116,104,105,110,103,62]) [] [42] x.role [] [] 0 0 0)] (some ⟨E,0,none⟩) 1),(Pw.mk (Con.rleft x.right) e d)] (some ⟨A,0,none⟩) 3 (-1) zak_ zaf_ (J:=x.goalP.1) (cc_ M zaa_ zag_)) rfl e_ (λv _ h=>by exact⟨h.1,(T_ h.2.2.1 (T_ h.2.2.2.1 (T_ h.2.1 bX_))),trivial⟩) rfl λ⟨⟨T,U⟩,u⟩=>?_
          exact jg_
         refine p_ M_ ar_ ad_ rfl rfl rfl rfl rfl rfl λa1=>Zz 3 ?_
         refine j_ 12 rfl zk (d_ (bm_ [(Pw.mk (cp_ (([60,115,111,109,101,32]++x.role)++[32,101,118,101,114,121,116,104,105,110,103,62]) (Con.nameR x.right)) (some ⟨k,0,none⟩) 2),(Pw.mk [(Pc.mk 3 (([60,115,111,109,101,32]++x.role)++[32,101,118,101,114,121,116,104,105,110,103,62]) [] [42] x.role [] [] 0 0 0)] (some ⟨E,0,none⟩) 1),(Pw.mk (Con.rleft x.right) e d)] (some ⟨A,0,none⟩) 3 (-1) zak_ zaf_ (J:=x.goalP.1) (cc_ M zaa_ zag_)) rfl e_ (λv _ h=>by exact⟨h.1,(T_ h.2.2.1 (T_ h.2.2.2.1 (T_ h.2.1 bX_))),trivial⟩) rfl λ⟨⟨T,U⟩,u⟩=>?_);exact id_
        refine p_ M_ ar_ ad_ rfl rfl rfl rfl rfl rfl λA=>Zz 3 ?_
        exact nP_
       refine p_ M_ ar_ ad_ rfl rfl rfl rfl rfl rfl λA=>Zz 3 ?_
       exact lF_
      refine p_ M_ ar_ ad_ rfl rfl rfl rfl rfl rfl λA=>Zz 3 ?_
      refine j_ 2 rfl zk (d_ (eK_ (([60,115,111,109,101,32]++x.role)++[32,101,118,101,114,121,116,104,105,110,103,62]) (Con.nameR x.right)) rfl e_ zt rfl λk=>Zz 3 ?_);exact lF_
     refine⟨_,rfl,?_⟩;refine p_ M_ ar_ ad_ rfl rfl rfl rfl rfl rfl λE=>Zz 3 ?_
     refine bx_ 2 7 rfl rfl zk ?_ ?_
     .refine d_ (eK_ (([60,115,111,109,101,32]++x.role)++[32,101,118,101,114,121,116,104,105,110,103,62]) (Con.nameR x.right)) rfl e_ zt rfl λk=>Zz 3 ?_
      exact nR_
     refine p_ u_ ab_ N_ rfl rfl rfl rfl rfl rfl λA=>?_;refine R_ (List.flatMap Pc.cells [(Pc.mk 3 (([60,115,111,109,101,32]++x.role)++[32,101,118,101,114,121,116,104,105,110,103,62]) [] [42] x.role [] [] 0 0 0)]) f_ rfl ?_;refine Zz 3 ?_;refine j_ 2 rfl zk (d_ (eK_ (([60,115,111,109,101,32]++x.role)++[32,101,118,101,114,121,116,104,105,110,103,62]) (Con.nameR x.right)) rfl e_ zt rfl λk=>Zz 3 ?_);refine j_ 10 rfl zk (d_ (cR_ _ x.right (yab_ _) H.right (G.right zaa_)) rfl e_ (λv _ h=>by exact⟨h.2.2.1.2.1,trivial⟩) rfl λ⟨⟨V,W⟩,F⟩=>?_);dsimp only;refine I_ F ag_ λe d o L O K=>?_;subst o;refine Zz 3 ?_;refine j_ 11 rfl zk (p_ aj_ aN_ aG_ rfl rfl rfl rfl rfl rfl λa1=>?_);refine R_ (List.flatMap Pw.cells [(Pw.mk (cp_ (([60,115,111,109,101,32]++x.role)++[32,101,118,101,114,121,116,104,105,110,103,62]) (Con.nameR x.right)) (some ⟨k,0,none⟩) 2),(Pw.mk [(Pc.mk 3 (([60,115,111,109,101,32]++x.role)++[32,101,118,101,114,121,116,104,105,110,103,62]) [] [42] x.role [] [] 0 0 0)] (some ⟨A,0,none⟩) 1),(Pw.mk (Con.rleft x.right) e d)]) f_ rfl ?_;refine Zz 3 ?_;refine j_ 12 rfl zk (d_ (bm_ [(Pw.mk (cp_ (([60,115,111,109,101,32]++x.role)++[32,101,118,101,114,121,116,104,105,110,103,62]) (Con.nameR x.right)) (some ⟨k,0,none⟩) 2),(Pw.mk [(Pc.mk 3 (([60,115,111,109,101,32]++x.role)++[32,101,118,101,114,121,116,104,105,110,103,62]) [] [42] x.role [] [] 0 0 0)] (some ⟨A,0,none⟩) 1),(Pw.mk (Con.rleft x.right) e d)] (some ⟨a1,0,none⟩) 3 (-1) zak_ zaf_ (J:=x.goalP.1) (cc_ M zaa_ zag_)) rfl e_ (λv _ h=>by exact⟨h.1,(T_ h.2.2.1 (T_ h.2.2.2.1 (T_ h.2.1 bX_))),trivial⟩) rfl λ⟨⟨T,U⟩,u⟩=>?_);exact gw_
    have d7:=Con.nameR_eq (G.left zaa_);have c5:=Con.nameR_eq (G.right zaa_);refine Zz 6 ?_;refine C_ 7 [0,1,5,6] zk zs (Zz 5 ?_);refine j_ 2 rfl zk (d_ ((ik_ _).2 x.left (yab_ _) H.left ((Con.check_iff _).1 (G.left zaa_)).2.2 (by have:=S.1.2;omega)) rfl e_ (λv _ h=>by exact⟨h.1.1,trivial⟩) rfl λ_=>?_);have d3:=Con.text_len _ x.left (yab_ _) H.left ((Con.check_iff _).1 (G.left zaa_)).2.2;have d8:=px_ x.left;refine Zz 3 ?_;refine C_ 4 [3,4] zk zs ?_;refine G_ rfl (bn_ rfl rfl zad_) rfl ?_;refine G_ rfl (bn_ rfl rfl zad_) rfl ?_;refine bd_ (j_ 7 rfl zk (d_ ((ik_ _).2 x.right (yab_ _) H.right ((Con.check_iff _).1 (G.right zaa_)).2.2 (by have:=S.2.2;omega)) rfl e_ (λv _ h=>by exact⟨h.1.2.1,trivial⟩) rfl λ_=>?_));have c7:=Con.text_len _ x.right (yab_ _) H.right ((Con.check_iff _).1 (G.right zaa_)).2.2;have c8:=px_ x.right;refine Zz 3 ?_;refine C_ 0 [8,9,10] zk zs ?_;refine G_ rfl (bn_ rfl rfl zad_) rfl ?_;refine G_ rfl (bn_ rfl rfl zad_) rfl ?_;refine Zz 6 ?_;refine C_ 11 [0,2,3,5,6,8,9,11,12,16,17] zk zs (Zz 10 ?_);refine G_ rfl (x_ gz_ rfl rfl) rfl (bd_ ?_);refine bx_ 1 18 rfl rfl zk ?_ ?_
    .refine d_ (eK_ (((([60]++(Con.operand x.left))++[32,97,110,100,32])++(Con.operand x.right))++[62]) [33]) rfl e_ zt rfl λk=>Zz 3 ?_
     refine bx_ 4 18 rfl rfl zk ?_ ?_
     .refine d_ (jB_ (((([60]++(Con.operand x.left))++[32,97,110,100,32])++(Con.operand x.right))++[62]) (Con.nameR x.left)) rfl e_ zt rfl λa6=>Zz 3 ?_
      refine bx_ 7 18 rfl rfl zk ?_ ?_
      .refine d_ (ds_ _ x.left (yab_ _) H.left (G.left zaa_)) rfl e_ (λv _ h=>by exact⟨h.2.2.1.1,trivial⟩) rfl λ⟨⟨V,W⟩,F⟩=>?_
       dsimp only;refine I_ F ag_ λe d o L O K=>?_;subst o;refine Zz 3 ?_;refine bx_ 10 18 rfl rfl zk ?_ ?_
       .refine d_ (jB_ (((([60]++(Con.operand x.left))++[32,97,110,100,32])++(Con.operand x.right))++[62]) (Con.nameR x.right)) rfl e_ zt rfl λZ=>Zz 3 ?_
        refine bx_ 13 18 rfl rfl zk ?_ ?_
        .refine d_ (ds_ _ x.right (yab_ _) H.right (G.right zaa_)) rfl e_ (λv _ h=>by exact⟨h.2.2.2.2.1.2.1,trivial⟩) rfl λ⟨⟨a9,a8⟩,R⟩=>?_
         dsimp only;refine I_ R ag_ λB C I a5 a4 a3=>?_;subst I;refine Zz 3 ?_;refine bx_ 14 18 rfl rfl zk ?_ ?_
         .refine p_ aj_ aN_ aG_ rfl rfl rfl rfl rfl rfl λE=>?_
          refine R_ (List.flatMap Pw.cells [(Pw.mk (cp_ (((([60]++(Con.operand x.left))++[32,97,110,100,32])++(Con.operand x.right))++[62]) [33]) (some ⟨k,0,none⟩) 2),(Pw.mk [(Pc.mk 1 (((([60]++(Con.operand x.left))++[32,97,110,100,32])++(Con.operand x.right))++[62]) [] (Con.nameR x.left) [] [] [] 0 0 0)] (some ⟨a6,0,none⟩) 1),(Pw.mk (Con.rright x.left) e d),(Pw.mk [(Pc.mk 1 (((([60]++(Con.operand x.left))++[32,97,110,100,32])++(Con.operand x.right))++[62]) [] (Con.nameR x.right) [] [] [] 0 0 0)] (some ⟨Z,0,none⟩) 1),(Pw.mk (Con.rright x.right) B C)]) f_ rfl ?_;refine Zz 3 ?_;refine bx_ 15 18 rfl rfl zk ?_ ?_
          .refine d_ (bm_ [(Pw.mk (cp_ (((([60]++(Con.operand x.left))++[32,97,110,100,32])++(Con.operand x.right))++[62]) [33]) (some ⟨k,0,none⟩) 2),(Pw.mk [(Pc.mk 1 (((([60]++(Con.operand x.left))++[32,97,110,100,32])++(Con.operand x.right))++[62]) [] (Con.nameR x.left) [] [] [] 0 0 0)] (some ⟨a6,0,none⟩) 1),(Pw.mk (Con.rright x.left) e d),(Pw.mk [(Pc.mk 1 (((([60]++(Con.operand x.left))++[32,97,110,100,32])++(Con.operand x.right))++[62]) [] (Con.nameR x.right) [] [] [] 0 0 0)] (some ⟨Z,0,none⟩) 1),(Pw.mk (Con.rright x.right) B C)] (some ⟨E,0,none⟩) 5 (-1) zak_ zaf_ (J:=x.goalP.1) (cc_ M zaa_ zag_)) rfl e_ (λv _ h=>by exact⟨h.1,(T_ h.2.2.2.2.2.1 (T_ h.2.2.2.2.1 (T_ h.2.2.2.1 (T_ h.2.2.1 (T_ h.2.1 bX_))))),trivial⟩) rfl λ⟨⟨T,U⟩,u⟩=>?_
           dsimp only;refine Zz 3 ?_;refine C_ 3 [19] zk zs (Zz 2 ?_);exact lz_
          refine p_ M_ ar_ ad_ rfl rfl rfl rfl rfl rfl λA=>Zz 3 ?_
          refine j_ 15 rfl zk (d_ (bm_ [(Pw.mk (cp_ (((([60]++(Con.operand x.left))++[32,97,110,100,32])++(Con.operand x.right))++[62]) [33]) (some ⟨k,0,none⟩) 2),(Pw.mk [(Pc.mk 1 (((([60]++(Con.operand x.left))++[32,97,110,100,32])++(Con.operand x.right))++[62]) [] (Con.nameR x.left) [] [] [] 0 0 0)] (some ⟨a6,0,none⟩) 1),(Pw.mk (Con.rright x.left) e d),(Pw.mk [(Pc.mk 1 (((([60]++(Con.operand x.left))++[32,97,110,100,32])++(Con.operand x.right))++[62]) [] (Con.nameR x.right) [] [] [] 0 0 0)] (some ⟨Z,0,none⟩) 1),(Pw.mk (Con.rright x.right) B C)] (some ⟨E,0,none⟩) 5 (-1) zak_ zaf_ (J:=x.goalP.1) (cc_ M zaa_ zag_)) rfl e_ (λv _ h=>by exact⟨h.1,(T_ h.2.2.2.2.2.1 (T_ h.2.2.2.2.1 (T_ h.2.2.2.1 (T_ h.2.2.1 (T_ h.2.1 bX_))))),trivial⟩) rfl λ⟨⟨T,U⟩,u⟩=>?_);dsimp only;refine Zz 3 ?_;refine C_ 0 [19,20,21] zk zs (Zz 7 ?_);exact fm_
         refine p_ M_ ar_ ad_ rfl rfl rfl rfl rfl rfl λE=>Zz 3 ?_
         exact nT_
        refine p_ M_ ar_ ad_ rfl rfl rfl rfl rfl rfl λE=>Zz 3 ?_
        exact lJ_
       refine p_ M_ ar_ ad_ rfl rfl rfl rfl rfl rfl λE=>Zz 3 ?_
       exact lC_
      refine p_ M_ ar_ ad_ rfl rfl rfl rfl rfl rfl λE=>Zz 3 ?_
      exact nN_
     refine p_ M_ ar_ ad_ rfl rfl rfl rfl rfl rfl λE=>Zz 3 ?_
     exact lB_
    refine p_ M_ ar_ ad_ rfl rfl rfl rfl rfl rfl λE=>Zz 3 ?_
    refine j_ 1 rfl zk (d_ (eK_ (((([60]++(Con.operand x.left))++[32,97,110,100,32])++(Con.operand x.right))++[62]) [33]) rfl e_ zt rfl λk=>Zz 3 ?_);exact lB_
   have d7:=Con.nameR_eq (G.left zaa_);have c5:=Con.nameR_eq (G.right zaa_);refine Zz 6 ?_;refine C_ 11 [0,1,3,4,6,7,9,10,12,13,17,18,19,20,21,22] zk zs (Zz 12 ?_);refine G_ rfl (x_ gz_ rfl rfl) rfl (Zz 2 ?_);refine G_ rfl (x_ gz_ rfl rfl) rfl (bd_ ?_);refine bx_ 2 23 rfl rfl zk ?_ ?_
   .refine d_ (eK_ (Con.nameR x.left) (Con.nameR x.right)) rfl e_ zt rfl λk=>Zz 3 ?_
    refine bx_ 5 23 rfl rfl zk ?_ ?_
    .refine d_ (ds_ _ x.left (yab_ _) H.left (G.left zaa_)) rfl e_ (λv _ h=>by exact⟨h.2.1.1,trivial⟩) rfl λ⟨⟨V,W⟩,F⟩=>?_
     dsimp only;refine I_ F ag_ λe d o L O K=>?_;subst o;refine Zz 3 ?_;refine bx_ 8 23 rfl rfl zk ?_ ?_
     .refine d_ (cR_ _ x.right (yab_ _) H.right (G.right zaa_)) rfl e_ (λv _ h=>by exact⟨h.2.2.1.2.1,trivial⟩) rfl λ⟨⟨a9,a8⟩,R⟩=>?_
      dsimp only;refine I_ R ag_ λB C I a5 a4 a3=>?_;subst I;refine Zz 3 ?_;refine bx_ 11 23 rfl rfl zk ?_ ?_
      .refine d_ (ds_ _ x.right (yab_ _) H.right (G.right zaa_)) rfl e_ (λv _ h=>by exact⟨h.2.2.2.1.2.1,trivial⟩) rfl λ⟨⟨c2,c3⟩,b2⟩=>?_
       dsimp only;refine I_ b2 ag_ λa0 a2 b0 b8 b7 b6=>?_;subst b0;refine Zz 3 ?_;refine bx_ 14 23 rfl rfl zk ?_ ?_
       .refine d_ (cR_ _ x.left (yab_ _) H.left (G.left zaa_)) rfl e_ (λv _ h=>by exact⟨h.2.2.2.2.1.1,trivial⟩) rfl λ⟨⟨b9,c0⟩,b1⟩=>?_
        dsimp only;refine I_ b1 ag_ λY X a7 b5 b4 b3=>?_;subst a7;refine Zz 3 ?_;refine bx_ 15 23 rfl rfl zk ?_ ?_
        .refine p_ aj_ aN_ aG_ rfl rfl rfl rfl rfl rfl λE=>?_
         refine R_ (List.flatMap Pw.cells [(Pw.mk (cp_ (Con.nameR x.left) (Con.nameR x.right)) (some ⟨k,0,none⟩) 2),(Pw.mk (Con.rright x.left) e d),(Pw.mk (Con.rleft x.right) B C),(Pw.mk (Con.rright x.right) a0 a2),(Pw.mk (Con.rleft x.left) Y X)]) f_ rfl ?_;refine Zz 3 ?_;refine bx_ 16 23 rfl rfl zk ?_ ?_
         .refine d_ (bm_ [(Pw.mk (cp_ (Con.nameR x.left) (Con.nameR x.right)) (some ⟨k,0,none⟩) 2),(Pw.mk (Con.rright x.left) e d),(Pw.mk (Con.rleft x.right) B C),(Pw.mk (Con.rright x.right) a0 a2),(Pw.mk (Con.rleft x.left) Y X)] (some ⟨E,0,none⟩) 5 (-1) zak_ zaf_ (J:=x.goalP.1) (cc_ M zaa_ zag_)) rfl e_ (λv _ h=>by exact⟨h.1,(T_ h.2.2.2.2.2.1 (T_ h.2.2.2.2.1 (T_ h.2.2.2.1 (T_ h.2.2.1 (T_ h.2.1 bX_))))),trivial⟩) rfl λ⟨⟨T,U⟩,u⟩=>?_
          dsimp only;refine Zz 3 ?_;refine C_ 3 [24] zk zs (Zz 2 ?_);refine j_ 23 rfl zk (p_ M_ ar_ ad_ rfl rfl rfl rfl rfl rfl λA=>Zz 3 ?_);refine C_ 0 [25,26] zk zs (Zz 6 ?_);exact lx_
         refine p_ M_ ar_ ad_ rfl rfl rfl rfl rfl rfl λA=>Zz 3 ?_
         refine j_ 16 rfl zk (d_ (bm_ [(Pw.mk (cp_ (Con.nameR x.left) (Con.nameR x.right)) (some ⟨k,0,none⟩) 2),(Pw.mk (Con.rright x.left) e d),(Pw.mk (Con.rleft x.right) B C),(Pw.mk (Con.rright x.right) a0 a2),(Pw.mk (Con.rleft x.left) Y X)] (some ⟨E,0,none⟩) 5 (-1) zak_ zaf_ (J:=x.goalP.1) (cc_ M zaa_ zag_)) rfl e_ (λv _ h=>by exact⟨h.1,(T_ h.2.2.2.2.2.1 (T_ h.2.2.2.2.1 (T_ h.2.2.2.1 (T_ h.2.2.1 (T_ h.2.1 bX_))))),trivial⟩) rfl λ⟨⟨T,U⟩,u⟩=>?_);dsimp only;refine Zz 3 ?_;refine C_ 0 [24,25,26] zk zs (Zz 7 ?_);exact lx_
        refine p_ M_ ar_ ad_ rfl rfl rfl rfl rfl rfl λE=>Zz 3 ?_
        exact nS_
       refine p_ M_ ar_ ad_ rfl rfl rfl rfl rfl rfl λE=>Zz 3 ?_
       exact lG_
      refine p_ M_ ar_ ad_ rfl rfl rfl rfl rfl rfl λE=>Zz 3 ?_
      exact nO_
     refine p_ M_ ar_ ad_ rfl rfl rfl rfl rfl rfl λE=>Zz 3 ?_
     exact lH_
    refine p_ M_ ar_ ad_ rfl rfl rfl rfl rfl rfl λE=>Zz 3 ?_
    exact lD_
   refine p_ M_ ar_ ad_ rfl rfl rfl rfl rfl rfl λE=>Zz 3 ?_
   refine j_ 2 rfl zk (d_ (eK_ (Con.nameR x.left) (Con.nameR x.right)) rfl e_ zt rfl λk=>Zz 3 ?_);exact lD_
  have d7:=Con.nameR_eq (G.left zaa_);have c5:=Con.nameR_eq (G.right zaa_);refine Zz 6 ?_;refine C_ 9 [0,1,3,4,6,7,11,12,13] zk zs (Zz 8 ?_);refine G_ rfl (x_ gz_ rfl rfl) rfl (bd_ ?_);refine bx_ 2 14 rfl rfl zk ?_ ?_
  .refine d_ (eK_ (Con.nameR x.left) (Con.nameR x.right)) rfl e_ zt rfl λk=>Zz 3 ?_
   refine bx_ 5 14 rfl rfl zk ?_ ?_
   .refine d_ (ds_ _ x.left (yab_ _) H.left (G.left zaa_)) rfl e_ (λv _ h=>by exact⟨h.2.1.1,trivial⟩) rfl λ⟨⟨V,W⟩,F⟩=>?_
    dsimp only;refine I_ F ag_ λe d o L O K=>?_;subst o;refine Zz 3 ?_;refine bx_ 8 14 rfl rfl zk ?_ ?_
    .refine d_ (cR_ _ x.right (yab_ _) H.right (G.right zaa_)) rfl e_ (λv _ h=>by exact⟨h.2.2.1.2.1,trivial⟩) rfl λ⟨⟨a9,a8⟩,R⟩=>?_
     dsimp only;refine I_ R ag_ λB C I a5 a4 a3=>?_;subst I;refine Zz 3 ?_;refine bx_ 9 14 rfl rfl zk ?_ ?_
     .refine p_ aj_ aN_ aG_ rfl rfl rfl rfl rfl rfl λE=>?_
      refine R_ (List.flatMap Pw.cells [(Pw.mk (cp_ (Con.nameR x.left) (Con.nameR x.right)) (some ⟨k,0,none⟩) 2),(Pw.mk (Con.rright x.left) e d),(Pw.mk (Con.rleft x.right) B C)]) f_ rfl ?_;refine Zz 3 ?_;refine bx_ 10 14 rfl rfl zk ?_ ?_
      .refine d_ (bm_ [(Pw.mk (cp_ (Con.nameR x.left) (Con.nameR x.right)) (some ⟨k,0,none⟩) 2),(Pw.mk (Con.rright x.left) e d),(Pw.mk (Con.rleft x.right) B C)] (some ⟨E,0,none⟩) 3 (-1) zak_ zaf_ (J:=x.goalP.1) (cc_ M zaa_ zag_)) rfl e_ (λv _ h=>by exact⟨h.1,(T_ h.2.2.2.1 (T_ h.2.2.1 (T_ h.2.1 bX_))),trivial⟩) rfl λ⟨⟨T,U⟩,u⟩=>?_
       dsimp only;refine Zz 3 ?_;refine C_ 3 [15] zk zs (Zz 2 ?_);refine j_ 14 rfl zk (p_ M_ ar_ ad_ rfl rfl rfl rfl rfl rfl λA=>Zz 3 ?_);refine C_ 0 [16,17] zk zs (Zz 6 ?_);exact fm_
      refine p_ M_ ar_ ad_ rfl rfl rfl rfl rfl rfl λA=>Zz 3 ?_
      refine j_ 10 rfl zk (d_ (bm_ [(Pw.mk (cp_ (Con.nameR x.left) (Con.nameR x.right)) (some ⟨k,0,none⟩) 2),(Pw.mk (Con.rright x.left) e d),(Pw.mk (Con.rleft x.right) B C)] (some ⟨E,0,none⟩) 3 (-1) zak_ zaf_ (J:=x.goalP.1) (cc_ M zaa_ zag_)) rfl e_ (λv _ h=>by exact⟨h.1,(T_ h.2.2.2.1 (T_ h.2.2.1 (T_ h.2.1 bX_))),trivial⟩) rfl λ⟨⟨T,U⟩,u⟩=>?_);dsimp only;refine Zz 3 ?_;refine C_ 0 [15,16,17] zk zs (Zz 7 ?_);exact fm_
     refine p_ M_ ar_ ad_ rfl rfl rfl rfl rfl rfl λE=>Zz 3 ?_
     exact nQ_
    refine p_ M_ ar_ ad_ rfl rfl rfl rfl rfl rfl λE=>Zz 3 ?_
    exact lI_
   refine p_ M_ ar_ ad_ rfl rfl rfl rfl rfl rfl λE=>Zz 3 ?_
   exact lE_
  refine p_ M_ ar_ ad_ rfl rfl rfl rfl rfl rfl λE=>Zz 3 ?_
  refine j_ 2 rfl zk (d_ (eK_ (Con.nameR x.left) (Con.nameR x.right)) rfl e_ zt rfl λk=>Zz 3 ?_);exact lE_
 refine Zz 12 ?_;have c1:x.goalP=([],[],x.check):=ue_ (by simpa using c4);exact lA_
theorem rs_ {x:Ax} (d:x.ok):x.goalP.1.length<=2000/\(x.goalP.2.2=0->∀ q∈x.goalP.1,PcN q):=by
 by_cases o:x.check=0
 .by_cases e:x.kind=5\/x.kind=6\/x.kind=7
  .grind[wK_]
  obtain⟨h,_⟩:=Cs_ d o e;exact⟨h.len,λ_ q k=>zN_ (h.pq q k).ok⟩
 grind[ue_]
theorem AX_ {q:List Pc}:∀ s∈dJ_ q,s≠[]:=by grind[lj_,dq_,mQ_]
theorem xR_ (l:List Pc) (ad:Ao) (cap:Nat) (hl:l.length<=10000000000):Tri prog 49 #[.slice ad l.length cap] [] [O_ ad (l.flatMap Pc.cells)] (λy:{y:Ao×Nat // (dJ_ l).length<=y.2/\y.2<=maxLen/\(y.1=none->y.2=0)}=>.slice y.1.1 (dJ_ l).length y.1.2) (λ_=>[]) (λy=>[O_ y.1.1 ((dJ_ l).flatMap V_)]):=by
  have h:=zC_ l ad cap hl;generalize e:dN_ l=X at h
  rw[show dJ_ l=X from (qh_ l).trans e];exact h
theorem of15_c (l:List Ax) (ad:Ao) (cap:Nat) (T:l.length<=cap/\cap<=2199023255488) (K:∀ x∈l,x.ok) (Y:l.length<=12) (b4:∀ x∈l,Ax.Few x) (H:∀ x∈l,x.left.sz<=1000/\x.right.sz<=1000) (x:Ax) (a2:x.ok) (b5:x.left.sz<=1000) (b7:x.right.sz<=1000):Tri prog 14 #[.agg #[.slice ad l.length cap],Ax.val x] [] [bA_ ad l,Ax.memF x] (λy:{y:Value×Hp×List Ax×Int // av_ 30 16 y.1 y.2.2.1.length (y.2.2.1.flatMap Ax.cells) y.2.1/\OfR l x.goalP.1 x.goalP.2.2 y.2.2.1 y.2.2.2}=>.tuple #[.agg #[y.1.1],i4_ y.1.2.2.2]) (λy=>y.1.2.1) (λ_=>[]):=by
 refine l_ func14 rfl rfl ntmps14 rfl λv_1=>?_;refine Zz 2 ?_;refine Q_ rfl rfl λb_1=>Q_ rfl rfl λb2=>K_ cE_ rfl λb_3=>Zz 6 ?_
 refine d_ (lc_ l ad cap T K Y b4 H) rfl e_ zf rfl λ⟨⟨pad,pcap,p,A⟩,B,b6,G,O,E⟩=>?_;dsimp only;try dsimp only at B b6 G O E
 refine Zi 11 (λd=>?_) λd=>?_
 .obtain⟨U,Q,hpe⟩:=B.ok zbe_
  have hpn:=MpR.N Y K Q hpe;have a5:A=0:=by simpa using d
  refine Zz 8 ?_;refine d_ (zz_ x a2 b5 b7) rfl e_ zf rfl λ⟨⟨qad,a4,fv⟩,F,M,C⟩=>?_;dsimp only;try dsimp only at F M C
  obtain⟨hgl,hgn⟩:=rs_ a2;refine Zi 13 (λe=>?_) λe=>?_
  .have hgz:(Prod.snd (Ax.goalP x).2)=0:=by simpa using e
   refine Zi 13 (λW=>?_) λW=>?_
   .refine Zz 6 ?_
    refine aW_ ((b2,.cells (Ax.cells x).toArray 30 (0,0))::((b_1,.cells #[.slice ad l.length cap] 24 (0,0))::[])) zk ?_;refine C_ 10 [0,1,2,4,6,8] zk zs (Zz 7 ?_);refine j_ 3 rfl zk (dc_ u_ ab_ rfl λb3=>s_ f_ (Zz 2 ?_));refine y_ zs (j_ 5 rfl zk (aY_ (news:=List.flatMap Pc.cells p) sC_ (dr_ b3 80 10) rfl rfl E G ag_ zaQ_ zf (λu hu=>aF_ Pc.cells_one hu) zbK_ zbY_ rfl λR X d=>?_));refine s_ yah_ ?_;have a3:av_ 80 10 R (List.length (([]:List Pc)++p)) (List.flatMap Pc.cells (([]:List Pc)++p)) X:=by rw[yae_,yan_];exact d
    refine Zz 2 ?_;refine y_ (λ_ a b=>⟨Vw.sat.sub (a.perm (E_ (g_ f_) (g_ f_))),b⟩) (j_ 7 rfl zk (aY_ (news:=List.flatMap Pc.cells (Ax.goalP x).1) sC_ a3 rfl rfl C F (g_ (g_ ah_)) zaQ_ (λv _ h=>by exact h.1) (λu hu=>aF_ Pc.cells_one hu) zbK_ zbY_ rfl λV a7 e=>?_));refine s_ yah_ ?_;have Z:=zsa e;refine Zz 2 ?_;refine y_ (λ_ a b=>⟨Vw.sat.sub (a.perm (E_ (g_ f_) (g_ f_))),b⟩) (j_ 9 rfl zk (d_ (xR_ (Ax.goalP x).1 qad a4 zaa_) rfl e_ (λv _ h=>by exact⟨h.1,trivial⟩) rfl λ⟨⟨aad,acap⟩,hca⟩=>?_));dsimp only;refine Zz 2 ?_;refine y_ (λ_ a b=>⟨Vw.sat.sub (a.perm (E_ (g_ f_) (g_ f_))),b.2⟩) (j_ 10 rfl zk ?_);have a0:av_ 80 10 V (p++(Ax.goalP x).1).length (List.flatMap Pc.cells (p++(Ax.goalP x).1)) a7:=by have q:=Z;simpa only[ycQ_] using q
    refine I_ a0 (g_ (g_ ah_)) λa6 L J b0 b1 a9=>?_;subst J;refine d_ (pA_ l ad cap zaa_ (p++(Ax.goalP x).1) a6 L (dJ_ (Ax.goalP x).1) aad acap (λz H=>by rcases yaj_.1 H with H|H;exact hpn z H;exact hgn zaa_ z H) AX_ (by rw[yae_];omega) (by have:=qi_ (Ax.goalP x).1;rw[<-qh_]at this;omega)) rfl e_ zf rfl λ⟨⟨wad,a8⟩,hwc⟩=>?_;dsimp only;refine Zz 2 ?_;refine y_ zs (j_ 11 rfl zk (d_ (si_ l ad cap K H zaa_ U (dE_ l (p++(Ax.goalP x).1) (dJ_ (Ax.goalP x).1) l.length) wad a8 (λx hx=>(pB_.1 hx).1) (sf_ _) (by have:=gV_ (l:=l) (p:=(p++(Ax.goalP x).1)) (S:=(dJ_ (Ax.goalP x).1)) l.length;omega)) rfl e_ zf rfl λ⟨⟨a1,Hqq⟩,I⟩=>?_));dsimp only;dsimp only at I ⊢;refine Zz 2 ?_;refine y_ zs (C_ 2 [12,13] zk zs (Zz 3 ?_));refine j_ 14 rfl zk (s_ (aL_ (ae_ f_) (aL_ (ae_ f_) (cg_ bS_))) (o_ 0 ap_ rfl rfl rfl rfl rfl (by have q:=(en_ I).2;simp only[Value.cells,ycj_,ycH_,q,ych_]) ?_));refine Zz 2 ?_;refine y_ (λ_ a b=>⟨Vw.sat.sub (a.perm (E_ (g_ f_) (g_ f_))),b.2.2.2⟩) (C_ 0 [15] zk (λ_ a b=>⟨Vw.sat.sub (a.perm (E_ (g_ f_) (g_ f_))),b.2.2.2⟩) (Zz 5 ?_));exact cs_ ⟨(a1,Hqq,(dB_ l (dE_ l (p++(Ax.goalP x).1) (dJ_ (Ax.goalP x).1) l.length)),0),I,⟨p,A,B,.inr (.inr (.inr ⟨a5,hgz,by omega,rfl,rfl⟩))⟩⟩ (λP v o k=>br_ (us:=[a1]) 0 results14 ca_ ap_ rfl rfl rfl rfl P v o k) (g_ (g_ ah_)) zt
   refine Zz 5 ?_;refine c_ (x_ fv_ rfl rfl) rfl (o_ 0 ap_ rfl rfl rfl rfl rfl rfl (Zz 4 ?_));exact cs_ ⟨(.slice none 0 0,[],[],2),av_.nil _ _,⟨p,A,B,.inr (.inr (.inl ⟨by simpa using d,by simpa using e,by omega,rfl,rfl⟩))⟩⟩ (λP v o k=>br_ (us:=[.slice none 0 0]) 0 results14 ca_ ap_ rfl rfl rfl rfl P v o k) e_ zt
  refine Zz 5 ?_;refine c_ (x_ fv_ rfl rfl) rfl (Zz 1 ?_);refine o_ 0 ap_ rfl rfl rfl rfl rfl rfl (Zz 4 ?_);exact cs_ ⟨(.slice none 0 0,[],[],(Prod.snd (Ax.goalP x).2)),av_.nil _ _,⟨p,A,B,.inr (.inl ⟨by simpa using d,by simpa using e,rfl,rfl⟩)⟩⟩ (λP v o k=>br_ (us:=[.slice none 0 0]) 0 results14 ca_ ap_ rfl rfl rfl rfl P v o k) e_ zt
 refine Zz 5 ?_;refine c_ (x_ fv_ rfl rfl) rfl (Zz 1 ?_);refine o_ 0 ap_ rfl rfl rfl rfl rfl rfl (Zz 4 ?_);exact cs_ ⟨(.slice none 0 0,[],[],A),av_.nil _ _,⟨p,A,B,.inl ⟨by simpa using d,rfl,rfl⟩⟩⟩ (λP v o k=>br_ (us:=[.slice none 0 0]) 0 results14 ca_ ap_ rfl rfl rfl rfl P v o k) e_ zt
theorem ix_ {l:List Str} {i:Nat} {x:Str} (e:l[i]? = some x):l.drop i=x::l.drop (i+1):=by
  grind[List.drop_eq_getElem_cons]
structure WV (l:List Str) (n:Str) (i:Nat) (F:List Str) (d:Bool):Prop where
  inc:F.Pairwise λx y=>x<y
  low:∀ x∈F,∀ y∈l.drop i,x<y
  yes:d=true->(∀ x,x∈F↔x=n\/x∈l.take i)/\∀ y∈l.drop i,n<y
  no:d=false->(∀ x,x∈F↔x∈l.take i)/\∀ x∈l.take i,x<n
  len:F.length<=i+1/\(d=false->F.length<=i)
theorem WV.nil (l:List Str) (n:Str):WV l n 0 [] false:=⟨by simp,by simp,(λe=>by cases e),λ_=>⟨by simp,by simp⟩,by simp⟩
section
variable {l F:List Str} {n x:Str} {i:Nat} {d:Bool}
theorem rN_ (e:l.Pairwise λx y=>x<y) (k:l[i]? = some x):∀ y∈l.drop (i+1),x<y:=by
  have h:=e.drop (i:=i);rw[ix_ k,yaX_]at h;exact h.1
theorem WV.put (k:l.Pairwise λx y=>x<y) (h:WV l n i F d) (e:l[i]? = some x):(F++[x]).Pairwise (λx y=>x<y)/\∀ z∈F++[x],∀ y∈l.drop (i+1),z<y:=by
  have hl:=h.low;rw[ix_ e]at hl
  grind[inc,rN_]
theorem kl_ (e:l[i]? = some x) (z:Str):z∈l.take (i+1)↔z∈l.take i\/z=x:=by
  grind[List.take_add_one]
theorem WV.skip (u:l.Pairwise λx y=>x<y) (h:WV l n i F d) (v:l[i]? = some x) (A:d=true\/x<n):WV l n (i+1) (F++[x]) d:=by
 obtain⟨k,o⟩:=h.put u v;refine⟨k,o,λe=>?_,λe=>?_,?_⟩
 .obtain⟨a,b⟩:=h.yes e
  grind[kl_]
 .obtain⟨a,b⟩:=h.no e
  grind[kl_]
 have:=h.len
 grind
theorem WV.same (v:l.Pairwise λx y=>x<y) (h:WV l n i F d) (k:l[i]? = some x) (e:x=n):WV l n (i+1) (F++[x]) true:=by
 obtain⟨o,u⟩:=h.put v k;subst e;refine⟨o,u,λ_=>⟨λz=>?_,rN_ v k⟩,(λe=>by cases e),?_⟩
 .rw[yaj_,yal_,kl_ k]
  cases d with
  | false=>rw[(h.no rfl).1];grind
  | true =>
    have:=(h.yes rfl).2;rw[ix_ k]at this
    grind[List.mem_cons_self]
 have:=h.len
 grind
theorem WV.ins (A:l.Pairwise λx y=>x<y) (h:WV l n i F false) (u:l[i]? = some x) (k:n<x):WV l n (i+1) ((F++[n])++[x]) true:=by
 obtain⟨a,b⟩:=h.no rfl;have v:=rN_ A u;have hl:=h.low;rw[ix_ u]at hl;refine⟨?_,λz B y o=>?_,λ_=>⟨λz=>?_,λy o=>List.lt_trans k (v y o)⟩,(λe=>by cases e),?_⟩
 .grind[inc]
 .grind
 .grind[kl_]
 have:=h.len.2 rfl
 grind
structure WithV (l:List Str) (n:Str) (F:List Str):Prop where
  inc:F.Pairwise λx y=>x<y
  mem:∀ x,x∈F↔x=n\/x∈l
  len:F.length<=l.length+1
theorem WV.end1 (h:WV l n i F true) (hi:l.length<=i) (hl:i<=l.length):WithV l n F:=by
  have e:=(h.yes rfl).1;rw[yac_ hi]at e;exact⟨h.inc,e,by have:=h.len.1;omega⟩
theorem WV.end0 (h:WV l n i F false) (hi:l.length<=i) (hl:i<=l.length):WithV l n (F++[n]):=by
 obtain⟨a,b⟩:=h.no rfl;rw[yac_ hi]at a b;refine⟨ybX_.2 ⟨h.inc,by simp,λu k v e=>?_⟩,λx=>?_,?_⟩
 .grind
 .grind
 have:=h.len.2 rfl
 grind
end
end Go.Proofs.YtbffkokbdeppaaaGreatDoor
namespace Go.Proofs.YtbffkokbdeppaaaGreatDoor
open Go Go.Sx Go.Proofs Tryz
attribute [local irreducible] Code.wp wpList wpAnyH
open Go.Vs
structure Nmr where
  c:List Str
  cad:Ao
  ccap:Nat
  r:List Str
  rad:Ao
  rcap:Nat
  f:List Str
  fad:Ao
  fcap:Nat
  i:List Str
  iad:Ao
  icap:Nat
def Nmr.cells (x:Nmr):List Value:=[.slice x.cad x.c.length x.ccap,.slice x.rad x.r.length x.rcap,.slice x.fad x.f.length x.fcap,.slice x.iad x.i.length x.icap]
def Nmr.val (x:Nmr):Value:=.agg x.cells.toArray
def Nmr.no:Nmr:=⟨[],none,0,[],none,0,[],none,0,[],none,0⟩
structure Nmr.ok (x:Nmr):Prop where
  c:x.c.length<=x.ccap/\x.ccap<=maxLen/\(x.cad=none->x.ccap=0)
  r:x.r.length<=x.rcap/\x.rcap<=maxLen/\(x.rad=none->x.rcap=0)
  f:x.f.length<=x.fcap/\x.fcap<=maxLen/\(x.fad=none->x.fcap=0)
  i:x.i.length<=x.icap/\x.icap<=maxLen/\(x.iad=none->x.icap=0)
theorem Nmr.no_ok:Nmr.no.ok:=⟨by grind[no],by grind[no],by grind[no],by grind[no]⟩
def Nmr.row (x:Nmr):List Fct:=[O_ x.cad (x.c.flatMap V_),O_ x.rad (x.r.flatMap V_),O_ x.fad (x.f.flatMap V_),O_ x.iad (x.i.flatMap V_)]
theorem BF_ {l:List Str} (h:SrS l):l.Nodup:=h.imp fun {a b} q e=>by grind
theorem jG_ {c:Con} (h:c.check=0) {r:Str} (o:r∈c.nms 4):bk_ r=true:=by
  unfold Con.nms at o;obtain⟨d,k,rfl⟩:=yaM_.1 o;rw[ybC_]at k;have e:d.kind=4:=by grind
  exact (Con.names_of ((Con.check_iff d).1 (qX_ _ c (yab_ _) h d k.1)).2.2).person e
theorem lg_ {c:Con} (h:c.empty=true) {k:Int} (d:k≠0) {r:Str}:r ∉ c.nms k:=by grind[Con.empty,Con.nms_eq]
section
variable {l:List Ax} (hC:∀ x∈l,x.check=0) {r:Str}
include hC
theorem qy_ {k:Int} (d:r∈vcL k l):∃ x∈l,x.check=0/\r∈x.vc k/\((us x.kind).left=true\/x.left.empty=true)/\((us x.kind).right=true\/x.right.empty=true)/\((us x.kind).a=true\/x.a=[])/\((us x.kind).b=true\/x.b=[]):=by
  unfold vcL at d;obtain⟨x,h,d⟩:=ybe_.1 d;have e:=hC x h;have o:=jT_ e
  grind[Ax.shaped]
omit hC in
theorem mR_ {G:Prop} (h:G:=by
 rcases u with e|e|e|e|e|e|e|e|e<;>rw[e]at q<;>first|omega|exact absurd q zaj_):G:=h
theorem oa_ (d:r∈vcL 4 l) (B:r≠[]):bk_ r=true:=by
 obtain⟨x,C,A,d,v,y,o,k⟩:=qy_ hC d;have h:=Ax.good_of A;have u:x.kind=1\/x.kind=2\/x.kind=3\/x.kind=4\/x.kind=5\/x.kind=6\/x.kind=7\/x.kind=8\/x.kind=9:=by have:=h.k1;have:=h.k9;omega
 unfold Ax.vc at d;rw[yam_ zaj_,yax_ rfl,yas_,yaj_,yaj_,yar_,yal_]at d;rcases d with (d|d)|rfl|rfl
 .grind[jG_,hx_,lg_]
 .grind[jG_,fF_,lg_]
 .rcases o with q|q
  .refine h.a ?_
   exact mR_
  grind
 rcases k with q|q
 .refine h.b ?_
  exact mR_
 grind
end
end Go.Proofs.YtbffkokbdeppaaaGreatDoor
namespace Go.Proofs.YtbffkokbdeppaaaGreatDoor
open Go Go.Sx Go.Proofs Tryz
attribute [local irreducible] Code.wp wpList wpAnyH
open Go.Vs
theorem szs_take_le:∀ (l:List Con) (i:Nat),Con.sz.szs (l.take i)<=Con.sz.szs l
  | [],i=>by simp
  | c::l,0=>by simp[Con.sz.szs]
  | c::l,i+1=>by
    have:=szs_take_le l i;simp only[ycb_,Con.sz.szs];omega
def IdR (l:List Ax) (X:List Ax) (e:Int):Prop:=∃ P e1,MpR l P e1/\((e1≠0/\e=e1/\X=[])\/(e1=0/\e=0/\∃ I,iI_ 4 l I/\X=dB_ l (dE_ l P (I.map bY_) l.length)))
theorem qo_ (l:List Ax) (ad:Ao) (cap:Nat) (X:∀ x∈l,x.ok) (hll:l.length<=12):Tri prog 15 #[.agg #[.slice ad l.length cap]] [] [bA_ ad l,cy_] (λy:{y:Value×Hp×List Ax×Int // av_ 30 16 y.1 y.2.2.1.length (y.2.2.1.flatMap Ax.cells) y.2.1/\IdR l y.2.2.1 y.2.2.2}=>.tuple #[.agg #[y.1.1],i4_ y.1.2.2.2]) (λy=>y.1.2.1) (λ_=>[]):=by
 refine l_ func15 rfl rfl ntmps15 rfl λv_1=>?_;refine Zz 2 ?_;refine Q_ rfl rfl λY=>K_ cE_ rfl λT=>Zz 6 ?_
 refine d_ (mb_ l ad cap X hll) rfl e_ zf rfl λ⟨⟨O,J,p,E⟩,I,hPl,Q,P⟩=>?_;dsimp only;try dsimp only at I hPl Q P
 refine Zi 11 (λA=>?_) λA=>?_
 .have L:E=0:=by simpa using A
  have hC:∀ x∈l,x.check=0:=kp_ (uz_ (I.ok L).1).1;have hzb:∀ x∈l,x.left.sz<=1000000/\x.right.sz<=1000000/\x.roles.length<=1000000:=λx hx=>⟨by have:=(jR_ (hC x hx)).1;omega,by have:=(jR_ (hC x hx)).2;omega,by have:=Dl_ (hC x hx);omega⟩
  refine Zz 9 ?_;refine d_ (voc_c l ad cap X hC zaa_) rfl e_ zf rfl λ⟨⟨⟨a1,cad,ccp⟩,⟨R_1,rad,rcp⟩,⟨F_1,S,ecp⟩,⟨d,R,xcp⟩⟩,⟨hv_1,hk_1⟩,⟨hv_2,hk_2⟩,⟨hv_3,a0⟩,e,hk_4⟩=>?_;dsimp only;dsimp only at hv_1 hk_1 hv_2 hk_2 hv_3 a0 e hk_4;have hIn:d.length<=48000000:=by have H:=hL_ (BF_ e.1) (m:=vcL 4 l) λn hn=>((e.2 n).1 hn).1;have F:=rP_ (k:=4) (l:=l) hzb;omega
  refine Zz 3 ?_;refine K_ he_ rfl λb_3=>o_ 0 eb_ rfl rfl rfl rfl rfl rfl (Zz 7 ?_)
  refine c_ (aD_ (cP_ rfl rfl) (show _=Value.bool false from yag_ Value.bool zaj_)) rfl (Zz 20 ?_);refine Y_ (ι:={y:Nat×Value×Hp // y.1<=List.length d/\zR 9 1 V_ y.2.1 (List.map bY_ (d.take y.1)) y.2.2}) (λy=>[(1,zp_ Y 0),(2,zp_ T 0),(3,i4_ 0),(4,.slice O p.length J),(6,y.1.2.1),(29,.slice R d.length xcp),(30,i4_ (List.length d:Int)),(31,i4_ y.1.1)]) (λy=>((b_3,.cells #[.slice cad a1.length ccp,.slice rad R_1.length rcp,.slice S F_1.length ecp,.slice R d.length xcp] 83 (0,0))::((T,.cells #[.slice none 0 0] 24 (0,0))::((Y,.cells #[.slice ad l.length cap] 24 (0,0))::y.1.2.2)))) (λy=>[O_ cad (a1.flatMap V_),O_ rad (R_1.flatMap V_),O_ S (F_1.flatMap V_),O_ R (d.flatMap V_),O_ O (p.flatMap Pc.cells),bA_ ad l,cy_]) (λy=>d.length - y.1.1) ⟨((0:Nat),(.slice none 0 0),[]),by simp,(av_.nil _ _)⟩ zl zp zh ?_;rintro ⟨⟨i,sv_T,H_T⟩,hi_i,h⟩;dsimp only at hi_i h ⊢;have hil:List.length (List.map bY_ (d.take i))<=48000000:=by rw[yaB_];exact yaI_ (ybi_ i _) zaa_
  refine Zi 2 (λC=>?_) λC=>?_
  .have hw_1:av_ 9 1 sv_T (d.map bY_).length (List.flatMap V_ (d.map bY_)) H_T:=by have q:=h;rw[yac_ (l:=d) zaa_]at q;exact q
   refine Zz 12 ?_;refine I_ hw_1 (g_ (g_ ah_)) λtad W U hctad hmtad hztad=>?_;subst U;refine d_ (vl_ l ad cap p O J (d.map bY_) tad W zaa_ zaz_ zaa_) rfl e_ zf rfl λ⟨⟨svq,Hqq,Lq⟩,M,hLq⟩=>?_;dsimp only;dsimp only at M hLq ⊢;subst hLq;refine s_ (aL_ (ae_ f_) (aL_ (ae_ f_) (cg_ bS_))) (o_ 1 ap_ rfl rfl rfl rfl rfl zbE_ ?_);refine Zz 4 ?_;exact cs_ ⟨(svq,Hqq,(dB_ l (dE_ l p (d.map bY_) l.length)),0),M,⟨p,E,I,.inr ⟨L,rfl,d,e,rfl⟩⟩⟩ (λaa v H F=>br_ (us:=[svq]) 1 results15 ca_ ap_ rfl rfl rfl rfl aa v H F) (g_ (g_ ah_)) zt
  have o:i<d.length:=by omega
  obtain⟨G,K⟩:∃ e_2,d[i]? = some e_2:=⟨_,yaa_ o⟩;have B:G∈d:=yad_ K;have hsl:=fo_ (oa_ hC ((e.2 G).1 B).1 (((e.2 G).1 B).2 (.inr rfl)));refine Zz 18 ?_;refine c_ (bn_ rfl rfl zaC_) rfl ?_;refine c_ (bn_ rfl rfl zaC_) rfl ?_;refine p_ m_ B_ ak_ rfl rfl rfl rfl rfl rfl λb_4=>?_;refine am_ (news:=List.flatMap V_ [([123]++G)++[125]]) ch_ h rfl rfl zp rfl (aO_ 0 rfl) (λu hu=>aF_ bN_ hu) zab_ zac_ rfl λV Z C=>?_;refine s_ yah_ ?_;have hq_1:=zsa C;refine Zz 8 ?_;exact w_ ⟨(i+1,V,Z),o,(by rw[tk1 K,yaz_];exact hq_1)⟩ zae_ zl (E_ (g_ f_) (E_ (g_ f_) (E_ (g_ f_) ah_))) zh
 refine Zz 5 ?_;refine c_ (x_ fv_ rfl rfl) rfl (Zz 1 ?_);refine o_ 0 ap_ rfl rfl rfl rfl rfl rfl (Zz 4 ?_);exact cs_ ⟨(.slice none 0 0,[],[],E),av_.nil _ _,⟨p,E,I,.inl ⟨by simpa using A,rfl,rfl⟩⟩⟩ (λaa v H F=>br_ (us:=[.slice none 0 0]) 0 results15 ca_ ap_ rfl rfl rfl rfl aa v H F) e_ zt
theorem ml_ {l:List Ax} (h:∀ x∈l,Ax.Few x):∀ x∈l,x.left.sz<=1000/\x.right.sz<=1000:=λx d=>⟨by have:=(h x d).left;omega,by have:=(h x d).right;omega⟩
theorem ExR.uniq {l X Y:List Ax} {S:List Str} {e f:Int} (h:ExR l S X e) (g:ExR l S Y f):X=Y/\e=f:=by
  obtain⟨a,d,h⟩:=h;obtain⟨b,k,g⟩:=g;have q:=d.uniq k
  grind
theorem IdR.uniq {l X Y:List Ax} {e f:Int} (h:IdR l X e) (g:IdR l Y f):X=Y/\e=f:=by
 obtain⟨P,a,F,h⟩:=h;obtain⟨Q,b,B,g⟩:=g;obtain⟨v,x⟩:=F.uniq B;subst v x;rcases h with⟨y,o,d⟩|⟨y,o,I,d,C⟩<;>rcases g with⟨u,A,k⟩|⟨u,A,J,k,E⟩
 .grind
 .grind
 .grind
 have q:=d.uniq k
 grind
theorem wt_ {l:List Ax} {W:List Int}:∀ x∈dB_ l W,x∈l:=by grind[qS_]
theorem ws_ {l:List Ax} {p:List Pc} {S:List Str}:(dB_ l (dE_ l p S l.length)).length<=l.length:=yaI_ (ycv_ _ _) (gV_ _)
theorem OfR.subl {l X:List Ax} {q:List Pc} {d e:Int} (h:OfR l q d X e):(∀ x∈X,x∈l)/\X.length<=l.length:=by
  obtain⟨P,a,k,h|h|h|h⟩:=h
  all_goals grind[wt_,ws_]
theorem IdR.subl {l X:List Ax} {e:Int} (h:IdR l X e):(∀ x∈X,x∈l)/\X.length<=l.length:=by
  obtain⟨P,a,d,h|⟨_,_,I,_,h⟩⟩:=h
  all_goals grind[wt_,ws_]
theorem BB_ {x s:Str} (e:x≠s) (d:¬ s<x):x<s:=by
  grind
structure NmJ (x:Nmr) (D:List Str) (n:Nat):Prop where
  sc:SrS x.c
  sr:SrS x.r
  sf:SrS x.f
  si:SrS x.i
  lc:x.c.length<=n
  lr:x.r.length<=n
  lf:x.f.length<=n
  li:x.i.length<=n
  m:∀ s,s∈x.i↔s∈D
section
variable {x:Nmr} {D E F:List Str} {n m:Nat} {s:Str} {ad:Ao} {cp:Nat}
theorem NmJ.no:NmJ Nmr.no [] 0:=⟨.nil,.nil,.nil,.nil,yab_ _,yab_ _,yab_ _,yab_ _,λs=>by simp[Nmr.no]⟩
theorem NmJ.to (h:NmJ x D n) (e:D=E) (q:n<=m):NmJ x E m:=e▸⟨h.sc,h.sr,h.sf,h.si,yaI_ h.lc q,yaI_ h.lr q,yaI_ h.lf q,yaI_ h.li q,h.m⟩
theorem NmJ.putc (h:NmJ x D n) (w:WithV x.c s F):NmJ ⟨F,ad,cp,x.r,x.rad,x.rcap,x.f,x.fad,x.fcap,x.i,x.iad,x.icap⟩ D (n+1) :=
  ⟨w.inc,h.sr,h.sf,h.si,yaI_ w.len (ycK_ h.lc),yaW_ h.lr,yaW_ h.lf,yaW_ h.li,h.m⟩
theorem NmJ.putr (h:NmJ x D n) (w:WithV x.r s F):NmJ ⟨x.c,x.cad,x.ccap,F,ad,cp,x.f,x.fad,x.fcap,x.i,x.iad,x.icap⟩ D (n+1) :=
  ⟨h.sc,w.inc,h.sf,h.si,yaW_ h.lc,yaI_ w.len (ycK_ h.lr),yaW_ h.lf,yaW_ h.li,h.m⟩
theorem NmJ.putf (h:NmJ x D n) (w:WithV x.f s F):NmJ ⟨x.c,x.cad,x.ccap,x.r,x.rad,x.rcap,F,ad,cp,x.i,x.iad,x.icap⟩ D (n+1) :=
  ⟨h.sc,h.sr,w.inc,h.si,yaW_ h.lc,yaW_ h.lr,yaI_ w.len (ycK_ h.lf),yaW_ h.li,h.m⟩
theorem NmJ.puti (h:NmJ x D n) (w:WithV x.i s F):NmJ ⟨x.c,x.cad,x.ccap,x.r,x.rad,x.rcap,x.f,x.fad,x.fcap,F,ad,cp⟩ (D++[s]) (n+1) :=
  ⟨h.sc,h.sr,h.sf,w.inc,yaW_ h.lc,yaW_ h.lr,yaW_ h.lf,yaI_ w.len (ycK_ h.li),λz=>by rw[w.mem,h.m,yaj_,yal_,or_comm]⟩
end
theorem Co_ {x:Ax} (C:x.check=0) {r:Str} (y:r∈x.inds):r≠[]/\r∈x.vc 4:=by
  have v:r∈x.inds->r∈x.vc 4:=λh=>by
    grind[Ax.inds,Ax.vc]
  refine⟨?_,v y⟩;obtain⟨z,d,A,_,o,u,_,_⟩:=qy_ (l:=[x]) (k:=4) (r:=r) (λz d=>by grind) (by grind[vcL]);rw[yal_]at d;subst d;have B:bk_ r=true->r≠[]:=λh e=>by subst e;revert h;decide
  grind[Ax.inds,jG_,hx_,lg_,fF_]
theorem NmJ.voc {x:Nmr} {l:List Ax} {n:Nat} (k:∀ x∈l,x.check=0) (h:NmJ x (iE_ l) n):iI_ 4 l x.i:=by
 refine⟨h.si,λr=>?_⟩;rw[h.m];unfold iE_ vcL;rw[ybe_,ybe_];constructor
 .rintro ⟨a,o,u⟩
  obtain⟨d,e⟩:=Co_ (k a o) u
  grind
 grind[Ax.vc,Ax.inds]
theorem nt_ {G:Prop} (h:G:=by
 refine p_ m_ B_ ak_ rfl rfl rfl rfl rfl rfl λS=>?_;refine R_ (List.flatMap V_ [o]) f_ rfl ?_;refine aY_ (news:=List.flatMap V_ [o]) ch_ e rfl rfl (λq=>by cases q) zak_ an_ zbw_ zf (λu R=>aF_ bN_ R) zau_ zaA_ rfl λv B G=>?_;refine s_ yah_ ?_;have k:=zsa G;refine Zz 9 ?_;exact w_ ⟨(i+1,(F++[o]),true,v,B),C,WV.same hs H P J,k⟩ zae_ zl an_ (λ_ _ h=>h.2)):G:=h
theorem gg_ (l:List Str) (ad:Ao) (cap:Nat) (s:Str) (hl:l.length<=1000000000) (hs:SrS l):Tri prog 110 #[.slice ad l.length cap,str s] [] [O_ ad (l.flatMap V_)] (λy:{y:List Str×Ao×Nat // WithV l s y.1/\y.1.length<=y.2.2/\y.2.2<=maxLen/\(y.2.1=none->y.2.2=0)}=>.slice y.1.2.1 y.1.1.length y.1.2.2) (λ_=>[]) (λy=>[O_ y.1.2.1 (y.1.1.flatMap V_)]):=by
 refine l_ func110 rfl rfl ntmps110 rfl λv_1=>?_;refine Zz 7 ?_;refine dc_ m_ B_ rfl λX=>s_ f_ (Zz 15 ?_)
 refine Y_ (ι:={y:Nat×List Str×Bool×Value×Hp // y.1<=List.length l/\WV l s y.1 y.2.1 y.2.2.1/\zR 9 1 V_ y.2.2.2.1 y.2.1 y.2.2.2.2}) (λy=>[(0,.slice ad l.length cap),(1,str s),(4,.slice none 0 0),(5,y.1.2.2.2.1),(6,.bool y.1.2.2.1),(7,i4_ y.1.1)]) (λy=>(y.1.2.2.2.2)) (λy=>[O_ ad (l.flatMap V_)]) (λy=>l.length - y.1.1) ⟨((0:Nat),([]:List Str),false,(.slice (some ⟨X,0,none⟩) 0 0),[(X,.cells #[] 9 (0,0))]),by simp,WV.nil l s,(dr_ X 9 1)⟩ zl an_ zh ?_;rintro ⟨⟨i,F,d,Z,H_Rstr⟩,U,H,e⟩;dsimp only at U H e ⊢;refine Zi 6 (λW=>?_) λW=>?_
 .refine Zz 9 ?_
  refine c_ (aI_ rfl) rfl (Zz 2 ?_);cases d
  .refine Zz 4 ?_
   refine p_ m_ B_ ak_ rfl rfl rfl rfl rfl rfl λS=>?_;refine R_ (List.flatMap V_ [s]) f_ rfl ?_;refine aY_ (news:=List.flatMap V_ [s]) ch_ e rfl rfl (λq=>by cases q) zak_ an_ zbw_ zf (λu R=>aF_ bN_ R) zau_ zaA_ rfl λv B W=>?_;refine s_ yah_ ?_;have k:=zsa W;refine Zz 10 ?_;refine I_ k an_ λT V Q L K M=>?_;exact W_ results110 ⟨((F++[s]),T,V),H.end0 zaa_ U,L,K,M⟩ (cw_ rfl Q) e_ zf
  refine Zz 10 ?_;refine I_ e an_ λT V Q L K M=>?_;exact W_ results110 ⟨(F,T,V),H.end1 zaa_ U,L,K,M⟩ (cw_ rfl Q) e_ zf
 have C:i<l.length:=by omega
 obtain⟨o,P⟩:∃ e_1,l[i]? = some e_1:=⟨_,yaa_ C⟩;have hwl:=H.len.1;refine Zi 15 (λO=>?_) λO=>?_
 .have J:=O
  refine Zi 13 (λA=>?_) λA=>?_
  .have I:=A
   refine Zz 15 ?_;refine p_ m_ B_ ak_ rfl rfl rfl rfl rfl rfl λS=>?_;refine R_ (List.flatMap V_ [o]) f_ rfl ?_;refine aY_ (news:=List.flatMap V_ [o]) ch_ e rfl rfl (λq=>by cases q) zak_ an_ zbw_ zf (λu R=>aF_ bN_ R) zau_ zaA_ rfl λv B O=>?_;refine s_ yah_ ?_;have k:=zsa O;refine Zz 9 ?_;exact w_ ⟨(i+1,(F++[o]),d,v,B),C,WV.skip hs H P (.inr (BB_ J I)),k⟩ zae_ zl an_ (λ_ _ h=>h.2)
  have I:=A;refine Zz 4 ?_;refine c_ (aI_ rfl) rfl (Zz 3 ?_);cases d
  .refine Zz 5 ?_
   refine p_ m_ B_ ak_ rfl rfl rfl rfl rfl rfl λS=>?_;refine R_ (List.flatMap V_ [s]) f_ rfl ?_;refine aY_ (news:=List.flatMap V_ [s]) ch_ e rfl rfl (λq=>by cases q) zak_ an_ zbw_ zf (λu R=>aF_ bN_ R) zau_ zaA_ rfl λv B A=>?_;refine s_ yah_ ?_;have k:=zsa A;refine Zz 13 ?_;refine p_ m_ B_ ak_ rfl rfl rfl rfl rfl rfl λb_3=>?_;refine R_ (List.flatMap V_ [o]) f_ rfl ?_;refine aY_ (news:=List.flatMap V_ [o]) ch_ k rfl rfl (λq=>by cases q) zak_ an_ zbw_ zf (λu R=>aF_ bN_ R) zau_ zaA_ rfl λsv_2 Hr_2 G=>?_;refine s_ yah_ ?_;have Y:=zsa G;refine Zz 9 ?_;exact w_ ⟨(i+1,((F++[s])++[o]),true,sv_2,Hr_2),C,WV.ins hs H P I,Y⟩ zae_ zl an_ (λ_ _ h=>h.2.2)
  refine Zz 9 ?_;refine p_ m_ B_ ak_ rfl rfl rfl rfl rfl rfl λS=>?_;refine R_ (List.flatMap V_ [o]) f_ rfl ?_;refine aY_ (news:=List.flatMap V_ [o]) ch_ e rfl rfl (λq=>by cases q) zak_ an_ zbw_ zf (λu R=>aF_ bN_ R) zau_ zaA_ rfl λv B G=>?_;refine s_ yah_ ?_;have k:=zsa G;refine Zz 9 ?_;exact w_ ⟨(i+1,(F++[o]),true,v,B),C,WV.skip hs H P (.inl rfl),k⟩ zae_ zl an_ (λ_ _ h=>h.2)
 have J:=O;refine Zi 15 (λA=>?_) λA=>?_
 .have I:=A
  refine Zz 15 ?_;exact nt_
 have I:=A;refine Zz 4 ?_;refine c_ (aI_ rfl) rfl (Zz 12 ?_);exact nt_
theorem wA_:∀ (m:Nat) (c:Con),c.sz<=m->c.ok->∀ (x:Nmr) (D:List Str) (n:Nat),x.ok->NmJ x D n->n+c.sz<=100000000->Tri prog 109 #[Nmr.val x,Con.val c] [] [O_ (Nmr.cad x) (List.flatMap V_ (Nmr.c x)),O_ (Nmr.rad x) (List.flatMap V_ (Nmr.r x)),O_ (Nmr.fad x) (List.flatMap V_ (Nmr.f x)),O_ (Nmr.iad x) (List.flatMap V_ (Nmr.i x)),Con.memF c] (λy:{y:Nmr // NmJ y (D++c.nms 4) (n+c.sz)/\y.ok}=>y.1.val) (λ_=>[]) (λy=>y.1.row):=by
 intro m
 induction m with
 | zero=>intro c h;have:=c.sz_pos;omega
 | succ m ih =>
   intro c hm Z x D n k I hb;have a4:=Con.ok_len Z;have hsp:=c.sz_pos;have a5:=Con.sz_eq c;refine l_ func109 rfl rfl ntmps109 rfl λa6=>?_;refine Zz 2 ?_;refine Q_ rfl rfl λO=>Q_ rfl rfl λJ=>K_ he_ rfl λM=>Zz 12 ?_
   refine A_ (al_ rfl rfl) rfl λa1 G=>Zz 3 ?_
   let Pu:Nat×Obj:=(M,.cells #[.slice none 0 0,.slice none 0 0,.slice none 0 0,.slice none 0 0] 83 (0,0));let Qu:Nat×Obj:=(J,.cells (Con.cells c).toArray 28 (0,0));refine co_ (ι:={y:Nmr // NmJ y (D++if Con.kind c=4 then [Con.name c] else []) (n+1)/\Nmr.ok y}) (λy=>[(2,zp_ O 0),(3,zp_ J 0),(4,zp_ M 0)]) (λy=>(Pu::(Qu::((O,.cells #[.slice (Nmr.cad y.1) (Nmr.c y.1).length (Nmr.ccap y.1),.slice (Nmr.rad y.1) (Nmr.r y.1).length (Nmr.rcap y.1),.slice (Nmr.fad y.1) (Nmr.f y.1).length (Nmr.fcap y.1),.slice (Nmr.iad y.1) (Nmr.i y.1).length (Nmr.icap y.1)] 83 (0,0))::[])))) (λy=>[O_ (Nmr.cad y.1) (List.flatMap V_ (Nmr.c y.1)),O_ (Nmr.rad y.1) (List.flatMap V_ (Nmr.r y.1)),O_ (Nmr.fad y.1) (List.flatMap V_ (Nmr.f y.1)),O_ (Nmr.iad y.1) (List.flatMap V_ (Nmr.i y.1)),Con.memF c]) ?_ ?_
   . cases a1
     . replace G:=znb G;refine Zi 3 (λH=>?_) λH=>?_
       . refine Zi 6 (λa0=>?_) λa0=>?_
         . refine Zi 6 (λU=>?_) λU=>?_
           . refine Zz 6 ?_;exact aA_ ⟨x,(I.to (by rw[yam_ zaa_,yas_]) zaa_),k⟩ zl zp zf
           . refine Zz 9 ?_;refine d_ (gg_ (Nmr.f x) (Nmr.fad x) (Nmr.fcap x) c.name (by have:=I.lf;omega) I.sf) rfl e_ zf rfl λ⟨⟨C,o,u⟩,e,d⟩=>?_;dsimp only;try dsimp only at e d
             refine Zz 1 ?_;refine o_ 2 bo_ rfl rfl rfl rfl rfl rfl (Zz 2 ?_);exact aA_ ⟨(Nmr.mk (Nmr.c x) (Nmr.cad x) (Nmr.ccap x) (Nmr.r x) (Nmr.rad x) (Nmr.rcap x) C o u (Nmr.i x) (Nmr.iad x) (Nmr.icap x)),((NmJ.putf I e).to (by rw[yam_ zaa_,yas_]) zaa_),⟨k.c,k.r,d,k.i⟩⟩ zl zp zf
         . refine Zz 9 ?_;refine d_ (gg_ (Nmr.r x) (Nmr.rad x) (Nmr.rcap x) c.name (by have:=I.lr;omega) I.sr) rfl e_ zf rfl λ⟨⟨C,o,u⟩,e,d⟩=>?_;dsimp only;try dsimp only at e d
           refine Zz 1 ?_;refine o_ 2 bo_ rfl rfl rfl rfl rfl rfl (Zz 2 ?_);exact aA_ ⟨(Nmr.mk (Nmr.c x) (Nmr.cad x) (Nmr.ccap x) C o u (Nmr.f x) (Nmr.fad x) (Nmr.fcap x) (Nmr.i x) (Nmr.iad x) (Nmr.icap x)),((NmJ.putr I e).to (by rw[yam_ zaa_,yas_]) zaa_),⟨k.c,d,k.f,k.i⟩⟩ zl zp zf
       . refine Zz 9 ?_;refine d_ (gg_ (Nmr.i x) (Nmr.iad x) (Nmr.icap x) c.name (by have:=I.li;omega) I.si) rfl e_ zf rfl λ⟨⟨C,o,u⟩,e,d⟩=>?_;dsimp only;try dsimp only at e d
         refine Zz 1 ?_;refine o_ 2 bo_ rfl rfl rfl rfl rfl rfl (Zz 2 ?_);exact aA_ ⟨(Nmr.mk (Nmr.c x) (Nmr.cad x) (Nmr.ccap x) (Nmr.r x) (Nmr.rad x) (Nmr.rcap x) (Nmr.f x) (Nmr.fad x) (Nmr.fcap x) C o u),((NmJ.puti I e).to (by rw[yax_ H]) zaa_),⟨k.c,k.r,k.f,d⟩⟩ zl zp zf
     . replace G:=zeb G;refine Zz 6 ?_;refine d_ (gg_ (Nmr.c x) (Nmr.cad x) (Nmr.ccap x) c.name (by have:=I.lc;omega) I.sc) rfl e_ zf rfl λ⟨⟨C,o,u⟩,e,d⟩=>?_;dsimp only;try dsimp only at e d
       refine Zz 1 ?_;refine o_ 2 bo_ rfl rfl rfl rfl rfl rfl (Zz 2 ?_);exact aA_ ⟨(Nmr.mk C o u (Nmr.r x) (Nmr.rad x) (Nmr.rcap x) (Nmr.f x) (Nmr.fad x) (Nmr.fcap x) (Nmr.i x) (Nmr.iad x) (Nmr.icap x)),((NmJ.putc I e).to (by rw[yam_ zaa_,yas_]) zaa_),⟨d,k.r,k.f,k.i⟩⟩ zl zp zf
   . rintro ⟨a3,R,d⟩;dsimp only at R d ⊢;refine Zz 8 ?_;refine Y_ (ι:={y:Nat×Nmr // y.1<=List.length c.parts/\NmJ y.2 ((D++if Con.kind c=4 then [Con.name c] else [])++(c.parts.take y.1).flatMap (Con.nms 4)) (n+1+Con.sz.szs (c.parts.take y.1))/\Nmr.ok y.2}) (λy=>[(2,zp_ O 0),(3,zp_ J 0),(4,zp_ M 0),(5,i4_ y.1.1)]) (λy=>(Pu::(Qu::((O,.cells #[.slice (Nmr.cad y.1.2) (Nmr.c y.1.2).length (Nmr.ccap y.1.2),.slice (Nmr.rad y.1.2) (Nmr.r y.1.2).length (Nmr.rcap y.1.2),.slice (Nmr.fad y.1.2) (Nmr.f y.1.2).length (Nmr.fcap y.1.2),.slice (Nmr.iad y.1.2) (Nmr.i y.1.2).length (Nmr.icap y.1.2)] 83 (0,0))::[])))) (λy=>[O_ (Nmr.cad y.1.2) (List.flatMap V_ (Nmr.c y.1.2)),O_ (Nmr.rad y.1.2) (List.flatMap V_ (Nmr.r y.1.2)),O_ (Nmr.fad y.1.2) (List.flatMap V_ (Nmr.f y.1.2)),O_ (Nmr.iad y.1.2) (List.flatMap V_ (Nmr.i y.1.2)),Con.memF c]) (λy=>c.parts.length - y.1.1) ⟨((0:Nat),a3),by simp,(R.to zak_ zaa_),d⟩ zl zp zh ?_;rintro ⟨⟨i,T⟩,W,L,K⟩;dsimp only at W L K ⊢;refine Zi 7 (λH=>?_) λH=>?_
     . refine Zz 8 ?_;refine o_ 0 eb_ rfl rfl rfl rfl rfl rfl (Zz 3 ?_);exact cs_ ⟨T,(L.to (by rw[yac_ zaa_,yak_,<-Con.nms_eq]) (by have:=szs_take_le c.parts i;omega)),K⟩ (λaa v Y X=>db_ (us:=Nmr.cells T) 0 results109 isAgg83 eb_ rfl rfl rfl aa v Y X) e_ zf
     . obtain⟨S,V,A,B⟩:=zge (show i<c.parts.length by omega);refine Zz 7 ?_;refine aW_ (Pu::(Qu::[])) zk ?_;refine C_ 3 [1,2,3,4,5] zk zs (Zz 3 ?_);refine G_ rfl (J_ z_ i_ rfl rfl (λv _ h=>az_ (n:=5) Con.cells_len zaj_ (by exact ((Con.mem_iff c v).1 h.2.2.2.2.1).1) A) zaa_ zah_) rfl ?_;refine G_ rfl (ax_ (ad:=c.ad) (us:=Con.cells V) H_ i_ rfl (λv _ h=>by exact ((Con.mem_iff c v).1 h.2.2.2.2.1).1) (Con.cells_len _) (t_ Con.cells_len A)) rfl (bd_ (j_ 0 rfl zk (Zz 3 ?_)));refine y_ zs (j_ 6 rfl zk (d_ (ih V (by have:=Con.sz_part B;omega) (Con.ok_part Z B) T _ _ K L (by have Y:=Con.szs_step A;have X:=szs_take_le c.parts (i+1);omega)) rfl e_ (λv _ h=>by exact⟨h.1,h.2.1,h.2.2.1,h.2.2.2.1,(Con.mem_part (c:=c) h.2.2.2.2.1 B),trivial⟩) rfl λ⟨a2,Q,P⟩=>?_));dsimp only;try dsimp only at Q P
       refine Zz 2 ?_;refine y_ zs (j_ 7 rfl zk (o_ 2 eb_ rfl rfl rfl rfl rfl rfl (Zz 2 ?_)));refine y_ zs (Zz 8 ?_);exact w_ ⟨(i+1,a2),S,(Q.to (by rw[tk1 A,yan_];simp[yak_]) (by have:=Con.szs_step A;dsimp only;omega)),P⟩ zae_ zl (E_ f_ (E_ f_ f_)) zf
theorem BP_ (l:List Ax) (ad:Ao) (cap:Nat) (a9:∀ x∈l,x.ok) (hll:l.length<=12) (hfw:∀ x∈l,Ax.Few x) (hC:∀ x∈l,x.check=0):Tri prog 51 #[.slice ad l.length cap] [] [bA_ ad l] (λy:{y:Nmr // iI_ 4 l y.i/\y.ok/\y.i.length<=100000}=>.tuple #[y.1.val,i4_ 0]) (λ_=>[]) (λy=>y.1.row):=by
 refine l_ func51 rfl rfl ntmps51 rfl λv_1=>?_;refine Zz 2 ?_;refine K_ he_ rfl λI=>Zz 5 ?_
 refine c_ (x_ zg_ rfl rfl) rfl (K_ he_ rfl λL=>o_ 0 eb_ rfl rfl rfl rfl rfl rfl (Zz 9 ?_));let Pu:Hp:=((I,.cells #[.slice none 0 0,.slice none 0 0,.slice none 0 0,.slice none 0 0] 83 (0,0))::[]);refine Y_ (ι:={y:Nat×Nmr // y.1<=List.length l/\NmJ y.2 (iE_ (l.take y.1)) (1000*y.1)/\Nmr.ok y.2}) (λy=>[(0,.slice ad l.length cap),(2,zp_ I 0),(3,i4_ 0),(4,zp_ L 0),(5,i4_ y.1.1)]) (λy=>((L,.cells #[.slice (Nmr.cad y.1.2) (Nmr.c y.1.2).length (Nmr.ccap y.1.2),.slice (Nmr.rad y.1.2) (Nmr.r y.1.2).length (Nmr.rcap y.1.2),.slice (Nmr.fad y.1.2) (Nmr.f y.1.2).length (Nmr.fcap y.1.2),.slice (Nmr.iad y.1.2) (Nmr.i y.1.2).length (Nmr.icap y.1.2)] 83 (0,0))::Pu)) (λy=>[O_ (Nmr.cad y.1.2) (List.flatMap V_ (Nmr.c y.1.2)),O_ (Nmr.rad y.1.2) (List.flatMap V_ (Nmr.r y.1.2)),O_ (Nmr.fad y.1.2) (List.flatMap V_ (Nmr.f y.1.2)),O_ (Nmr.iad y.1.2) (List.flatMap V_ (Nmr.i y.1.2)),bA_ ad l]) (λy=>l.length - y.1.1) ⟨((0:Nat),Nmr.no),by simp,(NmJ.no.to (by simp[iE_]) zaa_),Nmr.no_ok⟩ zl zp (λv _ h=>by exact⟨.inl rfl,.inl rfl,.inl rfl,.inl rfl,h.1,trivial⟩) ?_;rintro ⟨⟨i,x⟩,b3,hD,a8⟩;dsimp only at b3 hD a8 ⊢;refine Zi 6 (λb1=>?_) λb1=>?_
 .refine Zz 8 ?_
  refine o_ 1 eb_ rfl rfl rfl rfl rfl rfl (Zz 4 ?_);have hJ:=hD.to (E:=iE_ l) (m:=100000) (by rw[yac_ zaa_]) zaa_;exact cs_ ⟨x,hJ.voc hC,a8,hJ.li⟩ (λaa v h_1 h_2=>br_ (us:=Nmr.cells x) 1 results51 isAgg83 eb_ rfl rfl rfl rfl aa v h_1 h_2) e_ zf
 have Y:i<l.length:=by omega
 obtain⟨d,a4⟩:∃ a6,l[i]? = some a6:=⟨_,yaa_ Y⟩;have o:d∈l:=yad_ a4;have a7:=hfw d o;have hfl:=a7.left;have hfr:=a7.right;have hfo:=a7.roles;have hil:i<=12:=by omega
 refine Zz 13 ?_;refine K_ aQ_ rfl λM=>o_ 0 D_ rfl rfl rfl rfl rfl rfl (Zz 5 ?_)
 refine d_ (eX_ d (a9 d o) zaa_ zaa_) rfl e_ (λv _ h=>by exact⟨(h.2.2.2.2.1.2 d o),trivial⟩) rfl λ_=>Zi 7 (λa5=>?_) λa5=>?_
 .refine Zz 6 ?_
  let Qu:Nat×Obj:=(M,.cells (Ax.cells d).toArray 30 (0,0));refine aW_ (Qu::Pu) zk ?_;refine C_ 4 [1,2,4,5] zk zs (Zz 5 ?_);refine j_ 0 rfl zk (Zz 3 ?_);refine y_ zs (j_ 3 rfl zk (d_ (wA_ _ d.left (yab_ _) (a9 d o).left x _ _ a8 hD zaa_) rfl e_ (λv _ h=>by exact⟨h.1,h.2.1,h.2.2.1,h.2.2.2.1,(h.2.2.2.2.1.2 d o).1,trivial⟩) rfl λ⟨b4,a0,a1⟩=>?_));dsimp only;try dsimp only at a0 a1
  refine Zz 2 ?_;refine y_ zs (j_ 6 rfl zk (d_ (wA_ _ d.right (yab_ _) (a9 d o).right b4 _ _ a1 a0 zaa_) rfl e_ (λv _ h=>by exact⟨h.1,h.2.1,h.2.2.1,h.2.2.2.1,(h.2.2.2.2.2.2.2.2.1.2 d o).2.1,trivial⟩) rfl λ⟨B,S,R⟩=>?_));dsimp only;try dsimp only at S R
  refine Zz 2 ?_;refine y_ zs (j_ 7 rfl zk (o_ 1 eb_ rfl rfl rfl rfl rfl rfl (Zz 2 ?_)));refine y_ (λ_ a b=>⟨Vw.sat.sub (a.perm (E_ f_ (g_ f_))),b.2.2.2.2.2.2.2.2⟩) (Zz 7 ?_);refine A_ (cY_ rfl rfl) rfl λr_1 W=>Zz 2 ?_
  refine co_ (ι:={y:Nmr // NmJ y ((iE_ (l.take i))++Con.nms 4 d.left++Con.nms 4 d.right) (1000*i+Con.sz d.left+Con.sz d.right+1)/\Nmr.ok y}) (λy=>[(0,.slice ad l.length cap),(2,zp_ I 0),(3,i4_ 0),(4,zp_ L 0),(5,i4_ i),(6,zp_ M 0)]) (λy=>(Qu::((L,.cells #[.slice (Nmr.cad y.1) (Nmr.c y.1).length (Nmr.ccap y.1),.slice (Nmr.rad y.1) (Nmr.r y.1).length (Nmr.rcap y.1),.slice (Nmr.fad y.1) (Nmr.f y.1).length (Nmr.fcap y.1),.slice (Nmr.iad y.1) (Nmr.i y.1).length (Nmr.icap y.1)] 83 (0,0))::Pu))) (λy=>[O_ (Nmr.cad y.1) (List.flatMap V_ (Nmr.c y.1)),O_ (Nmr.rad y.1) (List.flatMap V_ (Nmr.r y.1)),O_ (Nmr.fad y.1) (List.flatMap V_ (Nmr.f y.1)),O_ (Nmr.iad y.1) (List.flatMap V_ (Nmr.i y.1)),bA_ ad l]) ?_ ?_
  .cases r_1
   .replace W:=de_ W
    refine Zz 3 ?_;exact aA_ ⟨B,(S.to (by rfl) zaa_),R⟩ zl (E_ f_ (E_ f_ f_)) (λv _ h=>by exact⟨h.1,h.2.1,h.2.2.1,h.2.2.2.1,h.2.2.2.2.2.2.2.2.2.2.2.2.1,trivial⟩)
   replace W:=dd_ W;refine Zz 6 ?_;refine d_ (gg_ (Nmr.r B) (Nmr.rad B) (Nmr.rcap B) d.role (by have:=S.lr;omega) S.sr) rfl e_ zf rfl λ⟨⟨V,J,K⟩,A,U⟩=>?_;dsimp only;try dsimp only at A U
   refine Zz 1 ?_;refine o_ 1 bo_ rfl rfl rfl rfl rfl rfl (Zz 2 ?_);exact aA_ ⟨(Nmr.mk (Nmr.c B) (Nmr.cad B) (Nmr.ccap B) V J K (Nmr.f B) (Nmr.fad B) (Nmr.fcap B) (Nmr.i B) (Nmr.iad B) (Nmr.icap B)),((NmJ.putr S A).to (by rfl) zaa_),⟨R.c,U,R.f,R.i⟩⟩ zl (E_ f_ (E_ f_ f_)) (λv _ h=>by exact⟨h.2.1,h.1,h.2.2.2.1,h.2.2.2.2.1,h.2.2.2.2.2.2.2.2.2.2.2.2.2.1,trivial⟩)
  rintro ⟨x_1,Z,U⟩;dsimp only at Z U ⊢;refine Zz 8 ?_;refine Y_ (ι:={y:Nat×Nmr // y.1<=List.length d.roles/\NmJ y.2 ((iE_ (l.take i))++Con.nms 4 d.left++Con.nms 4 d.right) (1000*i+Con.sz d.left+Con.sz d.right+1+y.1)/\Nmr.ok y.2}) (λy=>[(0,.slice ad l.length cap),(2,zp_ I 0),(3,i4_ 0),(4,zp_ L 0),(5,i4_ i),(6,zp_ M 0),(8,i4_ y.1.1)]) (λy=>(Qu::((L,.cells #[.slice (Nmr.cad y.1.2) (Nmr.c y.1.2).length (Nmr.ccap y.1.2),.slice (Nmr.rad y.1.2) (Nmr.r y.1.2).length (Nmr.rcap y.1.2),.slice (Nmr.fad y.1.2) (Nmr.f y.1.2).length (Nmr.fcap y.1.2),.slice (Nmr.iad y.1.2) (Nmr.i y.1.2).length (Nmr.icap y.1.2)] 83 (0,0))::Pu))) (λy=>[O_ (Nmr.cad y.1.2) (List.flatMap V_ (Nmr.c y.1.2)),O_ (Nmr.rad y.1.2) (List.flatMap V_ (Nmr.r y.1.2)),O_ (Nmr.fad y.1.2) (List.flatMap V_ (Nmr.f y.1.2)),O_ (Nmr.iad y.1.2) (List.flatMap V_ (Nmr.i y.1.2)),bA_ ad l]) (λy=>d.roles.length - y.1.1) ⟨((0:Nat),x_1),by simp,(Z.to rfl zaa_),U⟩ zl zp zh ?_;rintro ⟨⟨k,e⟩,b0,G,H⟩;dsimp only at b0 G H ⊢;refine Zi 7 (λb2=>?_) λb2=>?_
  .refine Zz 10 ?_
   refine A_ (cY_ rfl rfl) rfl λr_2 P=>Zz 2 ?_
   let Ru:Fr:=[(0,.slice ad l.length cap),(2,zp_ I 0),(3,i4_ 0),(4,zp_ L 0),(5,i4_ i),(6,zp_ M 0),(8,i4_ k)];refine co_ (ι:={y:Nmr // NmJ y (((iE_ (l.take i))++Con.nms 4 d.left++Con.nms 4 d.right)++(if Ax.a d=[] then [] else [Ax.a d])) (1000*i+Con.sz d.left+Con.sz d.right+1+d.roles.length+1)/\Nmr.ok y}) (λy=>Ru) (λy=>(Qu::((L,.cells #[.slice (Nmr.cad y.1) (Nmr.c y.1).length (Nmr.ccap y.1),.slice (Nmr.rad y.1) (Nmr.r y.1).length (Nmr.rcap y.1),.slice (Nmr.fad y.1) (Nmr.f y.1).length (Nmr.fcap y.1),.slice (Nmr.iad y.1) (Nmr.i y.1).length (Nmr.icap y.1)] 83 (0,0))::Pu))) (λy=>[O_ (Nmr.cad y.1) (List.flatMap V_ (Nmr.c y.1)),O_ (Nmr.rad y.1) (List.flatMap V_ (Nmr.r y.1)),O_ (Nmr.fad y.1) (List.flatMap V_ (Nmr.f y.1)),O_ (Nmr.iad y.1) (List.flatMap V_ (Nmr.i y.1)),bA_ ad l]) ?_ ?_
   .cases r_2
    .replace P:=de_ P
     refine Zz 3 ?_;exact aA_ ⟨e,(G.to (by rw[yax_ P,yas_]) zaa_),H⟩ zl zp zf
    replace P:=dd_ P;refine Zz 6 ?_;refine d_ (gg_ (Nmr.i e) (Nmr.iad e) (Nmr.icap e) d.a (by have:=G.li;omega) G.si) rfl e_ zf rfl λ⟨⟨V,J,K⟩,A,u⟩=>?_;dsimp only;try dsimp only at A u
    refine Zz 1 ?_;refine o_ 1 bo_ rfl rfl rfl rfl rfl rfl (Zz 2 ?_);exact aA_ ⟨(Nmr.mk (Nmr.c e) (Nmr.cad e) (Nmr.ccap e) (Nmr.r e) (Nmr.rad e) (Nmr.rcap e) (Nmr.f e) (Nmr.fad e) (Nmr.fcap e) V J K),((NmJ.puti G A).to (by rw[yam_ P]) zaa_),⟨H.c,H.r,H.f,u⟩⟩ zl zp zf
   rintro ⟨C,Q,u⟩;dsimp only at Q u ⊢;refine Zz 5 ?_;refine A_ (cY_ rfl rfl) rfl λr_3 O=>Zz 2 ?_
   refine co_ (ι:={y:Nmr // NmJ y (((iE_ (l.take i))++Con.nms 4 d.left++Con.nms 4 d.right)++(if Ax.a d=[] then [] else [Ax.a d])++(if Ax.b d=[] then [] else [Ax.b d])) (1000*i+Con.sz d.left+Con.sz d.right+1+d.roles.length+1+1)/\Nmr.ok y}) (λy=>Ru) (λy=>(Qu::((L,.cells #[.slice (Nmr.cad y.1) (Nmr.c y.1).length (Nmr.ccap y.1),.slice (Nmr.rad y.1) (Nmr.r y.1).length (Nmr.rcap y.1),.slice (Nmr.fad y.1) (Nmr.f y.1).length (Nmr.fcap y.1),.slice (Nmr.iad y.1) (Nmr.i y.1).length (Nmr.icap y.1)] 83 (0,0))::Pu))) (λy=>[O_ (Nmr.cad y.1) (List.flatMap V_ (Nmr.c y.1)),O_ (Nmr.rad y.1) (List.flatMap V_ (Nmr.r y.1)),O_ (Nmr.fad y.1) (List.flatMap V_ (Nmr.f y.1)),O_ (Nmr.iad y.1) (List.flatMap V_ (Nmr.i y.1)),bA_ ad l]) ?_ ?_
   .cases r_3
    .replace O:=de_ O
     refine Zz 3 ?_;exact aA_ ⟨C,(Q.to (by rw[yax_ O,yas_]) zaa_),u⟩ zl zp zf
    replace O:=dd_ O;refine Zz 6 ?_;refine d_ (gg_ (Nmr.i C) (Nmr.iad C) (Nmr.icap C) d.b (by have:=Q.li;omega) Q.si) rfl e_ zf rfl λ⟨⟨V,J,K⟩,A,T⟩=>?_;dsimp only;try dsimp only at A T
    refine Zz 1 ?_;refine o_ 1 bo_ rfl rfl rfl rfl rfl rfl (Zz 2 ?_);exact aA_ ⟨(Nmr.mk (Nmr.c C) (Nmr.cad C) (Nmr.ccap C) (Nmr.r C) (Nmr.rad C) (Nmr.rcap C) (Nmr.f C) (Nmr.fad C) (Nmr.fcap C) V J K),((NmJ.puti Q A).to (by rw[yam_ O]) zaa_),⟨u.c,u.r,u.f,T⟩⟩ zl zp zf
   rintro ⟨x_4,a3,T⟩;dsimp only at a3 T ⊢;refine Zz 7 ?_;exact w_ ⟨(i+1,x_4),Y,(a3.to (by rw[vz_ a4,Ax.inds];simp only[yak_]) zaa_),T⟩ zae_ zl zp zh
  have X:k<d.roles.length:=by omega
  obtain⟨g_1,a2⟩:∃ a6,d.roles[k]? = some a6:=⟨_,yaa_ X⟩;refine Zz 7 ?_;refine aW_ (Qu::Pu) zk ?_;refine C_ 4 [0,2,3,4,5,6] zk zs (Zz 4 ?_);refine G_ rfl (J_ m_ B_ rfl rfl (λv _ h=>az_ (n:=1) au_ zaj_ (by exact (h.2.2.2.2.1.2 d o).2.2) a2) zaa_ zah_) rfl ?_;refine G_ rfl (aS_ (ad:=d.ad) aJ_ rfl (λv _ h=>by exact (h.2.2.2.2.1.2 d o).2.2) (t_ au_ a2 0 _ rfl)) rfl (bd_ (j_ 1 rfl zk (Zz 3 ?_)));refine y_ zs (j_ 7 rfl zk (d_ (gg_ (Nmr.r e) (Nmr.rad e) (Nmr.rcap e) g_1 (by have:=G.lr;omega) G.sr) rfl e_ zf rfl λ⟨⟨V,J,K⟩,A,u⟩=>?_));dsimp only;try dsimp only at A u
  refine Zz 2 ?_;refine y_ zs (C_ 1 [8] zk zs (Zz 2 ?_));refine j_ 9 rfl zk (o_ 1 bo_ rfl rfl rfl rfl rfl rfl (Zz 2 ?_));refine y_ (λ_ a b=>⟨Vw.sat.sub (a.perm (E_ f_ (g_ f_))),b.2⟩) (Zz 8 ?_);exact w_ ⟨(k+1,(Nmr.mk (Nmr.c e) (Nmr.cad e) (Nmr.ccap e) V J K (Nmr.f e) (Nmr.fad e) (Nmr.fcap e) (Nmr.i e) (Nmr.iad e) (Nmr.icap e))),X,((NmJ.putr G A).to rfl zaa_),⟨H.c,u,H.f,H.i⟩⟩ zae_ zl zp zf
 exact absurd (hC d o) a5
theorem oy_ (l:List Ax) (ad:Ao) (cap:Nat) (a2:l.length<=cap/\cap<=2199023255488) (G:∀ x∈l,x.ok) (R:l.length<=12) (a3:∀ x∈l,Ax.Few x) (hz:∀ x∈l,x.left.sz<=1000/\x.right.sz<=1000):Tri prog 16 #[.agg #[.slice ad l.length cap]] [] [bA_ ad l] (λy:{y:Value×Hp×List Ax×Int // av_ 30 16 y.1 y.2.2.1.length (y.2.2.1.flatMap Ax.cells) y.2.1/\IdR l y.2.2.1 y.2.2.2}=>.tuple #[.agg #[y.1.1],i4_ y.1.2.2.2]) (λy=>y.1.2.1) (λ_=>[]):=by
 refine l_ func16 rfl rfl ntmps16 rfl λv_1=>?_;refine Zz 2 ?_;refine Q_ rfl rfl λQ=>K_ cE_ rfl λZ=>Zz 6 ?_
 refine d_ (lc_ l ad cap a2 G R a3 hz) rfl e_ zf rfl λ⟨⟨O,K,p,C⟩,I,hPl,U,T⟩=>?_;dsimp only;try dsimp only at I hPl U T
 refine Zi 11 (λd=>?_) λd=>?_
 .obtain⟨J,Y,hpe⟩:=I.ok zbe_
  have hpn:=MpR.N R G Y hpe;have he1z:C=0:=by simpa using d
  have hC:∀ x∈l,x.check=0:=kp_ (uz_ J).1;refine Zz 9 ?_;refine d_ (BP_ l ad cap G R a3 hC) rfl e_ zf rfl λ⟨V,h,hVk,hIn⟩=>?_;dsimp only;try dsimp only at h hVk hIn
  refine Zz 3 ?_;refine K_ he_ rfl λX=>o_ 0 eb_ rfl rfl rfl rfl rfl rfl (Zz 15 ?_)
  let Pu:Nat×Obj:=(X,.cells #[.slice (Nmr.cad V) (Nmr.c V).length (Nmr.ccap V),.slice (Nmr.rad V) (Nmr.r V).length (Nmr.rcap V),.slice (Nmr.fad V) (Nmr.f V).length (Nmr.fcap V),.slice (Nmr.iad V) (Nmr.i V).length (Nmr.icap V)] 83 (0,0));let Qu:Nat×Obj:=(Q,.cells #[.slice ad l.length cap] 24 (0,0));refine Y_ (ι:={y:Nat×Value×Hp // y.1<=List.length (Nmr.i V)/\zR 9 1 V_ y.2.1 (List.map bY_ (List.take y.1 (Nmr.i V))) y.2.2}) (λy=>[(1,zp_ Q 0),(2,zp_ Z 0),(3,i4_ 0),(4,.slice O p.length K),(6,zp_ X 0),(8,y.1.2.1),(9,i4_ y.1.1)]) (λy=>(Pu::((Z,.cells #[.slice none 0 0] 24 (0,0))::(Qu::y.1.2.2)))) (λy=>[O_ (Nmr.cad V) (List.flatMap V_ (Nmr.c V)),O_ (Nmr.rad V) (List.flatMap V_ (Nmr.r V)),O_ (Nmr.fad V) (List.flatMap V_ (Nmr.f V)),O_ (Nmr.iad V) (List.flatMap V_ (Nmr.i V)),O_ O (p.flatMap Pc.cells),bA_ ad l]) (λy=>List.length (Nmr.i V) - y.1.1) ⟨((0:Nat),(.slice none 0 0),[]),by simp,(av_.nil _ _)⟩ zl zp zh ?_;rintro ⟨⟨i,sv_T,H_T⟩,hi_i,k⟩;dsimp only at hi_i k ⊢;have hil:List.length (List.map bY_ (List.take i (Nmr.i V)))<=100000:=by rw[yaB_];exact yaI_ (ybi_ i _) zaa_
  refine Zi 7 (λB=>?_) λB=>?_
  .have hw_1:av_ 9 1 sv_T (List.map bY_ (Nmr.i V)).length (List.flatMap V_ (List.map bY_ (Nmr.i V))) H_T:=by have q:=k;rw[yac_ (l:=Nmr.i V) zaa_]at q;exact q
   refine Zz 6 ?_;refine I_ hw_1 (g_ (g_ ah_)) λtad tcap a0 hctad hmtad hztad=>?_;subst a0;have hSn:∀ s∈(List.map bY_ (Nmr.i V)),s≠[]:=λs hs e=>by obtain⟨z,_,hz⟩:=yaM_.1 hs;rw[e]at hz;simp[bY_]at hz
   refine aW_ (Pu::(Qu::[])) zk ?_;refine C_ 6 [0,1,2,3,4] zk zs (Zz 6 ?_);refine j_ 5 rfl zk (d_ (pA_ l ad cap zaa_ p O K (List.map bY_ (Nmr.i V)) tad tcap hpn hSn zaa_ zaz_) rfl e_ zf rfl λ⟨⟨wad,wcap⟩,hwc⟩=>?_);dsimp only;refine Zz 2 ?_;refine y_ zs (j_ 6 rfl zk (d_ (si_ l ad cap G hz zaa_ J (dE_ l p (List.map bY_ (Nmr.i V)) l.length) wad wcap (λx hx=>(pB_.1 hx).1) (sf_ _) (by have:=gV_ (l:=l) (p:=p) (S:=(List.map bY_ (Nmr.i V))) l.length;omega)) rfl e_ zf rfl λ⟨⟨svq,Hqq⟩,M⟩=>?_));dsimp only;dsimp only at M ⊢;refine Zz 2 ?_;refine y_ zs (C_ 2 [7,8] zk zs (Zz 3 ?_));refine j_ 9 rfl zk (s_ (aL_ (ae_ f_) (aL_ (ae_ f_) (cg_ bS_))) (o_ 1 ap_ rfl rfl rfl rfl rfl zbE_ ?_));refine Zz 2 ?_;refine y_ (λ_ a b=>⟨Vw.sat.sub (a.perm (E_ f_ (g_ f_))),b.2⟩) (C_ 0 [10] zk (λ_ a b=>⟨Vw.sat.sub (a.perm (E_ f_ (g_ f_))),b.2⟩) (Zz 5 ?_));exact cs_ ⟨(svq,Hqq,(dB_ l (dE_ l p (List.map bY_ (Nmr.i V)) l.length)),0),M,⟨p,C,I,.inr ⟨he1z,rfl,_,h,rfl⟩⟩⟩ (λaa v W P=>br_ (us:=[svq]) 1 results16 ca_ ap_ rfl rfl rfl rfl aa v W P) (g_ (g_ ah_)) zt
  have o:i<List.length (Nmr.i V):=by omega
  obtain⟨H,L⟩:∃ e_2,(Nmr.i V)[i]? = some e_2:=⟨_,yaa_ o⟩;have A:H∈(Nmr.i V):=yad_ L;have hsl:=fo_ (oa_ hC ((h.2 H).1 A).1 (((h.2 H).1 A).2 (.inr rfl)));refine Zz 14 ?_;refine c_ (bn_ rfl rfl zaC_) rfl ?_;refine c_ (bn_ rfl rfl zaC_) rfl ?_;refine p_ m_ B_ ak_ rfl rfl rfl rfl rfl rfl λb_4=>?_;refine am_ (news:=List.flatMap V_ [([123]++H)++[125]]) ch_ k rfl rfl zp rfl (aO_ 0 rfl) (λu hu=>aF_ bN_ hu) zab_ zac_ rfl λa1 Hr_1 B=>?_;refine s_ yah_ ?_;have hq_1:=zsa B;refine Zz 9 ?_;exact w_ ⟨(i+1,a1,Hr_1),o,(by rw[tk1 L,yaz_];exact hq_1)⟩ zae_ zl (E_ (g_ f_) (E_ (g_ f_) (E_ (g_ f_) ah_))) zh
 refine Zz 5 ?_;refine c_ (x_ fv_ rfl rfl) rfl (Zz 1 ?_);refine o_ 0 ap_ rfl rfl rfl rfl rfl rfl (Zz 4 ?_);exact cs_ ⟨(.slice none 0 0,[],[],C),av_.nil _ _,⟨p,C,I,.inl ⟨by simpa using d,rfl,rfl⟩⟩⟩ (λaa v W P=>br_ (us:=[.slice none 0 0]) 0 results16 ca_ ap_ rfl rfl rfl rfl aa v W P) e_ zt
end Go.Proofs.YtbffkokbdeppaaaGreatDoor
