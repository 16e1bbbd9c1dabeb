/-
  Lemmas for the law ModuleExtracts (no condition).
-/
import Derived.Test.YtbffkokbdeppaaaGreatDoorQModuleExtracts15
set_option linter.unusedVariables false
set_option linter.unusedSimpArgs false
set_option linter.unusedSectionVars false
set_option maxHeartbeats 1000000
namespace Go.Proofs.YtbffkokbdeppaaaGreatDoor
open Go Go.Sx Go.Proofs Tryz
attribute [local irreducible] Code.wp wpList wpAnyH
open Go.Vs
theorem ci_len {P:List PB} {S:List RSt} {p:PB} {k:Nat} {O:List PB} (h:CI (jO_ P S++fr_ p (S.take k)) O):O.length<=2*S.length:=h.len (P:=[]) λx d=>by
  grind[xb_,AU_]
def AtI (O:List Pth) (m:Nat) (x:PB) (at_:Int):Prop:=(at_=-1/\∀ z∈O.take m,z.b.key≠x.key)\/∃ (a:Nat) (o:Pth),at_=(a:Int)/\O[a]? = some o/\o.b.key=x.key
theorem AtI.nil {O:List Pth} {x:PB}:AtI O 0 x (-1):=.inl ⟨rfl,by simp⟩
theorem AtI.hit {O:List Pth} {m:Nat} {x:PB} {o:Pth} (h:O[m]? = some o) (e:o.b.key=x.key):AtI O (m+1) x (m:Int):=.inr ⟨m,o,rfl,h,e⟩
theorem AtI.skip {O:List Pth} {m:Nat} {x:PB} {o:Pth} {t:Int} (u:AtI O m x t) (h:O[m]? = some o) (e:o.b.key≠x.key):AtI O (m+1) x t:=by
 rcases u with⟨d,k⟩|d
 .exact .inl ⟨d,oY_ k h e⟩
 exact .inr d
theorem AtI.none {O:List Pth} {m:Nat} {x:PB} {t:Int} (d:AtI O m x t) (v:t<0) (hm:O.length<=m):∀ z∈O.map Pth.b,z.key≠x.key:=λz e=>by
  obtain⟨o,h,rfl⟩:=yaM_.1 e;rcases d with⟨_,k⟩|⟨a,o,u,_⟩
  all_goals grind[List.take_of_length_le]
theorem AtI.some {O:List Pth} {m:Nat} {x:PB} {t:Int} (e:AtI O m x t) (h:¬ t<0):∃ (a:Nat) (o:Pth),t=(a:Int)/\O[a]? = Option.some o/\o.b.key=x.key:=by
  rcases e with⟨d,_⟩|d
  all_goals grind
theorem lst_at {l:List Str} {m:Nat} {d:Str} (h:l[Int.toNat ((m:Int) - 1)]? = Option.some d) (hm:l.length=m):lst l=Option.some d:=by
  unfold lst;rw[<-h]
  congr 1
  omega
theorem sh_ {o:Pth} {l:List Str} {lo t:Str} {b:Bool} (h:lst o.rl=Option.some lo):o.b.key=PB.key (l++[t],b)↔o.st=b/\lo=t:=by
  grind[PB.key,Pth.b,me_]
structure LgI (P:List PB) (S:List RSt) (n i:Nat) (D:List PB) (O:List Pth):Prop where
  ci:CI (jO_ (P.take i) S++D) (O.map Pth.b)
  ok:∀ z∈O,z.ok
  len:∀ z∈O,z.rl.length=n+1
theorem LgI.nil {P:List PB} {S:List RSt} {n:Nat}:LgI P S n 0 [] []:=⟨CI.nil,by simp,by simp⟩
theorem LgI.same {P:List PB} {S:List RSt} {n i k:Nat} {p:PB} {s:RSt} {O:List Pth} (h:LgI P S n i (fr_ p (S.take k)) O) (e:S[k]? = Option.some s) (d:pT_ p s=[]):LgI P S n i (fr_ p (S.take (k+1))) O:=by
  grind[iz_]
theorem LgI.push {P:List PB} {S:List RSt} {n i k:Nat} {p:PB} {s:RSt} {O:List Pth} {y:Pth} (h:LgI P S n i (fr_ p (S.take k)) O) (o:S[k]? = Option.some s) (e:pT_ p s=[y.b]) (u:∀ z∈O.map Pth.b,z.key≠y.b.key) (x:y.ok) (v:y.rl.length=n+1):LgI P S n i (fr_ p (S.take (k+1))) (O++[y]):=by
 refine⟨?_,λz d=>?_,λz d=>?_⟩
 .rw[iz_ o,e,<-yak_,yaz_];exact h.ci.push u
 .rcases yaj_.1 d with d|d
  .exact h.ok z d
  grind
 rcases yaj_.1 d with d|d
 .exact h.len z d
 grind
theorem LgI.keep {P:List PB} {S:List RSt} {n i k a:Nat} {p:PB} {s:RSt} {O:List Pth} {y o:Pth} (h:LgI P S n i (fr_ p (S.take k)) O) (d:S[k]? = Option.some s) (u:pT_ p s=[y.b]) (v:O[a]? = Option.some o) (e:o.b.key=y.b.key):LgI P S n i (fr_ p (S.take (k+1))) O:=by
  refine⟨?_,h.ok,h.len⟩;rw[iz_ d,u,<-yak_];exact h.ci.keep (a:=a) zap_ e
theorem LgI.set {P:List PB} {S:List RSt} {n i k a:Nat} {p:PB} {s:RSt} {O:List Pth} {y o:Pth} (h:LgI P S n i (fr_ p (S.take k)) O) (u:S[k]? = Option.some s) (x:pT_ p s=[y.b]) (B:O[a]? = Option.some o) (v:o.b.key=y.b.key) (A:y.ok) (e:y.rl.length=n+1):LgI P S n i (fr_ p (S.take (k+1))) (O.set a y):=by
 refine⟨?_,λz d=>?_,λz d=>?_⟩
 .rw[iz_ u,x,<-yak_,List.map_set]
  exact h.ci.set zap_ v
 .rcases ybx_ d with d|rfl
  .exact h.ok z d
  exact A
 rcases ybx_ d with d|rfl
 .exact h.len z d
 exact e
theorem LgI.next {P:List PB} {S:List RSt} {n i k:Nat} {p:PB} {O:List Pth} (h:LgI P S n i (fr_ p (S.take k)) O) (d:P[i]? = Option.some p) (e:S.length<=k):LgI P S n (i+1) [] O:=by
  refine⟨?_,h.ok,h.len⟩
  grind[ci,List.take_of_length_le,vK_]
theorem LgI.fine {P:List PB} {S:List RSt} {n i:Nat} {O:List Pth} (h:LgI P S n i [] O) (hi:P.length<=i):CI (jO_ P S) (O.map Pth.b):=by
  have:=h.ci
  grind[List.take_of_length_le]
theorem LgI.short {P:List PB} {S:List RSt} {n i k:Nat} {p:PB} {O:List Pth} (h:LgI P S n i (fr_ p (S.take k)) O):O.length<=2*S.length:=by
  have:=ci_len h.ci
  grind
theorem ij_:iJ_ prog 290 [(0,1),(1,1)] [.slice none 0 0,.bool false]:=⟨_,ce_,runUnderlying290,λw=>by simp[bD_,bo_]⟩
theorem CB_:Elt prog 291 290 2 32:=gn_ underlying291 (z:=.agg #[.slice none 0 0,.bool false]) zam_ rfl zaj_
theorem lt_ {G:Prop} (h:G:=by
 refine C_ 3 [14,15,16,17,18,19] zk zs (Zz 5 ?_);refine G_ rfl (aD_ (dY_ rfl rfl) (show _=Value.bool bx from yag_ Value.bool zbN_)) rfl ?_;exact je_):G:=h
theorem lu_ {G:Prop} (h:G:=by
 refine C_ 2 [14,15,16,17,18,19] zk zs (Zz 5 ?_);refine G_ rfl (aD_ (dY_ rfl rfl) (show _=Value.bool bx from yag_ Value.bool zbN_)) rfl ?_;exact jc_):G:=h
theorem lv_ {G:Prop} (h:G:=by
 refine C_ 2 [14,15,16,17,18,19] zk zs (Zz 5 ?_);refine G_ rfl (aD_ (dY_ rfl rfl) (show _=Value.bool bx from yag_ Value.bool zbN_)) rfl ?_;exact jd_):G:=h
theorem ib_ {G:Prop} (h:G:=by
 refine y_ zs (j_ 22 rfl zk (o_ 0 cj_ rfl rfl rfl rfl rfl rfl (Zz 2 ?_)));refine y_ zs (Zz 2 ?_);exact aA_ ⟨(V,H,M,I,B),C,A,x,e⟩ zl (E_ (g_ (g_ f_)) (E_ f_ ah_)) zf):G:=h
theorem lw_ {G:Prop} (h:G:=by
 refine bd_ (j_ 20 rfl zk ?_);have G:av_ 9 1 J ((Pth.rl d)++[E.2.1]).length (List.flatMap V_ ((Pth.rl d)++[E.2.1])) L:=by have q:=K;first|exact q|simpa using q
 refine I_ G ag_ λI B F A x e=>?_;subst F;refine c_ (x_ ij_ rfl rfl) rfl (Zz 2 ?_);refine y_ zs (j_ 22 rfl zk (o_ 0 cj_ rfl rfl rfl rfl rfl rfl (Zz 2 ?_)));refine y_ zs (Zz 2 ?_);exact aA_ ⟨(b_3,H,M,I,B),C,A,x,e⟩ zl (E_ (g_ (g_ f_)) (E_ f_ ah_)) zf):G:=h
theorem nF_ {G:Prop} (h:G:=by
 have W:av_ 9 1 Z (List.length (([]:List Str)++(Pth.rl d))) (List.flatMap V_ (([]:List Str)++(Pth.rl d))) X:=by rw[yae_,yan_];exact R
 refine Zz 2 ?_;refine y_ zs (j_ 10 rfl zk (am_ (news:=List.flatMap V_ [E.2.1]) ch_ W rfl rfl ag_ rfl (fQ_ zp) (λu hu=>aF_ bN_ hu) zab_ zac_ rfl λJ L T=>?_));exact nL_):G:=h
theorem nG_ {G:Prop} (h:G:=by
 have W:av_ 9 1 Z (List.length (([]:List Str)++(Pth.rl d))) (List.flatMap V_ (([]:List Str)++(Pth.rl d))) X:=by rw[yae_,yan_];exact R
 refine Zz 2 ?_;refine y_ zs (j_ 10 rfl zk (am_ (news:=List.flatMap V_ [E.2.1]) ch_ W rfl rfl ag_ rfl (fQ_ zp) (λu hu=>aF_ bN_ hu) zab_ zac_ rfl λJ L T=>?_));exact nK_):G:=h
theorem nH_ {G:Prop} (h:G:=by
 refine bd_ (j_ 20 rfl zk ?_);have G:av_ 9 1 J ((Pth.rl d)++[E.2.1]).length (List.flatMap V_ ((Pth.rl d)++[E.2.1])) L:=by have q:=K;first|exact q|simpa using q
 refine I_ G ag_ λI B F A x e=>?_;subst F;refine c_ (x_ ij_ rfl rfl) rfl (Zz 2 ?_);refine y_ zs (j_ 22 rfl zk (o_ 1 cj_ rfl rfl rfl rfl rfl rfl (Zz 2 ?_)));refine y_ zs (Zz 2 ?_);exact aA_ ⟨(b_2,H,M,I,B),C,A,x,e⟩ zl (E_ (g_ (g_ f_)) (E_ (g_ f_) ah_)) zf):G:=h
theorem nI_ {G:Prop} (h:G:=by
 have K:=zsa T;refine Zz 2 ?_;refine y_ zs (C_ 8 [13] zk zs (Zz 2 ?_));cases r_2
 .refine C_ 2 [14,15,16,17,18,19] zk zs (Zz 2 ?_)
  refine bL_ rfl rfl rfl (J_ bi_ ci_ rfl rfl (λv _ h=>az_ (n:=3) bZ_ zaj_ zaY_ Q) zaa_ zah_) rfl ?_;refine bL_ rfl rfl rfl (bF_ bp_ rfl rfl rfl bD_) rfl (eo_ rfl rfl rfl (aS_ (ad:=sad) cG_ rfl zf (t_ bZ_ Q 2 _ rfl)) rfl λr_3 Y=>?_);refine G_ rfl (aD_ (cO_ rfl rfl) (show _=Value.bool bx from yag_ Value.bool zbD_)) rfl ?_;exact jd_
 exact lv_):G:=h
theorem jc_ {G:Prop} (h:G:=by
 refine bd_ (j_ 20 rfl zk ?_);have G:av_ 9 1 J ((Pth.rl d)++[E.2.1]).length (List.flatMap V_ ((Pth.rl d)++[E.2.1])) L:=by have q:=K;first|exact q|simpa using q
 refine I_ G ag_ λI B F A x e=>?_;subst F;refine c_ (x_ ij_ rfl rfl) rfl (Zz 2 ?_);exact ib_):G:=h
theorem nJ_ {G:Prop} (h:G:=by
 have W:av_ 9 1 Z (List.length (([]:List Str)++(Pth.rl d))) (List.flatMap V_ (([]:List Str)++(Pth.rl d))) X:=by rw[yae_,yan_];exact R
 refine Zz 2 ?_;refine y_ zs ?_;refine bx_ 10 21 rfl rfl zk ?_ ?_
 .refine am_ (news:=List.flatMap V_ [E.2.1]) ch_ W rfl rfl ag_ rfl (fQ_ zp) (λu hu=>aF_ bN_ hu) zab_ zac_ rfl λJ L T=>?_
  have K:=zsa T;refine Zz 2 ?_;refine y_ zs (C_ 9 [13] zk zs (Zz 2 ?_));cases r_2
  .refine C_ 3 [14,15,16,17,18,19] zk zs (Zz 2 ?_)
   refine bL_ rfl rfl rfl (J_ bi_ ci_ rfl rfl (λv _ h=>az_ (n:=3) bZ_ zaj_ zaY_ Q) zaa_ zah_) rfl ?_;refine bL_ rfl rfl rfl (bF_ bp_ rfl rfl rfl bD_) rfl (eo_ rfl rfl rfl (aS_ (ad:=sad) cG_ rfl zf (t_ bZ_ Q 2 _ rfl)) rfl λr_3 Y=>?_);refine G_ rfl (aD_ (cO_ rfl rfl) (show _=Value.bool bx from yag_ Value.bool zbD_)) rfl ?_;exact je_
  exact lt_
 refine K_ ce_ rfl λV=>Zz 2 ?_
 refine y_ zs (j_ 10 rfl zk (am_ (news:=List.flatMap V_ [E.2.1]) ch_ W rfl rfl zp rfl (fQ_ zp) (λu hu=>aF_ bN_ hu) zab_ zac_ rfl λJ L T=>?_));exact nL_):G:=h
theorem jd_ {G:Prop} (h:G:=by
 refine bd_ (j_ 20 rfl zk ?_);have G:av_ 9 1 J ((Pth.rl d)++[E.2.1]).length (List.flatMap V_ ((Pth.rl d)++[E.2.1])) L:=by have q:=K;first|exact q|simpa using q
 refine I_ G ag_ λI B F A x e=>?_;subst F;refine c_ (x_ ij_ rfl rfl) rfl (Zz 2 ?_);refine y_ zs (j_ 22 rfl zk (o_ 1 cj_ rfl rfl rfl rfl rfl rfl (Zz 2 ?_)));refine y_ zs (Zz 2 ?_);exact aA_ ⟨(b_3,H,M,I,B),C,A,x,e⟩ zl (E_ (g_ (g_ f_)) (E_ (g_ f_) ah_)) zf):G:=h
theorem nK_ {G:Prop} (h:G:=by
 have K:=zsa T;refine Zz 2 ?_;refine y_ zs (C_ 8 [13] zk zs (Zz 2 ?_));cases r_2
 .refine C_ 2 [14,15,16,17,18,19] zk zs (Zz 2 ?_)
  refine bL_ rfl rfl rfl (J_ bi_ ci_ rfl rfl (λv _ h=>az_ (n:=3) bZ_ zaj_ zaY_ Q) zaa_ zah_) rfl ?_;refine bL_ rfl rfl rfl (bF_ bp_ rfl rfl rfl bD_) rfl (eo_ rfl rfl rfl (aS_ (ad:=sad) cG_ rfl zf (t_ bZ_ Q 2 _ rfl)) rfl λr_3 Y=>?_);refine G_ rfl (aD_ (cO_ rfl rfl) (show _=Value.bool bx from yag_ Value.bool zbD_)) rfl ?_;exact nH_
 refine C_ 2 [14,15,16,17,18,19] zk zs (Zz 5 ?_);refine G_ rfl (aD_ (dY_ rfl rfl) (show _=Value.bool bx from yag_ Value.bool zbN_)) rfl ?_;exact nH_):G:=h
theorem nL_ {G:Prop} (h:G:=by
 have K:=zsa T;refine Zz 2 ?_;refine y_ zs (C_ 8 [13] zk zs (Zz 2 ?_));cases r_2
 .refine C_ 2 [14,15,16,17,18,19] zk zs (Zz 2 ?_)
  refine bL_ rfl rfl rfl (J_ bi_ ci_ rfl rfl (λv _ h=>az_ (n:=3) bZ_ zaj_ zaY_ Q) zaa_ zah_) rfl ?_;refine bL_ rfl rfl rfl (bF_ bp_ rfl rfl rfl bD_) rfl (eo_ rfl rfl rfl (aS_ (ad:=sad) cG_ rfl zf (t_ bZ_ Q 2 _ rfl)) rfl λr_3 Y=>?_);refine G_ rfl (aD_ (cO_ rfl rfl) (show _=Value.bool bx from yag_ Value.bool zbD_)) rfl ?_;exact jc_
 exact lu_):G:=h
theorem je_ {G:Prop} (h:G:=by
 refine bd_ ?_;refine bx_ 20 21 rfl rfl zk ?_ ?_
 .have G:av_ 9 1 J ((Pth.rl d)++[E.2.1]).length (List.flatMap V_ ((Pth.rl d)++[E.2.1])) L:=by have q:=K;first|exact q|simpa using q
  refine I_ G ag_ λI B F A x e=>?_;subst F;refine c_ (x_ ij_ rfl rfl) rfl (Zz 2 ?_);refine y_ zs (j_ 21 rfl zk (K_ ce_ rfl λV=>Zz 2 ?_));exact ib_
 refine K_ ce_ rfl λV=>Zz 2 ?_
 refine y_ zs (j_ 20 rfl zk ?_);have G:av_ 9 1 J ((Pth.rl d)++[E.2.1]).length (List.flatMap V_ ((Pth.rl d)++[E.2.1])) L:=by have q:=K;first|exact q|simpa using q
 refine I_ G (g_ ag_) λI B F A x e=>?_;subst F;refine c_ (x_ ij_ rfl rfl) rfl (Zz 2 ?_);exact ib_):G:=h
theorem yj_ (P:List Pth) (pad:Ao) (pcap:Nat) (S:List RSt) (sad:Ao) (scap n:Nat) (hn:0<n) (hnl:n<=900000) (hP:∀ z∈P,z.rl.length=n) (hok:∀ z∈P,z.ok) (hPl:P.length<=1000000) (hSl:S.length<=1000000):Tri prog 255 #[.slice pad P.length pcap,.slice sad S.length scap] [] [O_ pad (P.flatMap Pth.cells),gh_ P,O_ sad (S.flatMap hf_)] (λy:{y:List Pth×Ao×Nat // CI (jO_ (P.map Pth.b) S) (y.1.map Pth.b)/\(∀ z∈y.1,z.ok)/\(y.1.length<=y.2.2/\y.2.2<=maxLen/\(y.2.1=none->y.2.2=0))}=>.slice y.1.2.1 y.1.1.length y.1.2.2) (λ_=>[]) (λy=>[O_ y.1.2.1 (y.1.1.flatMap Pth.cells),gh_ y.1.1]):=by
 refine l_ func255 rfl rfl ntmps255 rfl λv_1=>?_;refine Zz 17 ?_;refine Y_ (ι:={y:Nat×List Pth×Value×Hp // y.1<=List.length P/\LgI (P.map Pth.b) S n y.1 [] y.2.1/\zR 290 2 Pth.cells y.2.2.1 y.2.1 y.2.2.2}) (λy=>[(0,.slice pad P.length pcap),(1,.slice sad S.length scap),(4,.slice none 0 0),(5,y.1.2.2.1),(6,i4_ y.1.1)]) (λy=>(y.1.2.2.2)) (λy=>[gh_ y.1.2.1,O_ pad (P.flatMap Pth.cells),gh_ P,O_ sad (S.flatMap hf_)]) (λy=>P.length - y.1.1) ⟨((0:Nat),([]:List Pth),(.slice none 0 0),[]),by simp,LgI.nil,(av_.nil _ _)⟩ zl e_ (λv _ h=>by exact⟨(show (gh_ ([]:List Pth)).p v from λz hz=>by simp at hz),h.1,h.2.1,h.2.2.1,trivial⟩) ?_;rintro ⟨⟨i,O,H,M⟩,hi_i,hI,C⟩;dsimp only at hi_i hI C ⊢;refine Zi 6 (λhr_1=>?_) λhr_1=>?_
 .refine Zz 12 ?_
  refine I_ C an_ λoad ocap hoad hcoad hmoad hzoad=>?_;exact W_ results255 ⟨(O,oad,ocap),hI.fine zaz_,hI.ok,⟨hcoad,hmoad,hzoad⟩⟩ (cw_ rfl hoad) e_ zf
 obtain⟨hlx_1,d,hx_1,a1⟩:=zge (show i<P.length by omega);have hn_1:=hP d a1;have a0:=hok d a1;refine Zz 11 ?_;refine c_ (J_ cI_ cj_ rfl rfl (λv _ h=>az_ (n:=2) Pth.cells_len zaj_ (by exact h.2.1) hx_1) zaa_ zah_) rfl ?_;refine c_ (ax_ (ad:=pad) (us:=Pth.cells d) isAgg290 cj_ rfl zf (Pth.cells_len _) (t_ Pth.cells_len hx_1)) rfl (K_ ce_ rfl λb_1=>o_ 0 cj_ rfl rfl rfl rfl rfl rfl (Zz 8 ?_));refine Y_ (ι:={y:Nat×List Pth×Value×Hp // y.1<=List.length S/\LgI (P.map Pth.b) S n i (fr_ (Pth.b d) (S.take y.1)) y.2.1/\zR 290 2 Pth.cells y.2.2.1 y.2.1 y.2.2.2}) (λy=>[(0,.slice pad P.length pcap),(1,.slice sad S.length scap),(4,.slice none 0 0),(5,y.1.2.2.1),(6,i4_ i),(7,zp_ b_1 0),(8,i4_ y.1.1)]) (λy=>((b_1,.cells #[.slice (Pth.ad d) (Pth.rl d).length (Pth.cap d),.bool (Pth.st d)] 290 (0,0))::y.1.2.2.2)) (λy=>[gh_ y.1.2.1,O_ pad (P.flatMap Pth.cells),gh_ P,O_ sad (S.flatMap hf_)]) (λy=>S.length - y.1.1) ⟨((0:Nat),O,H,M),zak_,(by rw[ybI_];exact hI),C⟩ zl zp zh ?_;rintro ⟨⟨k,O,H,M⟩,hi_k,hI_1,C⟩;dsimp only at hi_k hI_1 C ⊢;have hOl:=hI_1.short;refine Zi 6 (λhr_2=>?_) λhr_2=>?_
 .refine Zz 11 ?_
  exact w_ ⟨(i+1,O,H,M),hlx_1,(hI_1.next (by rw[yaD_,hx_1];rfl) zaa_),C⟩ zae_ zl ah_ zh
 have hlz_1:k<S.length:=by omega
 obtain⟨E,Q⟩:∃ e_1,S[k]? = some e_1:=⟨_,yaa_ hlz_1⟩;have hlla:(Int.toNat ((List.length (Pth.rl d):Int) - 1))<List.length (Pth.rl d):=by omega
 obtain⟨la,hla⟩:∃ e_1,(Pth.rl d)[(Int.toNat ((List.length (Pth.rl d):Int) - 1))]? = some e_1:=⟨_,yaa_ hlla⟩;have hlst:=Aa_ hla;refine Zz 9 ?_;let Qu:Hp:=((b_1,.cells #[.slice (Pth.ad d) (Pth.rl d).length (Pth.cap d),.bool (Pth.st d)] 290 (0,0))::M);refine aW_ Qu zk ?_;refine C_ 9 [0,1,2,3,4,5,6,7,8,9,10,11,12,13,14] zk zs (Zz 2 ?_);refine G_ rfl (J_ bi_ ci_ rfl rfl (λv _ h=>az_ (n:=3) bZ_ zaj_ zaY_ Q) zaa_ zah_) rfl ?_;refine G_ rfl (bF_ bp_ rfl rfl rfl B_) rfl (G_ rfl (aS_ (ad:=sad) aJ_ rfl zf (t_ bZ_ Q 0 _ rfl)) rfl (Zz 6 ?_));refine G_ rfl (J_ m_ B_ rfl rfl (λv _ h=>az_ (n:=1) au_ zaj_ (by exact (h.2.2.1 d a1)) hla) zaa_ zah_) rfl ?_;refine G_ rfl (aS_ (ad:=(Pth.ad d)) aJ_ rfl (λv _ h=>by exact (h.2.2.1 d a1)) (t_ au_ hla 0 _ rfl)) rfl ?_;refine Zi 0 (λhr_3=>?_) λhr_3=>?_
 .refine Zz 2 ?_
  refine C_ 2 [15,16,17,18,19,20,21] zk zs (Zz 4 ?_);refine bL_ rfl rfl rfl (J_ bi_ ci_ rfl rfl (λv _ h=>az_ (n:=3) bZ_ zaj_ zaY_ Q) zaa_ zah_) rfl ?_;refine bL_ rfl rfl rfl (bF_ bp_ rfl rfl rfl B_) rfl (bL_ rfl rfl rfl (aS_ (ad:=sad) aJ_ rfl zf (t_ bZ_ Q 1 _ rfl)) rfl (bd_ (j_ 22 rfl zk (as_ rfl rfl (U_ (fT_ (Pth.rl d) (Pth.ad d) (Pth.cap d) E.2.1 zaa_) rfl e_ (λv _ h=>by exact⟨(h.2.2.1 d a1),trivial⟩) rfl λr_1 hr_4=>Zz 2 ?_)))));refine y_ zs (C_ 0 [23] zk zs (Zz 4 ?_));cases r_1
  .replace hr_4:=zdf hr_4
   refine Zz 3 ?_;obtain⟨bx,a2⟩:∃ b:Bool,(Pth.st d||E.2.2)=b:=⟨_,rfl⟩;refine aq_ ?_;refine co_ (ι:={y:Nat×Value×Hp×Ao×Nat // zR 290 2 Pth.cells y.2.1 O y.2.2.1/\List.length ((Pth.rl d)++[E.2.1])<=y.2.2.2.2/\y.2.2.2.2<=maxLen/\(y.2.2.2.1=none->y.2.2.2.2=0)}) (λy=>[(0,.slice pad P.length pcap),(1,.slice sad S.length scap),(4,.slice none 0 0),(5,y.1.2.1),(6,i4_ i),(7,zp_ b_1 0),(8,i4_ k),(9,zp_ y.1.1 0)]) (λy=>((b_1,.cells #[.slice (Pth.ad d) (Pth.rl d).length (Pth.cap d),.bool (Pth.st d)] 290 (0,0))::((y.1.1,.cells #[.slice y.1.2.2.2.1 ((Pth.rl d)++[E.2.1]).length y.1.2.2.2.2,.bool bx] 290 (0,0))::y.1.2.2.1))) (λy=>[O_ y.1.2.2.2.1 (List.flatMap V_ ((Pth.rl d)++[E.2.1])),gh_ O,O_ pad (P.flatMap Pth.cells),gh_ P,O_ sad (S.flatMap hf_)]) ?_ ?_
   .refine aW_ Qu zk ?_
    refine C_ 14 [1,2,4,5,6,7,8,11,12] zk zs (Zz 4 ?_);refine G_ rfl (J_ bi_ ci_ rfl rfl (λv _ h=>az_ (n:=3) bZ_ zaj_ zaY_ Q) zaa_ zah_) rfl ?_;refine G_ rfl (bF_ bp_ rfl rfl rfl B_) rfl (G_ rfl (aS_ (ad:=sad) aJ_ rfl zf (t_ bZ_ Q 1 _ rfl)) rfl (Zz 1 ?_));refine kd_ rfl (aK_ 0 cG_ rfl rfl rfl) rfl λr_2 U=>bd_ ?_
    refine jV_ [0,9,21] zk zak_ ?_;intro i hi;simp only[yar_,yav_,ybg_]at hi;rcases hi with rfl|rfl|rfl
    .refine⟨_,rfl,?_⟩
     refine dc_ m_ B_ rfl λb_2=>s_ f_ (Zz 2 ?_)
     refine y_ zs ?_;refine jV_ [3,9,21] zk zak_ ?_;intro i hi;simp only[yar_,yav_,ybg_]at hi;rcases hi with rfl|rfl|rfl
     .refine⟨_,rfl,?_⟩
      refine aY_ (news:=List.flatMap V_ (Pth.rl d)) ch_ (dr_ b_2 9 1) rfl rfl a0.2.2 a0.1 ag_ zaH_ (λv _ h=>by exact (h.2.2.1 d a1)) (λu hu=>aF_ bN_ hu) zab_ zac_ rfl λZ X hr_1=>?_;have W:av_ 9 1 Z (List.length (([]:List Str)++(Pth.rl d))) (List.flatMap V_ (([]:List Str)++(Pth.rl d))) X:=by rw[yae_,yan_];exact hr_1
      refine Zz 2 ?_;refine y_ zs ?_;refine bx_ 9 21 rfl rfl zk ?_ ?_
      .refine p_ m_ B_ ak_ rfl rfl rfl rfl rfl rfl λb_3=>Zz 2 ?_
       refine y_ zs ?_;refine bx_ 10 21 rfl rfl zk ?_ ?_
       .refine am_ (news:=List.flatMap V_ [E.2.1]) ch_ W rfl rfl zp rfl (aO_ 0 rfl) (λu hu=>aF_ bN_ hu) zab_ zac_ rfl λJ L hr_2=>?_
        have K:=zsa hr_2;refine Zz 2 ?_;refine y_ zs (C_ 9 [13] zk zs (Zz 2 ?_));cases r_2
        .refine C_ 3 [14,15,16,17,18,19] zk zs (Zz 2 ?_)
         refine bL_ rfl rfl rfl (J_ bi_ ci_ rfl rfl (λv _ h=>az_ (n:=3) bZ_ zaj_ zaY_ Q) zaa_ zah_) rfl ?_;refine bL_ rfl rfl rfl (bF_ bp_ rfl rfl rfl bD_) rfl (eo_ rfl rfl rfl (aS_ (ad:=sad) cG_ rfl zf (t_ bZ_ Q 2 _ rfl)) rfl λr_3 R=>?_);refine G_ rfl (aD_ (cO_ rfl rfl) (show _=Value.bool bx from yag_ Value.bool (by rw[<-a2];simp[U,R]))) rfl ?_;exact je_
        exact lt_
       refine K_ ce_ rfl λV=>Zz 2 ?_
       refine y_ zs (j_ 10 rfl zk (am_ (news:=List.flatMap V_ [E.2.1]) ch_ W rfl rfl zp rfl (aO_ 1 rfl) (λu hu=>aF_ bN_ hu) zab_ zac_ rfl λJ L R=>?_));have K:=zsa R;refine Zz 2 ?_;refine y_ zs (C_ 8 [13] zk zs (Zz 2 ?_));cases r_2
       .refine C_ 2 [14,15,16,17,18,19] zk zs (Zz 2 ?_)
        refine bL_ rfl rfl rfl (J_ bi_ ci_ rfl rfl (λv _ h=>az_ (n:=3) bZ_ zaj_ zaY_ Q) zaa_ zah_) rfl ?_;refine bL_ rfl rfl rfl (bF_ bp_ rfl rfl rfl bD_) rfl (eo_ rfl rfl rfl (aS_ (ad:=sad) cG_ rfl zf (t_ bZ_ Q 2 _ rfl)) rfl λr_3 R=>?_);refine G_ rfl (aD_ (cO_ rfl rfl) (show _=Value.bool bx from yag_ Value.bool (by rw[<-a2];simp[U,R]))) rfl ?_;exact jc_
       exact lu_
      refine K_ ce_ rfl λb_3=>Zz 2 ?_
      refine y_ zs (j_ 9 rfl zk (p_ m_ B_ ak_ rfl rfl rfl rfl rfl rfl λV=>Zz 2 ?_));refine y_ zs (j_ 10 rfl zk (am_ (news:=List.flatMap V_ [E.2.1]) ch_ W rfl rfl zp rfl (aO_ 0 rfl) (λu hu=>aF_ bN_ hu) zab_ zac_ rfl λJ L R=>?_));have K:=zsa R;refine Zz 2 ?_;refine y_ zs (C_ 8 [13] zk zs (Zz 2 ?_));cases r_2
      .refine C_ 2 [14,15,16,17,18,19] zk zs (Zz 2 ?_)
       refine bL_ rfl rfl rfl (J_ bi_ ci_ rfl rfl (λv _ h=>az_ (n:=3) bZ_ zaj_ zaY_ Q) zaa_ zah_) rfl ?_;refine bL_ rfl rfl rfl (bF_ bp_ rfl rfl rfl bD_) rfl (eo_ rfl rfl rfl (aS_ (ad:=sad) cG_ rfl zf (t_ bZ_ Q 2 _ rfl)) rfl λr_3 T=>?_);refine G_ rfl (aD_ (cO_ rfl rfl) (show _=Value.bool bx from yag_ Value.bool (by rw[<-a2];simp[U,T]))) rfl ?_;exact jd_
      exact lv_
     .refine⟨_,rfl,?_⟩
      refine p_ m_ B_ ak_ rfl rfl rfl rfl rfl rfl λb_3=>Zz 2 ?_
      refine y_ zs ?_;refine bx_ 3 21 rfl rfl zk ?_ ?_
      .refine aY_ (news:=List.flatMap V_ (Pth.rl d)) ch_ (dr_ b_2 9 1) rfl rfl a0.2.2 a0.1 zp zaH_ (λv _ h=>by exact (h.2.2.1 d a1)) (λu hu=>aF_ bN_ hu) zab_ zac_ rfl λZ X R=>?_
       exact nJ_
      refine K_ ce_ rfl λV=>Zz 2 ?_
      refine y_ zs (j_ 3 rfl zk (aY_ (news:=List.flatMap V_ (Pth.rl d)) ch_ (dr_ b_2 9 1) rfl rfl a0.2.2 a0.1 zp zaH_ (λv _ h=>by exact (h.2.2.1 d a1)) (λu hu=>aF_ bN_ hu) zab_ zac_ rfl λZ X R=>?_));exact nF_
     refine⟨_,rfl,?_⟩;refine K_ ce_ rfl λb_3=>Zz 2 ?_
     refine y_ zs ?_;refine bx_ 3 9 rfl rfl zk ?_ ?_
     .refine aY_ (news:=List.flatMap V_ (Pth.rl d)) ch_ (dr_ b_2 9 1) rfl rfl a0.2.2 a0.1 zp zaH_ (λv _ h=>by exact (h.2.2.1 d a1)) (λu hu=>aF_ bN_ hu) zab_ zac_ rfl λZ X R=>?_
      have W:av_ 9 1 Z (List.length (([]:List Str)++(Pth.rl d))) (List.flatMap V_ (([]:List Str)++(Pth.rl d))) X:=by rw[yae_,yan_];exact R
      refine Zz 2 ?_;refine y_ zs (j_ 9 rfl zk (p_ m_ B_ ak_ rfl rfl rfl rfl rfl rfl λV=>Zz 2 ?_));refine y_ zs (j_ 10 rfl zk (am_ (news:=List.flatMap V_ [E.2.1]) ch_ W rfl rfl zp rfl (aO_ 0 rfl) (λu hu=>aF_ bN_ hu) zab_ zac_ rfl λJ L T=>?_));exact nI_
     refine p_ m_ B_ ak_ rfl rfl rfl rfl rfl rfl λV=>Zz 2 ?_
     refine y_ zs (j_ 3 rfl zk (aY_ (news:=List.flatMap V_ (Pth.rl d)) ch_ (dr_ b_2 9 1) rfl rfl a0.2.2 a0.1 zp zaH_ (λv _ h=>by exact (h.2.2.1 d a1)) (λu hu=>aF_ bN_ hu) zab_ zac_ rfl λZ X R=>?_));have W:av_ 9 1 Z (List.length (([]:List Str)++(Pth.rl d))) (List.flatMap V_ (([]:List Str)++(Pth.rl d))) X:=by rw[yae_,yan_];exact R
     refine Zz 2 ?_;refine y_ zs (j_ 10 rfl zk (am_ (news:=List.flatMap V_ [E.2.1]) ch_ W rfl rfl ag_ rfl (fQ_ zp) (λu hu=>aF_ bN_ hu) zab_ zac_ rfl λJ L T=>?_));exact nI_
    .refine⟨_,rfl,?_⟩
     refine p_ m_ B_ ak_ rfl rfl rfl rfl rfl rfl λb_2=>Zz 2 ?_
     refine y_ zs ?_;refine bx_ 0 21 rfl rfl zk ?_ ?_
     .refine dc_ m_ B_ rfl λb_3=>s_ f_ (Zz 2 ?_)
      refine y_ zs ?_;refine bx_ 3 21 rfl rfl zk ?_ ?_
      .refine aY_ (news:=List.flatMap V_ (Pth.rl d)) ch_ (dr_ b_3 9 1) rfl rfl a0.2.2 a0.1 ag_ zaH_ (λv _ h=>by exact (h.2.2.1 d a1)) (λu hu=>aF_ bN_ hu) zab_ zac_ rfl λZ X R=>?_
       exact nJ_
      refine K_ ce_ rfl λV=>Zz 2 ?_
      refine y_ zs (j_ 3 rfl zk (aY_ (news:=List.flatMap V_ (Pth.rl d)) ch_ (dr_ b_3 9 1) rfl rfl a0.2.2 a0.1 zp zaH_ (λv _ h=>by exact (h.2.2.1 d a1)) (λu hu=>aF_ bN_ hu) zab_ zac_ rfl λZ X R=>?_));exact nF_
     refine K_ ce_ rfl λb_3=>Zz 2 ?_
     refine y_ zs (j_ 0 rfl zk (dc_ m_ B_ rfl λV=>s_ f_ (Zz 2 ?_)));refine y_ zs (j_ 3 rfl zk (aY_ (news:=List.flatMap V_ (Pth.rl d)) ch_ (dr_ V 9 1) rfl rfl a0.2.2 a0.1 ag_ zaH_ (λv _ h=>by exact (h.2.2.1 d a1)) (λu hu=>aF_ bN_ hu) zab_ zac_ rfl λZ X R=>?_));have W:av_ 9 1 Z (List.length (([]:List Str)++(Pth.rl d))) (List.flatMap V_ (([]:List Str)++(Pth.rl d))) X:=by rw[yae_,yan_];exact R
     refine Zz 2 ?_;refine y_ zs (j_ 10 rfl zk (am_ (news:=List.flatMap V_ [E.2.1]) ch_ W rfl rfl ag_ rfl (fQ_ zp) (λu hu=>aF_ bN_ hu) zab_ zac_ rfl λJ L T=>?_));have K:=zsa T;refine Zz 2 ?_;refine y_ zs (C_ 8 [13] zk zs (Zz 2 ?_));cases r_2
     .refine C_ 2 [14,15,16,17,18,19] zk zs (Zz 2 ?_)
      refine bL_ rfl rfl rfl (J_ bi_ ci_ rfl rfl (λv _ h=>az_ (n:=3) bZ_ zaj_ zaY_ Q) zaa_ zah_) rfl ?_;refine bL_ rfl rfl rfl (bF_ bp_ rfl rfl rfl bD_) rfl (eo_ rfl rfl rfl (aS_ (ad:=sad) cG_ rfl zf (t_ bZ_ Q 2 _ rfl)) rfl λr_3 Y=>?_);refine G_ rfl (aD_ (cO_ rfl rfl) (show _=Value.bool bx from yag_ Value.bool zbD_)) rfl ?_;exact lw_
     refine C_ 2 [14,15,16,17,18,19] zk zs (Zz 5 ?_);refine G_ rfl (aD_ (dY_ rfl rfl) (show _=Value.bool bx from yag_ Value.bool zbN_)) rfl ?_;exact lw_
    refine⟨_,rfl,?_⟩;refine K_ ce_ rfl λb_2=>Zz 2 ?_
    refine y_ zs ?_;refine bx_ 0 9 rfl rfl zk ?_ ?_
    .refine dc_ m_ B_ rfl λb_3=>s_ f_ (Zz 2 ?_)
     refine y_ zs ?_;refine bx_ 3 9 rfl rfl zk ?_ ?_
     .refine aY_ (news:=List.flatMap V_ (Pth.rl d)) ch_ (dr_ b_3 9 1) rfl rfl a0.2.2 a0.1 ag_ zaH_ (λv _ h=>by exact (h.2.2.1 d a1)) (λu hu=>aF_ bN_ hu) zab_ zac_ rfl λZ X R=>?_
      have W:av_ 9 1 Z (List.length (([]:List Str)++(Pth.rl d))) (List.flatMap V_ (([]:List Str)++(Pth.rl d))) X:=by rw[yae_,yan_];exact R
      refine Zz 2 ?_;refine y_ zs (j_ 9 rfl zk (p_ m_ B_ ak_ rfl rfl rfl rfl rfl rfl λV=>Zz 2 ?_));refine y_ zs (j_ 10 rfl zk (am_ (news:=List.flatMap V_ [E.2.1]) ch_ W rfl rfl zp rfl (aO_ 0 rfl) (λu hu=>aF_ bN_ hu) zab_ zac_ rfl λJ L T=>?_));exact nK_
     refine p_ m_ B_ ak_ rfl rfl rfl rfl rfl rfl λV=>Zz 2 ?_
     refine y_ zs (j_ 3 rfl zk (aY_ (news:=List.flatMap V_ (Pth.rl d)) ch_ (dr_ b_3 9 1) rfl rfl a0.2.2 a0.1 zp zaH_ (λv _ h=>by exact (h.2.2.1 d a1)) (λu hu=>aF_ bN_ hu) zab_ zac_ rfl λZ X R=>?_));exact nG_
    refine p_ m_ B_ ak_ rfl rfl rfl rfl rfl rfl λb_3=>Zz 2 ?_
    refine y_ zs (j_ 0 rfl zk (dc_ m_ B_ rfl λV=>s_ f_ (Zz 2 ?_)));refine y_ zs (j_ 3 rfl zk (aY_ (news:=List.flatMap V_ (Pth.rl d)) ch_ (dr_ V 9 1) rfl rfl a0.2.2 a0.1 ag_ zaH_ (λv _ h=>by exact (h.2.2.1 d a1)) (λu hu=>aF_ bN_ hu) zab_ zac_ rfl λZ X R=>?_));exact nG_
   rintro ⟨⟨z10_21,H,M,I,B⟩,C,A,x,e⟩;dsimp only at C A x e ⊢;refine bc_ [(0,.slice pad P.length pcap),(1,.slice sad S.length scap),(4,.slice none 0 0),(5,H),(6,i4_ i),(7,zp_ b_1 0),(8,i4_ k),(9,zp_ z10_21 0)] zl ?_;refine Zz 2 ?_;have hXn:List.length ((Pth.rl d)++[E.2.1])=n+1:=by rw[yae_,ybK_,hn_1]
   have hext:pT_ (Pth.b d) E=[Pth.b (Pth.mk ((Pth.rl d)++[E.2.1]) I B bx)]:=by rw[AB_ (p:=Pth.b d) (s:=E) (by show lst (Pth.rl d)=_;rw[hlst,hr_3]) hr_4,<-a2];rfl
   refine Zz 11 ?_;let Pu:Hp:=((b_1,.cells #[.slice (Pth.ad d) (Pth.rl d).length (Pth.cap d),.bool (Pth.st d)] 290 (0,0))::((z10_21,.cells #[.slice I ((Pth.rl d)++[E.2.1]).length B,.bool bx] 290 (0,0))::M));refine Y_ (ι:={y:Nat×Int // y.1<=List.length O/\AtI O y.1 (Prod.mk ((Pth.rl d)++[E.2.1]) bx) y.2}) (λy=>[(0,.slice pad P.length pcap),(1,.slice sad S.length scap),(4,.slice none 0 0),(5,H),(6,i4_ i),(7,zp_ b_1 0),(8,i4_ k),(9,zp_ z10_21 0),(10,i4_ y.1.2),(11,i4_ y.1.1)]) (λy=>Pu) (λy=>[O_ I (List.flatMap V_ ((Pth.rl d)++[E.2.1])),gh_ O,O_ pad (P.flatMap Pth.cells),gh_ P,O_ sad (S.flatMap hf_)]) (λy=>O.length - y.1.1) ⟨((0:Nat),(-1)),by simp,AtI.nil⟩ zl zp zh ?_;rintro ⟨⟨m,at_⟩,hi_m,hA⟩;dsimp only at hi_m hA ⊢;refine Zz 5 ?_;refine c_ (dF_ C cI_ rfl) rfl ?_;refine Zi 0 (λU=>?_) λU=>?_
   .refine Zi 8 (λR=>?_) λR=>?_
    .obtain⟨a,o,rfl,ho,hok⟩:=hA.some R
     have hmo:o∈O:=yad_ ho;have hla_o:=(yaf_.1 ho).1;refine Zz 4 ?_;refine aW_ Pu zk ?_;refine C_ 1 [0,1,2,3,4,5,6] zk zs (Zz 4 ?_);refine G_ rfl (bJ_ C cI_ cj_ rfl rfl zaa_ zaa_) rfl (Zz 1 ?_);refine G_ rfl (cH_ C (g_ ah_) fS_ rfl (t_ Pth.cells_len ho 0 _ rfl)) rfl (bd_ (j_ 7 rfl zk (d_ (tv_ ((Pth.rl d)++[E.2.1]) I B (Pth.rl o) (Pth.ad o) (Pth.cap o) (by have:=hI_1.len o hmo;omega) zaa_) rfl e_ (λv _ h=>by exact⟨h.1,(h.2.1 o hmo),trivial⟩) rfl λbl=>?_)));refine Zz 2 ?_;refine y_ zs (Zz 2 ?_);cases bl
     .refine Zz 9 ?_
      exact w_ ⟨(k+1,O,H,M),hlz_1,(hI_1.keep Q hext ho hok),C⟩ zae_ zl zp (λ_ _ h=>h.2)
     refine Zz 5 ?_;refine c_ (bJ_ C cI_ cj_ rfl rfl zaa_ zaa_) rfl (ps_ (k:=a*2) (us:=Pth.cells (Pth.mk ((Pth.rl d)++[E.2.1]) I B bx)) C zp cj_ rfl rfl zaa_ (Pth.cells_len _) zaj_ (Pth.cells_one _) λX T=>?_);have hs_1:=sw_ Pth.cells 2 Pth.cells_len O a (Pth.mk ((Pth.rl d)++[E.2.1]) I B bx) zaa_;have W:av_ 290 2 H (List.set O a (Pth.mk ((Pth.rl d)++[E.2.1]) I B bx)).length (List.flatMap Pth.cells (List.set O a (Pth.mk ((Pth.rl d)++[E.2.1]) I B bx))) X:=by rw[yaZ_,<-hs_1];exact T
     refine Zz 2 ?_;refine s_ (aL_ (ae_ f_) (cg_ bS_)) (Zz 6 ?_);exact w_ ⟨(k+1,(List.set O a (Pth.mk ((Pth.rl d)++[E.2.1]) I B bx)),H,X),hlz_1,(hI_1.set Q hext ho hok ⟨A,x,e⟩ hXn),W⟩ zae_ zl zp (λv _ h=>by exact⟨(xU_ h.2.1 h.1),h.2.2.1,h.2.2.2.1,h.2.2.2.2.1,trivial⟩)
    refine Zz 6 ?_;refine p_ cI_ cj_ ce_ rfl rfl rfl rfl rfl rfl λb_2=>?_;refine am_ (news:=List.flatMap Pth.cells [(Pth.mk ((Pth.rl d)++[E.2.1]) I B bx)]) CB_ C rfl rfl zp rfl (aO_ 0 rfl) (λu hu=>aF_ Pth.cells_one hu) zab_ zac_ rfl λZ X T=>?_;refine s_ yah_ ?_;have W:=zsa T;refine Zz 9 ?_;exact w_ ⟨(k+1,(O++[(Pth.mk ((Pth.rl d)++[E.2.1]) I B bx)]),Z,X),hlz_1,(hI_1.push Q hext (hA.none R zaa_) ⟨A,x,e⟩ hXn),W⟩ zae_ zl (E_ (g_ f_) (g_ ah_)) (λv _ h=>by exact⟨(pm_ h.2.1 h.1),h.2.2.1,h.2.2.2.1,h.2.2.2.2.1,trivial⟩)
   have hlo_1:m<O.length:=by omega
   obtain⟨o_1,ho_1⟩:∃ e_1,O[m]? = some e_1:=⟨_,yaa_ hlo_1⟩;have hmo_1:o_1∈O:=yad_ ho_1;have hon:=hI_1.len o_1 hmo_1;have hllo:(Int.toNat ((List.length ((Pth.rl d)++[E.2.1]):Int) - 1))<List.length (Pth.rl o_1):=by omega
   obtain⟨lo,hlo⟩:∃ e_1,(Pth.rl o_1)[(Int.toNat ((List.length ((Pth.rl d)++[E.2.1]):Int) - 1))]? = some e_1:=⟨_,yaa_ hllo⟩;have hkey:=lst_at hlo zaa_;refine Zz 9 ?_;refine C_ 18 [0,1,2,3,4,5,6,7,8] zk zs (Zz 2 ?_);refine G_ rfl (bJ_ C cI_ cj_ rfl rfl zaa_ zaa_) rfl (Zz 1 ?_);refine G_ rfl (cH_ C zp cG_ rfl (t_ Pth.cells_len ho_1 1 _ rfl)) rfl (Zz 2 ?_);refine kd_ rfl (lL_ kR_ rfl rfl) rfl λr_2 R=>Zz 2 ?_
   cases r_2
   .refine C_ 0 [9,10,11,12,13,14,15,16,17,18,19,20,21,22,23,24,25,26] zk zs (Zz 30 ?_)
    exact w_ ⟨(m+1,at_),hlo_1,(hA.skip ho_1 (λq=>by have q_1:=((sh_ hkey).1 q).1;have q_2:=R;rw[q_1]at q_2;simp at q_2))⟩ zae_ zl (E_ f_ (E_ f_ an_)) zh
   refine C_ 0 [9,10,11,12,13,14,15,16,17,18,19,20,21,22,23,24,25,26] zk zs (Zz 2 ?_);refine bL_ rfl rfl rfl (bJ_ C cI_ cj_ rfl rfl zaa_ zaa_) rfl (Zz 1 ?_);refine bL_ rfl rfl rfl (cH_ C zp fS_ rfl (t_ Pth.cells_len ho_1 0 _ rfl)) rfl (Zz 4 ?_);refine bL_ rfl rfl rfl (J_ m_ B_ rfl rfl (λv _ h=>az_ (n:=1) au_ zaj_ (by exact (h.2.1 o_1 hmo_1)) hlo) zaa_ zah_) rfl ?_;refine bL_ rfl rfl rfl (aS_ (ad:=(Pth.ad o_1)) aJ_ rfl (λv _ h=>by exact (h.2.1 o_1 hmo_1)) (t_ au_ hlo 0 _ rfl)) rfl (Zz 2 ?_);refine bL_ rfl rfl rfl (J_ bi_ ci_ rfl rfl (λv _ h=>az_ (n:=3) bZ_ zaj_ (by exact h.2.2.2.2.1) Q) zaa_ zah_) rfl ?_;refine bL_ rfl rfl rfl (bF_ bp_ rfl rfl rfl B_) rfl (bL_ rfl rfl rfl (aS_ (ad:=sad) aJ_ rfl zf (t_ bZ_ Q 1 _ rfl)) rfl ?_);refine Zi 0 (λT=>?_) λT=>?_
   .refine Zz 13 ?_
    exact w_ ⟨(m+1,at_),hlo_1,(hA.skip ho_1 (λq=>absurd ((sh_ hkey).1 q).2 T))⟩ zae_ zl zp zh
   refine Zz 16 ?_;exact w_ ⟨(m+1,(m:Int)),hlo_1,(AtI.hit ho_1 ((sh_ hkey).2 ⟨by simpa using R,T⟩))⟩ zae_ zl zp zh
  replace hr_4:=zdt hr_4;refine Zz 9 ?_;exact w_ ⟨(k+1,O,H,M),hlz_1,(hI_1.same Q (Cy_ (p:=Pth.b d) hr_4)),C⟩ zae_ zl zp zh
 refine Zz 2 ?_;refine C_ 0 [15,16,17,18,19,20,21,22,23] zk zs (Zz 21 ?_);exact w_ ⟨(k+1,O,H,M),hlz_1,(hI_1.same Q (Cx_ (p:=Pth.b d) (by show lst (Pth.rl d)≠_;rw[hlst];intro q;exact absurd (ycf_ q).symm hr_3))),C⟩ zae_ zl zp zh
theorem zD_ {q:Prop} {S:List RSt} {R:List Str} {X:List Prw} {n i k:Nat} {r:Str} {y:Prw} {p:Pth} (h:PX q S R X n i) (u:0<n) (o:R[i]? = some r) (e:X[i]? = some y) (d:y.ps[k]? = some p) (v:iH_ p.b S=true):qk_ S :=
  (h.at u o e).sound (yaU_ (yad_ d)) v
theorem AQ_ {q:Prop} {S:List RSt} {y:Prw} {k:Nat} {p:Pth} (h:q->∀ z∈List.take k y.bs,iH_ z S=false) (o:y.ps[k]? = some p) (e:iH_ p.b S=false):q->∀ z∈List.take (k+1) y.bs,iH_ z S=false:=λd =>
  oY_ (h d) (by grind[Prw.bs]) e
theorem CI_ {q:Prop} {S:List RSt} {y:Prw} {k:Nat} (h:q->∀ z∈List.take k y.bs,iH_ z S=false) (d:y.ps.length<=k):q->∀ z∈y.bs,iH_ z S=false:=by grind[List.take_of_length_le,Prw.bs]
theorem zi_ {l:List Ax} {R:List Str} (h:NsI [] (fy_ l) R):∀ s∈bM_ l,s.1∈R:=λs d=>(h.mem _).2 (.inr (th_ s d))
theorem BI_ {l:List Ax} (h:qk_ (bM_ l)):RlR l 60:=.inr ⟨rfl,h⟩
theorem rlr_no {l:List Ax} (h:¬ qk_ (bM_ l)):RlR l 0:=.inl ⟨rfl,h⟩
theorem mX_ {G:Prop} (h:G:=by
 exact w_ ⟨(k+1,(Pth.rl C),(Pth.ad C),(Pth.cap C)),M,(F.imp λq=>absurd q a3),(λq=>absurd q a3),(λ_=>⟨zD_ F U H E P a6,hpn⟩)⟩ zae_ zl ah_ (λv _ h=>by exact⟨h.1,((h.1 o u).2 C G),h.2.2.1,h.2.2.2.1,trivial⟩)):G:=h
theorem xQ_ (l:List Ax) (ad:Ao) (cap:Nat) (hok:∀ x∈l,x.ok) (hC:∀ x∈l,x.check=0) (hz:∀ x∈l,x.left.sz<=1000/\x.right.sz<=1000) (hll:l.length<=1000):Tri prog 170 #[.slice ad l.length cap] [] [bA_ ad l] (λy:{y:Value×Int // RlR l y.2}=>.tuple #[y.1.1,i4_ y.1.2]) (λ_=>[]) (λ_=>[]):=by
 refine l_ func170 rfl rfl ntmps170 rfl λv_1=>?_;refine Zz 9 ?_;refine d_ (BN_ l ad cap hok hz zaa_) rfl e_ zf rfl λ_=>Zi 7 (λa2=>?_) λa2=>?_
 .refine Zz 8 ?_
  refine d_ (xL_ l ad cap hok hC zaa_) rfl e_ zf rfl λ⟨⟨sad,T⟩,hsc_1,hsc_2⟩=>?_;dsimp only;have hSl:=fg_ l hC;refine Zz 6 ?_;refine d_ (all6_c l ad cap hok hC zaa_) rfl e_ zf rfl λ⟨⟨R,rad,rcap⟩,hR,hRk⟩=>?_;dsimp only;dsimp only at hR hRk;have hRl:=hR.len;have hRl_1:=kW_ l hC;rw[yaw_]at hRl;refine Zz 7 ?_;refine jE_ (n:=R.length) (by':=24) underlying288 (z:=.slice none 0 0) zk rfl zaj_ rfl rfl zaa_ zay_ rfl λsvB HrB hrB=>?_;have hqB:av_ 291 1 svB (List.replicate R.length (Prw.mk [] none 0)).length (List.flatMap Prw.cells (List.replicate R.length (Prw.mk [] none 0))) HrB:=by rw[ybJ_,<-lK_ Prw.cells];exact hrB
  refine Zz 10 ?_;refine s_ (H':=HrB) (by simp only[yas_,ycQ_];exact .refl _) ?_;refine Y_ (ι:={y:Nat×List Prw×Value×Hp // y.1<=List.length R/\PX True (bM_ l) R y.2.1 0 y.1/\zR 291 1 Prw.cells y.2.2.1 y.2.1 y.2.2.2}) (λy=>[(2,.slice none 0 0),(3,i4_ 0),(5,.slice sad (bM_ l).length T),(6,.slice rad R.length rcap),(7,y.1.2.2.1),(8,i4_ y.1.1)]) (λy=>(y.1.2.2.2)) (λy=>[pn_ y.1.2.1,O_ rad (R.flatMap V_),O_ sad (List.flatMap hf_ (bM_ l))]) (λy=>R.length - y.1.1) ⟨((0:Nat),(List.replicate R.length (Prw.mk [] none 0)),svB,HrB),zak_,PX.init,hqB⟩ zl an_ (λv _ h=>by exact⟨xV_,h.1,h.2.1,trivial⟩) ?_;rintro ⟨⟨i,X,A,V⟩,b2,hI,d⟩;dsimp only at b2 hI d ⊢;have hXl:=hI.len;refine Zi 6 (λb3=>?_) λb3=>?_
  .refine Zz 12 ?_
   refine Y_ (ι:={y:Nat×List Prw×Value×Hp // 0<y.1/\y.1<=R.length+1/\PX True (bM_ l) R y.2.1 y.1 0/\zR 291 1 Prw.cells y.2.2.1 y.2.1 y.2.2.2}) (λy=>[(2,.slice none 0 0),(3,i4_ 0),(5,.slice sad (bM_ l).length T),(6,.slice rad R.length rcap),(7,y.1.2.2.1),(9,i4_ y.1.1)]) (λy=>(y.1.2.2.2)) (λy=>[pn_ y.1.2.1,O_ rad (R.flatMap V_),O_ sad (List.flatMap hf_ (bM_ l))]) (λy=>R.length+1 - y.1.1) ⟨((1:Nat),X,A,V),zak_,zaa_,(hI.next zaa_),d⟩ zl an_ zh ?_;rintro ⟨⟨n,X,A,V⟩,U,hn_2,a7,d⟩;dsimp only at U hn_2 a7 d ⊢;refine Zi 6 (λa9=>?_) λa9=>?_
   .refine Zz 12 ?_
    exact gN_ results170 ⟨(_,0),rlr_no (PX.fine (by have q:=a7;rw[show n=R.length+1 by omega]at q;exact q) (zi_ hR))⟩ rfl rfl rfl e_ zt
   refine Zz 19 ?_;refine Y_ (ι:={y:Nat×List Prw×List Str×Ao×Nat×Value×Hp // y.1<=List.length R/\PX (y.2.2.2.1=none) (bM_ l) R y.2.1 n y.1/\(y.2.2.2.1≠none->qk_ (bM_ l)/\y.2.2.1.length=n)/\zR 291 1 Prw.cells y.2.2.2.2.2.1 y.2.1 y.2.2.2.2.2.2}) (λy=>[(2,.slice none 0 0),(3,i4_ 0),(5,.slice sad (bM_ l).length T),(6,.slice rad R.length rcap),(7,y.1.2.2.2.2.2.1),(9,i4_ n),(10,.slice y.1.2.2.2.1 y.1.2.2.1.length y.1.2.2.2.2.1),(11,i4_ y.1.1)]) (λy=>(y.1.2.2.2.2.2.2)) (λy=>[pn_ y.1.2.1,O_ y.1.2.2.2.1 (y.1.2.2.1.flatMap V_),O_ rad (R.flatMap V_),O_ sad (List.flatMap hf_ (bM_ l))]) (λy=>R.length - y.1.1) ⟨((0:Nat),X,([]:List Str),none,0,A,V),zak_,(a7.imp λ_=>trivial),(λq=>absurd rfl q),d⟩ zl an_ (λv _ h=>by exact⟨h.1,(.inl rfl),h.2.1,h.2.2.1,trivial⟩) ?_;rintro ⟨⟨i,X,B,bad,bcap,A,V⟩,b2,hX,hB,d⟩;dsimp only at b2 hX hB d ⊢;have hXl:=hX.len;refine Zi 6 (λhr_4=>?_) λhr_4=>?_
   .refine Zz 8 ?_
    refine A_ (qs_ (ad:=bad) jq_ rfl rfl) rfl λL H=>Zz 2 ?_
    cases L
    .refine Zz 9 ?_
     exact w_ ⟨(n+1,X,A,V),zaa_,zaa_,((hX.imp λ_=>zce_).next zaa_),d⟩ zae_ zl an_ zf
    refine Zz 9 ?_;exact gN_ results170 ⟨(_,60),BI_ (hB zce_).1⟩ rfl rfl rfl e_ zt
   have J:i<R.length:=by omega
   obtain⟨L,H⟩:∃ W,R[i]? = some W:=⟨_,yaa_ J⟩;have a1:i<X.length:=by omega
   obtain⟨o,E⟩:∃ W,X[i]? = some W:=⟨_,yaa_ a1⟩;have u:o∈X:=yad_ E;obtain⟨hps_1,a8⟩:=hX.size U H E;refine Zz 14 ?_;refine Y_ (ι:={y:Nat×List Str×Ao×Nat // y.1<=List.length (Prw.ps o)/\PX (y.2.2.1=none) (bM_ l) R X n i/\(y.2.2.1=none->∀ z∈List.take y.1 (Prw.bs o),iH_ z (bM_ l)=false)/\(y.2.2.1≠none->qk_ (bM_ l)/\y.2.1.length=n)}) (λy=>[(2,.slice none 0 0),(3,i4_ 0),(5,.slice sad (bM_ l).length T),(6,.slice rad R.length rcap),(7,A),(9,i4_ n),(10,.slice y.1.2.2.1 y.1.2.1.length y.1.2.2.2),(11,i4_ i),(12,i4_ y.1.1)]) (λy=>(V)) (λy=>[pn_ X,O_ y.1.2.2.1 (y.1.2.1.flatMap V_),O_ rad (R.flatMap V_),O_ sad (List.flatMap hf_ (bM_ l))]) (λy=>List.length (Prw.ps o) - y.1.1) ⟨((0:Nat),B,bad,bcap),zak_,hX,(λ_ z hz=>by simp at hz),hB⟩ zl an_ zh ?_;rintro ⟨⟨k,B_1,K,I⟩,hi_k,F,hK,Y⟩;dsimp only at hi_k F hK Y ⊢;refine Zz 6 ?_;refine c_ (bJ_ d kw_ ju_ rfl rfl zaa_ zaa_) rfl (c_ (cH_ d an_ isAgg291 rfl (t_ Prw.cells_len E 0 _ rfl)) rfl (Zi 1 (λhr_6=>?_) λhr_6=>?_))
   .refine Zz 10 ?_
    refine c_ (bJ_ d kw_ ju_ rfl rfl zaa_ zaa_) rfl (c_ (cH_ d an_ isAgg291 rfl (t_ Prw.cells_len E 0 _ rfl)) rfl (Zz 1 ?_));refine d_ (yj_ (Prw.ps o) (Prw.ad o) (Prw.cap o) (bM_ l) sad T n U zaa_ a8 (λz hz=>F.ok o u z hz) zaa_ zaa_) rfl e_ (λv _ h=>by exact⟨(h.1 o u).1,(h.1 o u).2,h.2.2.2.1,trivial⟩) rfl λ⟨⟨O,a5,S⟩,hCI,hOok,hOk⟩=>?_;dsimp only;dsimp only at hCI hOok hOk;refine c_ (bJ_ d kw_ ju_ rfl rfl zaa_ zaa_) rfl (eu_ (k:=(i:Int).toNat*1+0) d an_ ju_ rfl rfl zaa_ rfl rfl λa0 a2=>?_);have b0:=(gZ_ Prw.cells 1 Prw.cells_len X i 0 o (Prw.mk O a5 S) (.slice a5 O.length S) E zaj_ rfl).trans (yag_ _ (rfl));have b1:av_ 291 1 A (List.set X i (Prw.mk O a5 S)).length (List.flatMap Prw.cells (List.set X i (Prw.mk O a5 S))) a0:=by rw[<-b0,show List.length (List.set X i (Prw.mk O a5 S))=X.length from (yaZ_ ..)];exact a2
    refine s_ fB_ (Zz 8 ?_);exact w_ ⟨(i+1,(List.set X i (Prw.mk O a5 S)),B_1,K,I,A,a0),J,(F.set H (PI.more (F.at U H E) (CI_ hK zaa_) hCI) hOok),Y,b1⟩ zae_ zl an_ (λv _ h=>by exact⟨qN_ h.2.2.1 h.1 h.2.1,h.2.2.2.1,h.2.2.2.2.1,h.2.2.2.2.2.1,trivial⟩)
   have M:k<List.length (Prw.ps o):=by omega
   obtain⟨C,P⟩:∃ W,(Prw.ps o)[k]? = some W:=⟨_,yaa_ M⟩;have G:C∈(Prw.ps o):=yad_ P;have hpn:=a8 C G;have hpk:=F.ok o u C G;have a3:Pth.ad C≠none:=λe=>by have q_1:=hpk.2.2 e;have q_2:=hpk.1;omega
   refine Zz 11 ?_;refine c_ (bJ_ d kw_ ju_ rfl rfl zaa_ zaa_) rfl (c_ (cH_ d an_ isAgg291 rfl (t_ Prw.cells_len E 0 _ rfl)) rfl (Zz 1 ?_));refine c_ (J_ cI_ cj_ rfl rfl (λv _ h=>az_ (n:=2) Pth.cells_len zaj_ (by exact (h.1 o u).1) P) zaa_ zah_) rfl ?_;refine c_ (ax_ (ad:=(Prw.ad o)) (us:=Pth.cells C) isAgg290 cj_ rfl (λv _ h=>by exact (h.1 o u).1) (Pth.cells_len _) (t_ Pth.cells_len P)) rfl (K_ ce_ rfl λZ=>o_ 0 cj_ rfl rfl rfl rfl rfl rfl (Zz 6 ?_));refine U_ (yE_ C (bM_ l) sad T zaa_ zaa_ zaa_) rfl e_ (λv _ h=>by exact⟨h.2.2.2.1,((h.1 o u).2 C G),trivial⟩) rfl λr_2 a6=>Zz 1 ?_
   cases r_2
   .refine Zz 20 ?_
    exact w_ ⟨(k+1,B_1,K,I),M,F,(AQ_ hK P a6),Y⟩ zae_ zl ah_ zh
   refine Zz 3 ?_;refine A_ (sU_ (ad:=K) jq_ rfl rfl) rfl λr_3 Q=>Zz 2 ?_
   cases r_3
   .replace Q:=zdf Q
    refine Zz 7 ?_;refine d_ (tv_ (Pth.rl C) (Pth.ad C) (Pth.cap C) B_1 K I (by have:=(Y Q).2;omega) zaa_) rfl e_ (λv _ h=>by exact⟨((h.1 o u).2 C G),h.2.1,trivial⟩) rfl λbl=>?_;refine Zz 5 ?_;cases bl
    .refine Zz 9 ?_
     exact w_ ⟨(k+1,B_1,K,I),M,F,(λq=>absurd q Q),Y⟩ zae_ zl ah_ zh
    refine Zz 13 ?_;exact mX_
   replace Q:=zdt Q;refine Zz 22 ?_;exact mX_
  have J:i<R.length:=by omega
  obtain⟨L,a9⟩:∃ W,R[i]? = some W:=⟨_,yaa_ J⟩;have a1:i<X.length:=by omega
  obtain⟨o,E⟩:∃ W,X[i]? = some W:=⟨_,yaa_ a1⟩;have u:o∈X:=yad_ E;refine Zz 14 ?_;refine p_ m_ B_ ak_ rfl rfl rfl rfl rfl rfl λZ=>?_;refine R_ (List.flatMap V_ [L]) f_ rfl ?_;refine c_ (x_ ij_ rfl rfl) rfl (p_ cI_ cj_ ce_ rfl rfl rfl rfl rfl rfl λa4=>?_);refine R_ (List.flatMap Pth.cells [(Pth.mk [L] (some ⟨Z,0,none⟩) 1 false)]) f_ rfl ?_;refine c_ (bJ_ d kw_ ju_ rfl rfl zaa_ zaa_) rfl (eu_ (k:=(i:Int).toNat*1+0) d an_ ju_ rfl rfl zaa_ rfl rfl λa0 b3=>?_);have b0:=(gZ_ Prw.cells 1 Prw.cells_len X i 0 o (Prw.mk [(Pth.mk [L] (some ⟨Z,0,none⟩) 1 false)] (some ⟨a4,0,none⟩) 1) (.slice (some ⟨a4,0,none⟩) (List.length [(Pth.mk [L] (some ⟨Z,0,none⟩) 1 false)]) 1) E zaj_ rfl).trans (yag_ _ (rfl));have b1:av_ 291 1 A (List.set X i (Prw.mk [(Pth.mk [L] (some ⟨Z,0,none⟩) 1 false)] (some ⟨a4,0,none⟩) 1)).length (List.flatMap Prw.cells (List.set X i (Prw.mk [(Pth.mk [L] (some ⟨Z,0,none⟩) 1 false)] (some ⟨a4,0,none⟩) 1))) a0:=by rw[<-b0,show List.length (List.set X i (Prw.mk [(Pth.mk [L] (some ⟨Z,0,none⟩) 1 false)] (some ⟨a4,0,none⟩) 1))=X.length from (yaZ_ ..)];exact b3
  refine s_ fB_ (Zz 8 ?_);exact w_ ⟨(i+1,(List.set X i (Prw.mk [(Pth.mk [L] (some ⟨Z,0,none⟩) 1 false)] (some ⟨a4,0,none⟩) 1)),A,a0),J,(hI.set a9 PI.one (λz hz=>by rw[yal_]at hz;subst hz;exact⟨yab_ _,by simp[maxLen],λq=>by cases q⟩)),b1⟩ zae_ zl an_ (λv _ h=>by exact⟨qN_ h.2.2.1 h.1 (pm_ (X:=[]) (show (gh_ ([]:List Pth)).p v from λz hz=>by simp at hz) h.2.1),h.2.2.2.1,h.2.2.2.2.1,trivial⟩)
 exact absurd (ev_ hC) a2
theorem we_ {x y:Ax} {b:Bool} (h:((y.opn==x.opn)&&(Ax.cmp y x==0))=b):((x.opn==y.opn)&&(Ax.cmp x y==0))=b:=by
 rw[<-h,Ax.cmp_anti x y]
 congr 1
 .cases x.opn<;>cases y.opn<;>rfl
 rw[ybu_,ybZ_,ybZ_];omega
theorem ns_ {G:Prop} (h:G:=by
 exact w_ ⟨j+1,K,(js_ hN I (by unfold ms_;intro q;simp_all))⟩ zae_ zl f_ zh):G:=h
set_option maxHeartbeats 1000000 in
theorem pl_ (l:List Ax) (ad:Ao) (cap:Nat) (Q:∀ x∈l,x.ok) (U:∀ x∈l,x.left.sz<=1000/\x.right.sz<=1000) (hll:l.length<=1000):Tri prog 79 #[.agg #[.slice ad l.length cap]] [] [bA_ ad l] (λy:{e:Int // BCk l e}=>i4_ y.1) (λ_=>[]) (λ_=>[]):=by
 refine l_ func79 rfl rfl ntmps79 rfl λv_1=>?_;refine Zz 2 ?_;refine Q_ rfl rfl λJ=>Zz 10 ?_
 let Pu:Hp:=((J,.cells #[.slice ad l.length cap] 24 (0,0))::[]);refine Y_ (ι:={y:Nat // y<=List.length l/\(∀ z∈List.take y l,hD_ z=0)}) (λy=>[(1,zp_ J 0),(2,i4_ 0),(3,i4_ y.1)]) (λy=>Pu) (λy=>[bA_ ad l]) (λy=>l.length - y.1) ⟨(0:Nat),by simp,zak_⟩ zl f_ zh ?_;rintro ⟨i,a2,hE⟩;dsimp only at a2 hE ⊢;refine Zi 7 (λhr_1=>?_) λhr_1=>?_
 .refine Zz 12 ?_
  have C:axE l=0:=jU_.2 (jW_ hE zaa_);have hC:=kp_ C;refine Y_ (ι:={y:Nat // 1<=y/\(∀ (n:Nat) (p q:Ax),n+1<y->l[n]? = some p->l[n+1]? = some q->Ax.cmp p q=-1)}) (λy=>[(1,zp_ J 0),(2,i4_ 0),(6,i4_ y.1)]) (λy=>Pu) (λy=>[bA_ ad l]) (λy=>l.length - y.1) ⟨(1:Nat),zak_,(λi x y h=>by omega)⟩ zl f_ zh ?_;rintro ⟨W,a0,hS⟩;dsimp only at a0 hS ⊢;refine Zi 7 (λF=>?_) λF=>?_
  .refine Zi 11 (λu=>?_) λu=>?_
   .refine Zz 12 ?_
    have P:hW_ l:=hW_.all hS zaa_;refine Y_ (ι:={y:Nat // y<=List.length l/\(∀ z∈List.take y l,¬ ms_ z)}) (λy=>[(1,zp_ J 0),(2,i4_ 0),(6,i4_ W),(7,i4_ y.1)]) (λy=>Pu) (λy=>[bA_ ad l]) (λy=>l.length - y.1) ⟨(0:Nat),by simp,zak_⟩ zl f_ zh ?_;rintro ⟨j,hi_j,hN⟩;dsimp only at hi_j hN ⊢;refine Zi 7 (λZ=>?_) λZ=>?_
    .refine Zz 9 ?_
     refine d_ (xQ_ l ad cap Q hC U zaa_) rfl e_ zf rfl λ⟨⟨rv,re⟩,Y⟩=>?_;dsimp only;try dsimp only at Y
     refine Zi 11 (λL=>?_) λL=>?_
     .refine Zz 11 ?_
      exact W_ jz_ ⟨0,.inr (.inr (.inr (.inr ⟨C,P,by omega,jW_ hN zaa_,(show re=0 by simpa using L)▸Y⟩)))⟩ rfl e_ zt
     refine Zz 9 ?_;exact W_ jz_ ⟨60,.inr (.inr (.inr (.inr ⟨C,P,by omega,jW_ hN zaa_,by rcases Y with q|q;exact absurd q.1 (by simpa using L);rw[<-q.1];exact .inr q⟩)))⟩ rfl e_ zt
    have K:j<l.length:=by omega
    obtain⟨S,I⟩:∃ M,l[j]? = some M:=⟨_,yaa_ K⟩;have V:S∈l:=yad_ I;refine Zz 14 ?_;refine U_ (BH_ S) rfl e_ zt rfl λT L=>Zz 1 ?_
    cases T
    .refine Zz 19 ?_
     exact ns_
    refine Zz 11 ?_;refine A_ (aS_ (ad:=ad) cG_ rfl (λv _ h=>by exact h.1.1) (t_ Ax.cells_len I 1 _ rfl)) rfl λr_2 hr_6=>as_ rfl rfl (c_ (aI_ rfl) rfl (Zz 3 ?_))
    cases r_2
    .refine Zz 7 ?_
     exact W_ jz_ ⟨71,.inr (.inr (.inr (.inl ⟨C,P,by omega,⟨S,V,by unfold ms_;simp_all⟩,rfl⟩)))⟩ rfl e_ zt
    refine Zz 9 ?_;exact ns_
   refine Zz 9 ?_;have P:hW_ l:=hW_.all hS zaa_;exact W_ jz_ ⟨2,.inr (.inr (.inl ⟨C,P,by omega,rfl⟩))⟩ rfl e_ zt
  obtain⟨H,rfl⟩:∃ H,W=H+1:=⟨W - 1,by omega⟩;obtain⟨O,o,E,d⟩:=zge (show H<l.length by omega);have X:(H+1:Nat)<l.length:=by omega
  obtain⟨A,k⟩:∃ M,l[(H+1:Nat)]? = some M:=⟨_,yaa_ X⟩;have G:A∈l:=yad_ k;refine Zz 8 ?_;refine aW_ Pu zk ?_;refine C_ 2 [0,1,2,3,4,5,6,7,8,9,10] zk zs (Zz 3 ?_);refine G_ rfl (aD_ (aT_ rfl rfl rfl (bB_ zaa_ zaa_)) (show _=i4_ H from yag_ _ zaa_)) rfl (Zz 8 ?_);refine j_ 11 rfl zk (d_ (ty_ o A (Q o d) (Q A G) (U o d).1 (U o d).2 (U A G).1 (U A G).2) rfl e_ (λv _ h=>by exact⟨(h.1.2 o d),(h.1.2 A G),trivial⟩) rfl λ_=>Zz 3 ?_);refine C_ 0 [12] zk zs ?_;refine Zi 0 (λu=>?_) λu=>?_
  .refine Zz 8 ?_
   refine c_ (aD_ (aT_ rfl rfl rfl (bB_ zaa_ zaa_)) (show _=i4_ ((H+1+1:Nat):Int) from yag_ _ zaa_)) rfl (Zz 3 ?_);exact w_ ⟨H+1+1,zaa_,(hW_.step hS E k (Ax.cmp_m1.2 (by have q:=u;omega)))⟩ zae_ zl f_ zh
  refine Zz 10 ?_;exact W_ jz_ ⟨70,.inr (.inl ⟨C,λq=>by have q_1:=q H o A E k;have q_2:=u;omega,rfl⟩)⟩ rfl e_ zt
 obtain⟨O,o,E,d⟩:=zge (show i<l.length by omega);refine Zz 14 ?_;refine d_ (xK_ o (Q o d) (U o d).1 (U o d).2) rfl e_ (λv _ h=>by exact⟨(h.1.2 o d),trivial⟩) rfl λ⟨⟨A,M⟩,k⟩=>?_;dsimp only;try dsimp only at k
 refine Zz 3 ?_;refine K_ aQ_ rfl λb_2=>o_ 0 D_ rfl rfl rfl rfl rfl rfl (Zi 7 (λF=>?_) λF=>?_)
 .have B:M=0:=by simpa using F
  have R:Ax.check o=0:=kU_ (by have q:=k.1;dsimp only at q;rw[<-q,B]);have I:=jR_ R;have a1:=te_ (k.2 B).1 R;dsimp only at a1;refine Zz 6 ?_;refine aW_ ((b_2,.cells (Ax.cells A).toArray 30 (0,0))::Pu) zk ?_;refine C_ 2 [0,1,2,3,4,5] zk zs (Zz 7 ?_);refine j_ 6 rfl zk (U_ (qI_ A o (k.2 B).2 (Q o d) zaa_ zaa_ zaa_ zaa_) rfl e_ (λv _ h=>by exact⟨h.1,(h.2.1.2 o d),trivial⟩) rfl λT u=>Zz 3 ?_);refine C_ 0 [7] zk zs (G_ rfl (aI_ rfl) rfl (Zz 3 ?_));cases T
  .refine Zz 7 ?_
   exact W_ jz_ ⟨22,BCk.er hE E (yZ_ k B (Dj_ (we_ u) k B)) zaj_⟩ rfl e_ zt
  refine Zz 9 ?_;exact w_ ⟨i+1,O,(js_ hE E (yY_ k B ((Ax.cmp_zero _ _).1 (Dk_ (we_ u)).2)))⟩ zae_ zl (g_ f_) (λ_ _ h=>h.2)
 refine Zz 10 ?_;exact W_ jz_ ⟨M,BCk.er hE E (za_ k (by simpa using F)) (by simpa using F)⟩ rfl e_ zt
theorem nM_ {G:Prop} (h:G:=by
 refine Zz 2 ?_;refine y_ (λ_ a b=>⟨Vw.sat.sub (a.perm (E_ (g_ (g_ f_)) (g_ (g_ f_)))),b⟩) (C_ 1 [12] zk (λ_ a b=>⟨Vw.sat.sub (a.perm (E_ (g_ (g_ f_)) (g_ (g_ f_)))),b⟩) (Zz 2 ?_));refine j_ 13 rfl zk (dy_ 1 e lo_ rfl rfl rfl rfl (Zz 2 ?_));refine y_ (λ_ a b=>⟨Vw.sat.sub (a.perm (E_ (g_ (g_ f_)) (g_ (g_ f_)))),b⟩) (Zz 8 ?_);exact w_ ⟨(j+1,A,G),h,(by rw[vj_ o M];exact e)⟩ zae_ zl (E_ (g_ f_) (E_ (g_ f_) (E_ (g_ f_) ah_))) zh):G:=h
theorem si_ (l:List Ax) (ad:Ao) (cap:Nat) (a0:∀ x∈l,x.ok) (hz:∀ x∈l,x.left.sz<=1000/\x.right.sz<=1000) (hll:l.length<=1000) (hB:BCk l 0) (W:List Int) (C:Ao) (E:Nat) (hU:∀ x∈W,0<=x/\x<(l.length:Int)) (hP:W.Pairwise (·<·)) (hWl:W.length<=1000000):Tri prog 42 #[.agg #[.slice ad l.length cap],.slice C W.length E] [] [bA_ ad l,O_ C (W.flatMap cS_)] (λy:{y:Value×Hp // av_ 30 16 y.1 (dB_ l W).length ((dB_ l W).flatMap Ax.cells) y.2}=>.tuple #[.agg #[y.1.1],i4_ 0]) (λy=>y.1.2) (λ_=>[]):=by
 refine l_ func42 rfl rfl ntmps42 rfl λv_1=>?_;refine Zz 2 ?_;refine Q_ rfl rfl λK=>K_ cE_ rfl λI=>Zz 6 ?_
 refine d_ (pl_ l ad cap a0 hz zaa_) rfl e_ zf rfl λ⟨H,L⟩=>?_;dsimp only;try dsimp only at L
 refine Zi 7 (λk=>?_) λk=>?_
 .refine Zz 12 ?_
  refine d_ (BS_ W C E l.length hU hP zaa_) rfl e_ zf rfl λ_=>c_ (aI_ rfl) rfl (Zz 7 ?_)
  refine c_ (x_ fv_ rfl rfl) rfl (K_ cE_ rfl λQ=>o_ 0 ap_ rfl rfl rfl rfl rfl rfl (Zz 9 ?_));refine s_ (H':=((Q,.cells #[.slice none 0 0] 24 (0,0))::((I,.cells #[.slice none 0 0] 24 (0,0))::((K,.cells #[.slice ad l.length cap] 24 (0,0))::([]:Hp))))) (List.Perm.cons _ (List.Perm.cons _ (ycN_ (yas_ _).symm))) ?_;refine Y_ (ι:={y:Nat×Value×Hp // y.1<=List.length W/\zR 30 16 Ax.cells y.2.1 (dB_ l (W.take y.1)) y.2.2}) (λy=>[(1,.slice C W.length E),(2,zp_ K 0),(4,zp_ I 0),(5,i4_ 0),(7,zp_ Q 0),(8,i4_ y.1.1)]) (λy=>((Q,.cells #[y.1.2.1] 24 (0,0))::((I,.cells #[.slice none 0 0] 24 (0,0))::((K,.cells #[.slice ad l.length cap] 24 (0,0))::y.1.2.2)))) (λy=>[bA_ ad l,O_ C (W.flatMap cS_)]) (λy=>W.length - y.1.1) ⟨((0:Nat),(.slice none 0 0),([]:Hp)),zak_,(av_.nil _ _)⟩ zl zp zh ?_;rintro ⟨⟨j,F,S⟩,T,d⟩;dsimp only at T d ⊢;have U:=zJ_ (l:=l) (w:=List.take j W);rw[yat_]at U;refine Zi 6 (λB=>?_) λB=>?_
  .refine Zz 8 ?_
   refine o_ 1 ap_ rfl rfl rfl rfl rfl (by have q:=(en_ d).2;simp only[Value.cells,ycj_,ycH_,q,ych_]) ?_;refine Zz 4 ?_;exact cs_ ⟨(F,S),by rw[yac_ (show W.length<=j by omega)]at d;exact d⟩ (λaa v Z X=>br_ (us:=[F]) 1 results42 ca_ ap_ rfl rfl rfl rfl aa v Z X) (g_ (g_ ah_)) zt
  have h:j<W.length:=by omega
  obtain⟨J,o⟩:∃ H,W[j]? = some H:=⟨_,yaa_ h⟩;have P:J∈W:=yad_ o;have hub:=hU J P;have O:(Int.toNat J)<l.length:=by omega
  obtain⟨R,M⟩:∃ H,l[(Int.toNat J)]? = some H:=⟨_,yaa_ O⟩;refine Zz 7 ?_;refine aW_ ((I,.cells #[.slice none 0 0] 24 (0,0))::((K,.cells #[.slice ad l.length cap] 24 (0,0))::[])) zk ?_;refine C_ 5 [0,2,3,4,5,6,7,8,9] zk zs (Zz 10 ?_);refine bx_ 1 10 rfl rfl zk ?_ ?_
  .refine Zz 3 ?_
   refine y_ zs (j_ 10 rfl zk (p_ aw_ D_ aQ_ rfl rfl rfl rfl rfl rfl λV=>Zz 2 ?_));refine y_ zs (j_ 11 rfl zk (am_ (news:=List.flatMap Ax.cells [R]) vF_ d rfl rfl zp rfl (aO_ 0 rfl) (λu Y=>aF_ Ax.cells_one Y) zab_ zac_ rfl λA G k=>?_));refine s_ yah_ ?_;have e:=zsa k;exact nM_
  refine p_ aw_ D_ aQ_ rfl rfl rfl rfl rfl rfl λV=>Zz 2 ?_
  refine y_ zs (j_ 1 rfl zk (Zz 3 ?_));refine y_ zs (j_ 11 rfl zk (am_ (news:=List.flatMap Ax.cells [R]) vF_ d rfl rfl zp rfl (aO_ 0 rfl) (λu Y=>aF_ Ax.cells_one Y) zab_ zac_ rfl λA G B=>?_));refine s_ yah_ ?_;have e:=zsa B;exact nM_
 exact absurd (L.uniq hB) k
theorem lc_ (l:List Ax) (ad:Ao) (cap:Nat) (F:l.length<=cap/\cap<=2199023255488) (E:∀ x∈l,x.ok) (C:l.length<=12) (G:∀ x∈l,Ax.Few x) (K:∀ x∈l,x.left.sz<=1000/\x.right.sz<=1000):Tri prog 40 #[.agg #[.slice ad l.length cap]] [] [bA_ ad l] (λy:{y:Ao×Nat×List Pc×Int // MpR l y.2.2.1 y.2.2.2/\y.2.2.1.length<=16384/\y.2.2.1.length<=y.2.1/\y.2.1<=maxLen/\(y.1=none->y.2.1=0)}=>.tuple #[.slice y.1.1 y.1.2.2.1.length y.1.2.1,i4_ y.1.2.2.2]) (λ_=>[]) (λy=>[O_ y.1.1 (y.1.2.2.1.flatMap Pc.cells)]):=by
 refine l_ func40 rfl rfl ntmps40 rfl λI=>?_;obtain⟨⟨p,er⟩,o⟩:∃ q,aX_ l=q:=⟨_,rfl⟩;refine Zz 2 ?_;refine Q_ rfl rfl λJ=>Zz 7 ?_
 refine d_ (pl_ l ad cap E K zaa_) rfl e_ zf rfl λ⟨u,d⟩=>?_;dsimp only;try dsimp only at d
 refine Zi 7 (λk=>?_) λk=>?_
 .refine Zz 9 ?_
  refine d_ (xM_ l ad cap F E C G o) rfl e_ zf rfl λ⟨⟨H,B⟩,A,e⟩=>?_;dsimp only;refine Zz 7 ?_;exact gN_ results40 ⟨(H,B,p,er),⟨u,d,.inr ⟨by simpa using k,by rw[o],by rw[o]⟩⟩,jD_ C o,A,e.1,e.2⟩ rfl rfl rfl e_ zf
 refine Zz 11 ?_;exact gN_ results40 ⟨(none,0,[],u),⟨u,d,.inl ⟨by simpa using k,rfl,rfl⟩⟩,by simp,by simp,by simp[maxLen],λ_=>rfl⟩ rfl rfl rfl e_ (λv _ h=>by exact⟨.inl rfl,trivial⟩)
theorem MpR.N {l:List Ax} {p:List Pc} (e:l.length<=12) (d:∀ x∈l,x.ok) (h:(aX_ l).2=0) (k:p=(aX_ l).1):∀ x∈p,PcN x:=by
  rw[k];exact (ya_ e d (Prod.ext rfl h)).1
theorem uk_ (l:List Ax) (ad:Ao) (cap:Nat) (I:l.length<=cap/\cap<=2199023255488) (E:∀ x∈l,x.ok) (G:l.length<=12) (U:∀ x∈l,Ax.Few x) (hz:∀ x∈l,x.left.sz<=1000/\x.right.sz<=1000) (S:List Str) (sad:Ao) (k:Nat) (hS:S.length<=100000000) (P:∀ s∈S,s.length<=100000):Tri prog 11 #[.agg #[.slice ad l.length cap],.slice sad S.length k] [] [bA_ ad l,O_ sad (S.flatMap V_)] (λy:{y:Value×Hp×List Ax×Int // av_ 30 16 y.1 y.2.2.1.length (y.2.2.1.flatMap Ax.cells) y.2.1/\ExR l S y.2.2.1 y.2.2.2}=>.tuple #[.agg #[y.1.1],i4_ y.1.2.2.2]) (λy=>y.1.2.1) (λ_=>[]):=by
 refine l_ func11 rfl rfl ntmps11 rfl λv_1=>?_;refine Zz 2 ?_;refine Q_ rfl rfl λa0=>K_ cE_ rfl λb_2=>Zz 6 ?_
 refine d_ (lc_ l ad cap I E G U hz) rfl e_ zf rfl λ⟨⟨X,K,p,O⟩,o,V,C,B⟩=>?_;dsimp only;try dsimp only at o V C B
 refine Zi 11 (λd=>?_) λd=>?_
 .obtain⟨J,F,Q⟩:=o.ok zbe_
  have Y:=MpR.N G E F Q;refine Zz 9 ?_;refine U_ (uV_ S sad k hS P) rfl e_ zf rfl λT u=>c_ (aI_ rfl) rfl (Zz 2 ?_)
  cases T
  .refine Zz 3 ?_
   refine c_ (x_ fv_ rfl rfl) rfl (o_ 0 ap_ rfl rfl rfl rfl rfl rfl (Zz 4 ?_));exact cs_ ⟨(.slice none 0 0,[],[],1),av_.nil _ _,ExR.arg o zbe_ zbQ_⟩ (λL v h e=>br_ (us:=[.slice none 0 0]) 0 results11 ca_ ap_ rfl rfl rfl rfl L v h e) e_ zt
  have W:=xl_ zbQ_;refine Zz 4 ?_;refine aW_ ((a0,.cells #[.slice ad l.length cap] 24 (0,0))::[]) zk ?_;refine C_ 6 [0,1,2,3,4] zk zs (Zz 6 ?_);refine j_ 5 rfl zk (d_ (pA_ l ad cap zaa_ p X K S sad k Y W zaa_ hS) rfl e_ zf rfl λ⟨⟨Z,M⟩,hwc⟩=>?_);dsimp only;refine Zz 2 ?_;refine y_ zs (j_ 6 rfl zk (d_ (si_ l ad cap E hz zaa_ J (dE_ l p S l.length) Z M (λx hx=>(pB_.1 hx).1) (sf_ _) (by have:=gV_ (l:=l) (p:=p) (S:=S) l.length;omega)) rfl e_ zf rfl λ⟨⟨H,R⟩,A⟩=>?_));dsimp only;dsimp only at A ⊢;refine Zz 2 ?_;refine y_ zs (C_ 2 [7,8] zk zs (Zz 3 ?_));refine j_ 9 rfl zk (s_ (aL_ (ae_ f_) (cg_ bS_)) (o_ 0 ap_ rfl rfl rfl rfl rfl zbB_ ?_));refine Zz 2 ?_;refine y_ (λ_ a b=>⟨Vw.sat.sub (a.perm (g_ f_)),b.2⟩) (C_ 0 [10] zk (λ_ a b=>⟨Vw.sat.sub (a.perm (g_ f_)),b.2⟩) (Zz 5 ?_));exact cs_ ⟨(H,R,(dB_ l (dE_ l p S l.length)),0),A,ExR.ok o zbe_ zbQ_⟩ (λL v h e=>br_ (us:=[H]) 0 results11 ca_ ap_ rfl rfl rfl rfl L v h e) (g_ ah_) zt
 refine Zz 5 ?_;refine c_ (x_ fv_ rfl rfl) rfl (Zz 1 ?_);refine o_ 0 ap_ rfl rfl rfl rfl rfl rfl (Zz 4 ?_);exact cs_ ⟨(.slice none 0 0,[],[],O),av_.nil _ _,ExR.er o zbe_⟩ (λL v h e=>br_ (us:=[.slice none 0 0]) 0 results11 ca_ ap_ rfl rfl rfl rfl L v h e) e_ zt
end Go.Proofs.YtbffkokbdeppaaaGreatDoor
