/-
  Lemmas for the law ModuleExtracts (no condition).
-/
import Derived.Test.YtbffkokbdeppaaaGreatDoorQModuleExtracts12
set_option linter.unusedVariables false
set_option linter.unusedSimpArgs false
set_option linter.unusedSectionVars false
set_option maxHeartbeats 1000000
namespace Go.Proofs.YtbffkokbdeppaaaGreatDoor
open Go Go.Sx Go.Proofs Tryz
attribute [local irreducible] Code.wp wpList wpAnyH
open Go.Vs
def TyR (x:Ax) (y:Ax×Int):Prop:=y.2=x.tdyE/\(y.2=0->TdyOf x y.1/\y.1.ok)
def SdF (u:Bool) (c q:Con):Prop:=(u=true->TdR c (q,0))/\(u=false->q=c)
theorem SdF.core {u:Bool} {c q:Con} (h:SdF u c q):q.core=(if u=true then c.tdy.1 else c).core:=by
  cases u with
  | true=>rw[yax_ rfl];exact ((h.1 rfl).2 rfl).1
  | false=>rw[yam_ zak_,h.2 rfl]
theorem SdF.ok {u:Bool} {c q:Con} (h:SdF u c q) (d:c.ok):q.ok:=by
  cases u with
  | true=>exact ((h.1 rfl).2 rfl).2
  | false=>rw[h.2 rfl];exact d
theorem SdF.er {u:Bool} {c q:Con} (h:SdF u c q):¬ (u=true/\c.tdy.2≠0):=λk=>k.2 (h.1 k.1).1.symm
theorem SdF.yes {u:Bool} {c q:Con} {e:Int} (o:u=true) (h:TdR c (q,e)) (d:e=0):SdF u c q:=⟨λ_=>by grind,λk=>by grind⟩
theorem SdF.no {u:Bool} {c:Con} (d:¬ u=true):SdF u c c:=⟨λk=>absurd k d,λ_=>rfl⟩
theorem SdF.sz {u:Bool} {c q:Con} (h:SdF u c q):q.sz<=c.sz:=by
  cases u with
  | true =>
    rw[Con.sz_core _ _ ((h.1 rfl).2 rfl).1]
    grind[Con.tdy_sz]
  | false=>rw[h.2 rfl];simp
theorem TyE1 {x y:Ax} (h:x.check≠0):TyR x (y,x.check):=⟨by grind[Ax.tdyE],λk=>absurd k h⟩
theorem TyE2 {x y:Ax} {q:Con} {e:Int} (h:x.check=0) (v:(us x.kind).left=true) (d:TdR x.left (q,e)) (o:e≠0):TyR x (y,e):=by
  have u:e=x.left.tdy.2:=d.1;refine⟨?_,λk=>absurd k o⟩
  grind[Ax.tdyE]
theorem TyE3 {x y:Ax} {l q:Con} {e:Int} (h:x.check=0) (hl:SdF (us x.kind).left x.left l) (v:(us x.kind).right=true) (d:TdR x.right (q,e)) (o:e≠0):TyR x (y,e):=by
  have u:e=x.right.tdy.2:=d.1;refine⟨?_,λk=>absurd k o⟩
  grind[Ax.tdyE,SdF.er]
theorem Ty_e {x:Ax} {l r:Con} (h:x.check=0) (hl:SdF (us x.kind).left x.left l) (d:SdF (us x.kind).right x.right r):x.tdyE=0:=by
  grind[Ax.tdyE,SdF.er]
theorem Bc_ {x:Ax} {l r:Con} (hl:SdF (us x.kind).left x.left l) (d:SdF (us x.kind).right x.right r):Con.cmp x.tdyL x.tdyR=Con.cmp l r:=Con.cmp_of hl.core.symm d.core.symm
theorem CV_ {x:Ax} {l r:Con} (d:x.ok) (h:x.check=0) (hl:SdF (us x.kind).left x.left l) (k:SdF (us x.kind).right x.right r) (o:¬ ((x.kind=2\/x.kind=3)/\0<Con.cmp l r)):TyR x (.mk x.kind x.opn l r x.ad x.cap x.roles x.role x.a x.b,0):=by
 have e:¬ x.swp:=by grind[Ax.swp,Bc_]
 refine⟨(Ty_e h hl k).symm,λ_=>⟨⟨rfl,rfl,rfl,rfl,rfl,rfl,?_,?_⟩,?_⟩⟩
 .rw[yam_ e];exact hl.core
 .rw[yam_ e];exact k.core
 exact⟨d.lo,d.hi,hl.ok d.left,k.ok d.right,d.len,d.cap,d.roles,d.role,d.a,d.b⟩
theorem CU_ {x:Ax} {l r:Con} (d:x.ok) (h:x.check=0) (hl:SdF (us x.kind).left x.left l) (k:SdF (us x.kind).right x.right r) (o:x.kind=2\/x.kind=3) (u:0<Con.cmp l r):TyR x (.mk x.kind x.opn r l x.ad x.cap x.roles x.role x.a x.b,0):=by
 have e:x.swp:=by grind[Ax.swp,Bc_]
 refine⟨(Ty_e h hl k).symm,λ_=>⟨⟨rfl,rfl,rfl,rfl,rfl,rfl,?_,?_⟩,?_⟩⟩
 .rw[yax_ e];exact k.core
 .rw[yax_ e];exact hl.core
 exact⟨d.lo,d.hi,k.ok d.right,hl.ok d.left,d.len,d.cap,d.roles,d.role,d.a,d.b⟩
theorem jT_ {x:Ax} (h:x.check=0):x.shaped=true:=by
  grind[Ax.check]
theorem xd_ {x:Ax} (h:x.check=0):1<=x.kind/\x.kind<=9:=by
  have d:=jT_ h
  grind[Ax.shaped]
theorem uC_ {x:Ax} (h:x.check=0):x.namedU (us x.kind)=true:=by
  grind[Ax.check_20,jT_]
theorem hx_ {x:Ax} (h:x.check=0) (d:(us x.kind).left=true):x.left.check=0:=by
  grind[Ax.check_left,jT_,uC_]
theorem fF_ {x:Ax} (h:x.check=0) (d:(us x.kind).right=true):x.right.check=0:=by
  grind[Ax.check_right,jT_,uC_,hx_]
theorem us_get {x:Ax} (h:1<=x.kind/\x.kind<=9):kQ_[x.kind.toNat]? = some (us x.kind):=by
  have hl:x.kind.toNat<kQ_.length:=by show x.kind.toNat<10;omega
  grind[us]
theorem eP_ {k:Int} (h:k=2\/k=3):(us k).left=true/\(us k).right=true:=by rcases h with rfl|rfl<;>exact⟨rfl,rfl⟩
theorem oc_ {x:Ax} {l:Con} (h:x.check=0) (hl:SdF (us x.kind).left x.left l) (d:(us x.kind).left=true):l.sz<=1000000:=by
  have e:=hl.sz;have k:=(Con.check_zero (hx_ h d)).2;omega
theorem jr_ {x:Ax} {l:Con} (h:x.check=0) (hl:SdF (us x.kind).right x.right l) (d:(us x.kind).right=true):l.sz<=1000000:=by
  have e:=hl.sz;have k:=(Con.check_zero (fF_ h d)).2;omega
theorem strt30:iJ_ prog 30 [(0,1),(1,1),(2,5),(7,5),(12,1),(13,1),(14,1),(15,1)] [i4_ 0,.bool false,i4_ 0,str [],i4_ 0,i4_ 0,.slice none 0 0,i4_ 0,str [],i4_ 0,i4_ 0,.slice none 0 0,.slice none 0 0,str [],str [],str []]:=⟨_,aQ_,bC_,λw=>by simp[af_,bD_,B_,bo_,i_]⟩
theorem iL_ {G:Prop} (h:G:=by
 refine o_ 1 D_ rfl rfl rfl rfl rfl rfl (Zz 4 ?_);exact cs_ ⟨(x,0),CV_ E G (SdF.no zbz_) (SdF.no zbL_) zaa_⟩ (λF v e d=>br_ (us:=Ax.cells x) 1 dH_ bg_ D_ rfl rfl rfl rfl F v e d) e_ zf):G:=h
theorem mT_ {G:Prop} (h:G:=by
 refine Zz 10 ?_;refine o_ 1 i_ rfl rfl rfl rfl rfl rfl (Zz 1 ?_);refine o_ 1 i_ rfl rfl rfl rfl rfl rfl (Zz 5 ?_);refine o_ 1 D_ rfl rfl rfl rfl rfl rfl (Zz 4 ?_);exact cs_ ⟨((Ax.mk x.kind x.opn J u x.ad x.cap x.roles x.role x.a x.b),0),CU_ E G (SdF.yes A o zaM_) (SdF.yes B I zbn_) zaa_ zaa_⟩ (λF v e d=>br_ (us:=Ax.cells (Ax.mk x.kind x.opn J u x.ad x.cap x.roles x.role x.a x.b)) 1 dH_ bg_ D_ rfl rfl rfl rfl F v e d) e_ (λv _ h=>by exact⟨⟨h.1,h.2.1,h.2.2.1.2.2⟩,trivial⟩)):G:=h
theorem mU_ {G:Prop} (h:G:=by
 refine Zz 10 ?_;refine o_ 1 i_ rfl rfl rfl rfl rfl rfl (Zz 1 ?_);refine o_ 1 i_ rfl rfl rfl rfl rfl rfl (Zz 5 ?_);refine o_ 1 D_ rfl rfl rfl rfl rfl rfl (Zz 4 ?_);exact cs_ ⟨((Ax.mk x.kind x.opn u x.left x.ad x.cap x.roles x.role x.a x.b),0),CU_ E G (SdF.no zbz_) (SdF.yes B o zaM_) zaa_ zaa_⟩ (λF v e d=>br_ (us:=Ax.cells (Ax.mk x.kind x.opn u x.left x.ad x.cap x.roles x.role x.a x.b)) 1 dH_ bg_ D_ rfl rfl rfl rfl F v e d) e_ (λv _ h=>by exact⟨⟨h.1,h.2.1.1,h.2.1.2.2⟩,trivial⟩)):G:=h
theorem mV_ {G:Prop} (h:G:=by
 refine Zz 10 ?_;refine o_ 1 i_ rfl rfl rfl rfl rfl rfl (Zz 1 ?_);refine o_ 1 i_ rfl rfl rfl rfl rfl rfl (Zz 5 ?_);refine o_ 1 D_ rfl rfl rfl rfl rfl rfl (Zz 4 ?_);exact cs_ ⟨((Ax.mk x.kind x.opn x.right u x.ad x.cap x.roles x.role x.a x.b),0),CU_ E G (SdF.yes A o zaM_) (SdF.no zbL_) zaa_ zaa_⟩ (λF v e d=>br_ (us:=Ax.cells (Ax.mk x.kind x.opn x.right u x.ad x.cap x.roles x.role x.a x.b)) 1 dH_ bg_ D_ rfl rfl rfl rfl F v e d) e_ (λv _ h=>by exact⟨⟨h.2.1.2.1,h.1,h.2.1.2.2⟩,trivial⟩)):G:=h
theorem mW_ {G:Prop} (h:G:=by
 refine Zz 10 ?_;refine o_ 1 i_ rfl rfl rfl rfl rfl rfl (Zz 1 ?_);refine o_ 1 i_ rfl rfl rfl rfl rfl rfl (Zz 5 ?_);refine o_ 1 D_ rfl rfl rfl rfl rfl rfl (Zz 4 ?_);exact cs_ ⟨((Ax.mk x.kind x.opn x.right x.left x.ad x.cap x.roles x.role x.a x.b),0),CU_ E G (SdF.no zbz_) (SdF.no zbL_) zaa_ zaa_⟩ (λF v e d=>br_ (us:=Ax.cells (Ax.mk x.kind x.opn x.right x.left x.ad x.cap x.roles x.role x.a x.b)) 1 dH_ bg_ D_ rfl rfl rfl rfl F v e d) e_ (λv _ h=>by exact⟨⟨h.1.2.1,h.1.1,h.1.2.2⟩,trivial⟩)):G:=h
theorem iM_ {G:Prop} (h:G:=by
 refine o_ 1 D_ rfl rfl rfl rfl rfl rfl (Zz 4 ?_);exact cs_ ⟨((Ax.mk x.kind x.opn u J x.ad x.cap x.roles x.role x.a x.b),0),CV_ E G (SdF.yes A o zaM_) (SdF.yes B I zbn_) zaa_⟩ (λF v e d=>br_ (us:=Ax.cells (Ax.mk x.kind x.opn u J x.ad x.cap x.roles x.role x.a x.b)) 1 dH_ bg_ D_ rfl rfl rfl rfl F v e d) e_ (λv _ h=>by exact⟨⟨h.2.1,h.1,h.2.2.1.2.2⟩,trivial⟩)):G:=h
theorem iN_ {G:Prop} (h:G:=by
 refine o_ 1 D_ rfl rfl rfl rfl rfl rfl (Zz 4 ?_);exact cs_ ⟨((Ax.mk x.kind x.opn x.left u x.ad x.cap x.roles x.role x.a x.b),0),CV_ E G (SdF.no zbz_) (SdF.yes B o zaM_) zaa_⟩ (λF v e d=>br_ (us:=Ax.cells (Ax.mk x.kind x.opn x.left u x.ad x.cap x.roles x.role x.a x.b)) 1 dH_ bg_ D_ rfl rfl rfl rfl F v e d) e_ (λv _ h=>by exact⟨⟨h.2.1.1,h.1,h.2.1.2.2⟩,trivial⟩)):G:=h
theorem iO_ {G:Prop} (h:G:=by
 refine o_ 1 D_ rfl rfl rfl rfl rfl rfl (Zz 4 ?_);exact cs_ ⟨((Ax.mk x.kind x.opn u x.right x.ad x.cap x.roles x.role x.a x.b),0),CV_ E G (SdF.yes A o zaM_) (SdF.no zbL_) zaa_⟩ (λF v e d=>br_ (us:=Ax.cells (Ax.mk x.kind x.opn u x.right x.ad x.cap x.roles x.role x.a x.b)) 1 dH_ bg_ D_ rfl rfl rfl rfl F v e d) e_ (λv _ h=>by exact⟨⟨h.1,h.2.1.2.1,h.2.1.2.2⟩,trivial⟩)):G:=h
set_option maxHeartbeats 1000000 in
theorem yX_ (x:Ax) (E:x.ok):Tri prog 18 #[Ax.val x] [] [Ax.memF x,cy_] (λy:{y:Ax×Int // TyR x y}=>.tuple #[Ax.val y.1.1,i4_ y.1.2]) (λ_=>[]) (λy=>[Ax.memF y.1.1]):=by
 refine l_ func18 rfl rfl ntmps18 rfl λT=>?_;refine Zz 2 ?_;refine Q_ rfl rfl λU=>K_ aQ_ rfl λS=>Zz 7 ?_
 refine d_ (gE_ x E) rfl e_ zf rfl λ_=>Zi 6 (λL=>?_) λL=>?_
 .have G:Ax.check x=0:=by simpa using L
  have P:=xd_ G;refine Zz 9 ?_;refine c_ (gL_ runUnderlying91 fh_ rfl rfl (by show (0:Int)<=x.kind;omega) (by show x.kind<(10:Int);omega)) rfl ?_;obtain⟨ul,A⟩:∃ b,(us x.kind).left=b:=⟨_,rfl⟩;obtain⟨R,B⟩:∃ b,(us x.kind).right=b:=⟨_,rfl⟩;refine c_ (ax_ (ad:=some ⟨0,0,none⟩) (us:=Use.cells (us x.kind)) isAgg90 fh_ rfl (λv _ h=>h.2.1.2.1) (Use.cells_len _) (t_ Use.cells_len (us_get P))) rfl ?_;unfold Use.cells;rw[A,B];refine K_ zeroValue90 rfl λV=>o_ 0 fh_ rfl rfl rfl rfl rfl rfl (Zz 5 ?_)
  refine o_ 1 D_ rfl rfl rfl rfl rfl rfl (Zz 9 ?_);cases ul
  .refine Zz 10 ?_
   cases R
   .refine Zi 8 (λk=>?_) λk=>?_
    .refine Zi 6 (λC=>?_) λC=>?_
     .refine Zz 17 ?_
      exact iL_
     refine Zz 11 ?_;refine d_ (fb_ x.left x.right (oc_ G (SdF.no zbz_) (eP_ zaa_).1) (jr_ G (SdF.no zbL_) (eP_ zaa_).2)) rfl e_ (λv _ h=>by exact⟨h.1.1,h.1.2.1,trivial⟩) rfl λ_=>?_;refine as_ rfl rfl ?_;refine Zi 0 (λH=>?_) λH=>?_
     .refine Zz 9 ?_
      exact iL_
     exact mW_
    refine Zz 15 ?_;refine d_ (fb_ x.left x.right (oc_ G (SdF.no zbz_) (eP_ zaa_).1) (jr_ G (SdF.no zbL_) (eP_ zaa_).2)) rfl e_ (λv _ h=>by exact⟨h.1.1,h.1.2.1,trivial⟩) rfl λ_=>?_;refine as_ rfl rfl ?_;refine Zi 0 (λC=>?_) λC=>?_
    .refine Zz 9 ?_
     exact iL_
    exact mW_
   refine Zz 5 ?_;refine d_ (uS_ x.right E.right (fF_ G B)) rfl e_ (λv _ h=>by exact⟨h.1.2.1,trivial⟩) rfl λ⟨⟨u,M⟩,o⟩=>?_;dsimp only;try dsimp only at o
   refine Zz 4 ?_;refine o_ 1 i_ rfl rfl rfl rfl rfl rfl (Zi 6 (λk=>?_) λk=>?_)
   .refine Zi 10 (λC=>?_) λC=>?_
    .refine Zi 6 (λH=>?_) λH=>?_
     .refine Zz 17 ?_
      exact iN_
     refine Zz 11 ?_;refine d_ (fb_ x.left u (oc_ G (SdF.no zbz_) (eP_ zaa_).1) (jr_ G (SdF.yes B o zaM_) (eP_ zaa_).2)) rfl e_ (λv _ h=>by exact⟨h.2.1.1,h.1,trivial⟩) rfl λ_=>?_;refine as_ rfl rfl ?_;refine Zi 0 (λK=>?_) λK=>?_
     .refine Zz 9 ?_
      exact iN_
     exact mU_
    refine Zz 15 ?_;refine d_ (fb_ x.left u (oc_ G (SdF.no zbz_) (eP_ zaa_).1) (jr_ G (SdF.yes B o zaM_) (eP_ zaa_).2)) rfl e_ (λv _ h=>by exact⟨h.2.1.1,h.1,trivial⟩) rfl λ_=>?_;refine as_ rfl rfl ?_;refine Zi 0 (λH=>?_) λH=>?_
    .refine Zz 9 ?_
     exact iN_
    exact mU_
   refine Zz 5 ?_;refine c_ (x_ strt30 rfl rfl) rfl (Zz 1 ?_);refine o_ 1 D_ rfl rfl rfl rfl rfl rfl (Zz 4 ?_);exact cs_ ⟨((Ax.mk 0 false (Con.mk 0 [] 0 0 none 0 []) (Con.mk 0 [] 0 0 none 0 []) none 0 [] [] [] []),M),TyE3 G (SdF.no zbz_) B o zaM_⟩ (λF v e d=>br_ (us:=Ax.cells (Ax.mk 0 false (Con.mk 0 [] 0 0 none 0 []) (Con.mk 0 [] 0 0 none 0 []) none 0 [] [] [] [])) 1 dH_ bg_ D_ rfl rfl rfl rfl F v e d) e_ (λv _ h=>by exact⟨⟨⟨.inl rfl,trivial⟩,⟨.inl rfl,trivial⟩,(.inl rfl)⟩,trivial⟩)
  refine Zz 5 ?_;refine d_ (uS_ x.left E.left (hx_ G A)) rfl e_ (λv _ h=>by exact⟨h.1.1,trivial⟩) rfl λ⟨⟨u,M⟩,o⟩=>?_;dsimp only;try dsimp only at o
  refine Zz 4 ?_;refine o_ 1 i_ rfl rfl rfl rfl rfl rfl (Zi 6 (λk=>?_) λk=>?_)
  .refine Zz 12 ?_
   cases R
   .refine Zi 8 (λC=>?_) λC=>?_
    .refine Zi 6 (λH=>?_) λH=>?_
     .refine Zz 17 ?_
      exact iO_
     refine Zz 11 ?_;refine d_ (fb_ u x.right (oc_ G (SdF.yes A o zaM_) (eP_ zaa_).1) (jr_ G (SdF.no zbL_) (eP_ zaa_).2)) rfl e_ (λv _ h=>by exact⟨h.1,h.2.1.2.1,trivial⟩) rfl λ_=>?_;refine as_ rfl rfl ?_;refine Zi 0 (λK=>?_) λK=>?_
     .refine Zz 9 ?_
      exact iO_
     exact mV_
    refine Zz 15 ?_;refine d_ (fb_ u x.right (oc_ G (SdF.yes A o zaM_) (eP_ zaa_).1) (jr_ G (SdF.no zbL_) (eP_ zaa_).2)) rfl e_ (λv _ h=>by exact⟨h.1,h.2.1.2.1,trivial⟩) rfl λ_=>?_;refine as_ rfl rfl ?_;refine Zi 0 (λH=>?_) λH=>?_
    .refine Zz 9 ?_
     exact iO_
    exact mV_
   refine Zz 5 ?_;refine d_ (uS_ x.right E.right (fF_ G B)) rfl e_ (λv _ h=>by exact⟨h.2.1.2.1,trivial⟩) rfl λ⟨⟨J,Q⟩,I⟩=>?_;dsimp only;try dsimp only at I
   refine Zz 4 ?_;refine o_ 1 i_ rfl rfl rfl rfl rfl rfl (Zi 6 (λC=>?_) λC=>?_)
   .refine Zi 10 (λH=>?_) λH=>?_
    .refine Zi 6 (λK=>?_) λK=>?_
     .refine Zz 17 ?_
      exact iM_
     refine Zz 11 ?_;refine d_ (fb_ u J (oc_ G (SdF.yes A o zaM_) (eP_ zaa_).1) (jr_ G (SdF.yes B I zbn_) (eP_ zaa_).2)) rfl e_ zf rfl λ_=>as_ rfl rfl ?_
     refine Zi 0 (λO=>?_) λO=>?_
     .refine Zz 9 ?_
      exact iM_
     exact mT_
    refine Zz 15 ?_;refine d_ (fb_ u J (oc_ G (SdF.yes A o zaM_) (eP_ zaa_).1) (jr_ G (SdF.yes B I zbn_) (eP_ zaa_).2)) rfl e_ zf rfl λ_=>as_ rfl rfl ?_
    refine Zi 0 (λK=>?_) λK=>?_
    .refine Zz 9 ?_
     exact iM_
    exact mT_
   refine Zz 5 ?_;refine c_ (x_ strt30 rfl rfl) rfl (Zz 1 ?_);refine o_ 1 D_ rfl rfl rfl rfl rfl rfl (Zz 4 ?_);exact cs_ ⟨((Ax.mk 0 false (Con.mk 0 [] 0 0 none 0 []) (Con.mk 0 [] 0 0 none 0 []) none 0 [] [] [] []),Q),TyE3 G (SdF.yes A o zaM_) B I zbn_⟩ (λF v e d=>br_ (us:=Ax.cells (Ax.mk 0 false (Con.mk 0 [] 0 0 none 0 []) (Con.mk 0 [] 0 0 none 0 []) none 0 [] [] [] [])) 1 dH_ bg_ D_ rfl rfl rfl rfl F v e d) e_ (λv _ h=>by exact⟨⟨⟨.inl rfl,trivial⟩,⟨.inl rfl,trivial⟩,(.inl rfl)⟩,trivial⟩)
  refine Zz 5 ?_;refine c_ (x_ strt30 rfl rfl) rfl (Zz 1 ?_);refine o_ 1 D_ rfl rfl rfl rfl rfl rfl (Zz 4 ?_);exact cs_ ⟨((Ax.mk 0 false (Con.mk 0 [] 0 0 none 0 []) (Con.mk 0 [] 0 0 none 0 []) none 0 [] [] [] []),M),TyE2 G A o zaM_⟩ (λF v e d=>br_ (us:=Ax.cells (Ax.mk 0 false (Con.mk 0 [] 0 0 none 0 []) (Con.mk 0 [] 0 0 none 0 []) none 0 [] [] [] [])) 1 dH_ bg_ D_ rfl rfl rfl rfl F v e d) e_ (λv _ h=>by exact⟨⟨⟨.inl rfl,trivial⟩,⟨.inl rfl,trivial⟩,(.inl rfl)⟩,trivial⟩)
 refine Zz 5 ?_;refine c_ (x_ strt30 rfl rfl) rfl (Zz 1 ?_);refine o_ 0 D_ rfl rfl rfl rfl rfl rfl (Zz 4 ?_);exact cs_ ⟨((Ax.mk 0 false (Con.mk 0 [] 0 0 none 0 []) (Con.mk 0 [] 0 0 none 0 []) none 0 [] [] [] []),(Ax.check x)),TyE1 (by simpa using L)⟩ (λF v e d=>br_ (us:=Ax.cells (Ax.mk 0 false (Con.mk 0 [] 0 0 none 0 []) (Con.mk 0 [] 0 0 none 0 []) none 0 [] [] [] [])) 0 dH_ bg_ D_ rfl rfl rfl rfl F v e d) e_ (λv _ h=>by exact⟨⟨⟨.inl rfl,trivial⟩,⟨.inl rfl,trivial⟩,(.inl rfl)⟩,trivial⟩)
def rJ_ (x:Ax):Prop:=x.left.core=(if x.swp then x.tdyR.core else x.tdyL.core)/\x.right.core=if x.swp then x.tdyL.core else x.tdyR.core
theorem qE_ {x y:Ax} (h:TdyOf x y):x.alk y↔rJ_ x :=
  ⟨λ⟨_,d,e,_⟩=>⟨by rw[d,h.left],by rw[e,h.right]⟩,λ⟨d,e⟩=>⟨h.kind.symm,by rw[d,h.left],by rw[e,h.right],h.roles.symm,h.role.symm,h.a.symm,h.b.symm⟩⟩
instance (x:Ax):Decidable (rJ_ x):=decidable_of_iff (Con.cmp x.left (if x.swp then x.tdyR else x.tdyL)=0/\Con.cmp x.right (if x.swp then x.tdyL else x.tdyR)=0) (by
  grind[Con.cmp_zero,rJ_])
def hD_ (x:Ax):Int:=if x.tdyE≠0 then x.tdyE else if rJ_ x then 0 else 22
def axE:List Ax->Int
  | []=>0
  | x::l=>if hD_ x≠0 then hD_ x else axE l
theorem AW_:∀ {l:List Ax} {i:Nat} {x:Ax},(∀ z∈l.take i,hD_ z=0)->l[i]? = some x->hD_ x≠0->axE l=hD_ x
  | [],_,_,_,h,_=>by simp at h
  | y::l,0,x,_,h,hx=>by grind[axE]
  | y::l,i+1,x,h0,h,hx=>by
    have d:hD_ y=0:=h0 y zak_;simp only[axE];rw[yam_ zap_];exact AW_ (i:=i) (λz e=>h0 z zap_) zap_ hx
theorem jU_:∀ {l:List Ax},axE l=0↔∀ z∈l,hD_ z=0
 | []=>by simp[axE]
 | y::l=>by
   simp only[axE]
   by_cases h:hD_ y=0
   . rw[yam_ zap_,jU_];simp[h]
   grind
def hW_ (l:List Ax):Prop:=∀ (i:Nat) (x y:Ax),l[i]? = some x->l[i+1]? = some y->Ax.cmp x y=-1
def ms_ (x:Ax):Prop:=qK_ x=true/\x.opn=false
def BCk (l:List Ax) (e:Int):Prop :=
  (axE l≠0/\e=axE l)\/(axE l=0/\¬ hW_ l/\e=70)\/(axE l=0/\hW_ l/\1024<l.length/\e=2)\/(axE l=0/\hW_ l/\l.length<=1024/\(∃ x∈l,ms_ x)/\e=71)\/
    (axE l=0/\hW_ l/\l.length<=1024/\(∀ x∈l,¬ ms_ x)/\RlR l e)
theorem BCk.uniq {l:List Ax} {a b:Int} (h:BCk l a) (k:BCk l b):a=b:=by
  rcases h with⟨e,d⟩|⟨e,d,u⟩|⟨e,d,u,v⟩|⟨e,d,u,v,x⟩|⟨e,d,u,v,x⟩<;>rcases k with⟨k1,k2⟩|⟨k1,k2,o⟩|⟨k1,k2,o,A⟩|⟨k1,k2,o,A,y⟩|⟨k1,k2,o,A,y⟩ <;>
    first|grind|grind|grind|grind|omega|grind|grind|exact x.uniq y
theorem kU_ {x:Ax} (h:x.tdyE=0):x.check=0:=by
  grind[Ax.tdyE]
theorem mw_ {x:Ax}:hD_ x=0↔x.tdyE=0/\rJ_ x:=by
  grind[hD_]
theorem za_ {x y:Ax} {e:Int} (h:TyR x (y,e)) (k:e≠0):hD_ x=e:=by
  have d:e=x.tdyE:=h.1
  grind[hD_]
theorem yZ_ {x y:Ax} {e:Int} (h:TyR x (y,e)) (d:e=0) (u:¬ x.alk y):hD_ x=22:=by
  have k:e=x.tdyE:=h.1;have o:=qE_ (h.2 d).1
  grind[hD_]
theorem yY_ {x y:Ax} {e:Int} (h:TyR x (y,e)) (d:e=0) (u:x.alk y):hD_ x=0:=by
  have k:e=x.tdyE:=h.1;have o:=qE_ (h.2 d).1
  grind[mw_]
theorem up_ {c:Con} (h:c.empty=true):c.sz=1:=by
  cases c<;>grind[Con.empty,Con.parts,List.eq_nil_of_length_eq_zero,Con.sz,Con.sz.szs]
theorem jR_ {x:Ax} (h:x.check=0):x.left.sz<=64/\x.right.sz<=64:=by
 have k:=jT_ h;have o:=xd_ h;unfold Ax.shaped at k;rw[yam_ zaa_]at k;simp only[yaJ_,ybj_]at k;obtain⟨⟨⟨⟨⟨⟨d,e⟩,_⟩,_⟩,_⟩,_⟩,_⟩:=k;constructor
 .rcases d with d|d
  .exact (Con.check_zero (hx_ h d)).2
  grind[up_]
 rcases e with e|e
 .exact (Con.check_zero (fF_ h e)).2
 grind[up_]
theorem zc_ {x:Ax} (h:x.check=0):x.tdyL.sz<=64/\x.tdyR.sz<=64:=by
  grind[jR_,Con.tdy_sz,Ax.tdyL,Ax.tdyR]
theorem te_ {x y:Ax} (h:TdyOf x y) (d:x.check=0):y.left.sz<=64/\y.right.sz<=64:=by
  have e:=zc_ d;have k:=h.left
  grind[TdyOf.right,Con.sz_core]
theorem hW_.step {l:List Ax} {k:Nat} {x y:Ax} (h:∀ (i:Nat) (x y:Ax),i+1<k+1->l[i]? = some x->l[i+1]? = some y->Ax.cmp x y=-1) (o:l[k]? = some x) (d:l[k+1]? = some y) (e:Ax.cmp x y=-1) :
    ∀ (i:Nat) (x y:Ax),i+1<k+1+1->l[i]? = some x->l[i+1]? = some y->Ax.cmp x y=-1:=by grind
theorem hW_.all {l:List Ax} {k:Nat} (h:∀ (i:Nat) (x y:Ax),i+1<k->l[i]? = some x->l[i+1]? = some y->Ax.cmp x y=-1) (o:l.length<=k):hW_ l:=λi x y e d=>h i x y zap_ e d
theorem BCk.er {l:List Ax} {i:Nat} {x:Ax} {e:Int} (d:∀ z∈l.take i,hD_ z=0) (h:l[i]? = some x) (k:hD_ x=e) (o:e≠0):BCk l e:=by
  have:=AW_ d h zap_;exact .inl ⟨by grind,by grind⟩
theorem jW_ {l:List Ax} {i:Nat} {p:Ax->Prop} (h:∀ z∈l.take i,p z) (hi:l.length<=i):∀ z∈l,p z:=by grind[List.take_of_length_le]
theorem js_ {l:List Ax} {i:Nat} {x:Ax} {p:Ax->Prop} (h:∀ z∈l.take i,p z) (d:l[i]? = some x) (k:p x):∀ z∈l.take (i+1),p z:=λz e=>by
  rw[take_snoc d,yaj_,yal_]at e
  grind
theorem kp_ {l:List Ax} (h:axE l=0):∀ x∈l,x.check=0:=by grind[kU_,mw_,jU_]
theorem Dk_ {a:Bool} {n:Int} (h:(a&&(n==0))=true):a=true/\n=0:=by grind
theorem Dj_ {x y:Ax} {e:Int} (h:((x.opn==y.opn)&&(Ax.cmp x y==0))=false) (k:TyR x (y,e)) (d:e=0):¬ x.alk y:=λq=>by
  have u:=(Ax.cmp_zero _ _).2 q;have o:=(k.2 d).1.opn
  grind
theorem nZ_ {G:Prop} (h:G:=by
 exact w_ ⟨j+1,I,(js_ hN J (by unfold ms_;intro q;simp_all))⟩ zae_ zl (g_ f_) zh):G:=h
set_option maxHeartbeats 1000000 in
theorem or_ (l:List Ax) (ad:Ao) (cap:Nat) (O:∀ x∈l,x.ok) (hll:l.length<=1000000):Tri prog 20 #[.agg #[.slice ad l.length cap]] [] [bA_ ad l,cy_] (λy:{e:Int // BCk l e}=>i4_ y.1) (λ_=>[]) (λ_=>[]):=by
 refine l_ func20 rfl rfl ntmps20 rfl λv_1=>?_;refine Zz 2 ?_;refine Q_ rfl rfl λL=>Zz 13 ?_
 let Pu:Hp:=((L,.cells #[.slice ad l.length cap] 24 (0,0))::[]);refine Y_ (ι:={y:Nat // y<=List.length l/\(∀ z∈List.take y l,hD_ z=0)}) (λy=>[(1,zp_ L 0),(2,i4_ 0),(11,.slice ad l.length cap),(12,i4_ (List.length l:Int)),(13,i4_ y.1)]) (λy=>Pu) (λy=>[bA_ ad l,cy_]) (λy=>l.length - y.1) ⟨(0:Nat),by simp,zak_⟩ zl f_ zh ?_;rintro ⟨i,Z,hE⟩;dsimp only at Z hE ⊢;refine Zi 2 (λa2=>?_) λa2=>?_
 .refine Zz 13 ?_
  have H:axE l=0:=jU_.2 (jW_ hE zaa_);have V:=kp_ H;refine Y_ (ι:={y:Nat // 1<=y/\(∀ (n:Nat) (p q:Ax),n+1<y->l[n]? = some p->l[n+1]? = some q->Ax.cmp p q=-1)}) (λy=>[(1,zp_ L 0),(2,i4_ 0),(7,i4_ y.1)]) (λy=>Pu) (λy=>[bA_ ad l,cy_]) (λy=>l.length - y.1) ⟨(1:Nat),zak_,(λi x y h=>by omega)⟩ zl f_ zh ?_;rintro ⟨a0,X,hS⟩;dsimp only at X hS ⊢;refine Zi 7 (λC=>?_) λC=>?_
  .refine Zi 11 (λu=>?_) λu=>?_
   .refine Zz 15 ?_
    have Q:hW_ l:=hW_.all hS zaa_;refine Y_ (ι:={y:Nat // y<=List.length l/\(∀ z∈List.take y l,¬ ms_ z)}) (λy=>[(1,zp_ L 0),(2,i4_ 0),(56,.slice ad l.length cap),(57,i4_ (List.length l:Int)),(58,i4_ y.1)]) (λy=>Pu) (λy=>[bA_ ad l,cy_]) (λy=>l.length - y.1) ⟨(0:Nat),by simp,zak_⟩ zl f_ zh ?_;rintro ⟨j,a1,hN⟩;dsimp only at a1 hN ⊢;refine Zi 2 (λW=>?_) λW=>?_
    .refine Zz 10 ?_
     refine d_ (xG_ l ad cap O V zaa_) rfl e_ zf rfl λ⟨⟨rv,re⟩,hre⟩=>?_;dsimp only;refine Zz 13 ?_;exact W_ ph_ ⟨re,.inr (.inr (.inr (.inr ⟨H,Q,by omega,jW_ hN zaa_,hre⟩)))⟩ rfl e_ zt
    have I:j<l.length:=by omega
    obtain⟨P,J⟩:∃ K,l[j]? = some K:=⟨_,yaa_ I⟩;have T:P∈l:=yad_ J;refine Zz 12 ?_;refine K_ aQ_ rfl λb_2=>o_ 0 D_ rfl rfl rfl rfl rfl rfl (Zz 5 ?_)
    refine U_ (vN_ P) rfl e_ zt rfl λS hr_5=>Zz 1 ?_
    cases S
    .refine Zz 14 ?_
     exact nZ_
    refine Zz 4 ?_;generalize hzo:Ax.opn P=zo
    refine as_ rfl rfl (c_ (aI_ rfl) rfl (Zz 3 ?_));cases zo
    .refine Zz 7 ?_
     exact W_ ph_ ⟨71,.inr (.inr (.inr (.inl ⟨H,Q,by omega,⟨P,T,by unfold ms_;simp_all⟩,rfl⟩)))⟩ rfl e_ zt
    refine Zz 8 ?_;exact nZ_
   refine Zz 9 ?_;have Q:hW_ l:=hW_.all hS zaa_;exact W_ ph_ ⟨2,.inr (.inr (.inl ⟨H,Q,by omega,rfl⟩))⟩ rfl e_ zt
  obtain⟨F,rfl⟩:∃ F,a0=F+1:=⟨a0 - 1,by omega⟩;obtain⟨M,o,B,d⟩:=zge (show F<l.length by omega);have U:(F+1:Nat)<l.length:=by omega
  obtain⟨G,k⟩:∃ K,l[(F+1:Nat)]? = some K:=⟨_,yaa_ U⟩;have E:G∈l:=yad_ k;refine Zz 9 ?_;refine C_ 2 [0,1,2,3,4,5,6,7,8,9,10] zk zs (Zz 3 ?_);refine G_ rfl (aD_ (aT_ rfl rfl rfl (bB_ zaa_ zaa_)) (show _=i4_ F from yag_ _ zaa_)) rfl (Zz 8 ?_);refine j_ 11 rfl zk (d_ (wZ_ o G (O o d) (O G E) (by have:=(jR_ (V o d)).1;omega) (by have:=(jR_ (V o d)).2;omega) (by have:=(jR_ (V G E)).1;omega) (by have:=(jR_ (V G E)).2;omega)) rfl e_ (λv _ h=>by exact⟨(h.1.2 o d),(h.1.2 G E),trivial⟩) rfl λ_=>?_);refine Zz 3 ?_;refine C_ 0 [12] zk zs ?_;refine Zi 0 (λu=>?_) λu=>?_
  .refine Zz 8 ?_
   refine c_ (aD_ (aT_ rfl rfl rfl (bB_ zaa_ zaa_)) (show _=i4_ ((F+1+1:Nat):Int) from yag_ _ zaa_)) rfl (Zz 3 ?_);exact w_ ⟨F+1+1,zaa_,(hW_.step hS B k zbQ_)⟩ zae_ zl f_ zh
  refine Zz 10 ?_;exact W_ ph_ ⟨70,.inr (.inl ⟨H,λq=>u (q F o G B k),rfl⟩)⟩ rfl e_ zt
 obtain⟨M,o,B,d⟩:=zge (show i<l.length by omega);refine Zz 12 ?_;refine K_ aQ_ rfl λb_2=>o_ 0 D_ rfl rfl rfl rfl rfl rfl (Zz 5 ?_)
 refine d_ (yX_ o (O o d)) rfl e_ (λv _ h=>by exact⟨(h.1.2 o d),h.2.1,trivial⟩) rfl λ⟨⟨G,K⟩,k⟩=>?_;dsimp only;try dsimp only at k
 refine Zz 3 ?_;refine K_ aQ_ rfl λb_3=>o_ 0 D_ rfl rfl rfl rfl rfl rfl (Zi 7 (λC=>?_) λC=>?_)
 .have A:K=0:=by simpa using C
  have R:Ax.check o=0:=kU_ (by have q:=k.1;dsimp only at q;rw[<-q,A]);have J:=jR_ R;have Y:=te_ (k.2 A).1 R;dsimp only at Y;refine Zz 8 ?_;refine c_ (x_ strt99 rfl rfl) rfl (Zz 1 ?_);refine U_ (Cz_ o G (O o d) (k.2 A).2 zaa_ zaa_ zaa_ zaa_) rfl e_ (λv _ h=>by exact⟨(h.2.1.2 o d),h.1,trivial⟩) rfl λS u=>c_ (aI_ rfl) rfl (Zz 2 ?_)
  cases S
  .refine Zz 7 ?_
   exact W_ ph_ ⟨22,BCk.er hE B (yZ_ k A (Dj_ u k A)) zaj_⟩ rfl e_ zt
  refine Zz 8 ?_;exact w_ ⟨i+1,M,(js_ hE B (yY_ k A ((Ax.cmp_zero _ _).1 (Dk_ u).2)))⟩ zae_ zl (g_ (g_ f_)) (λ_ _ h=>h.2)
 refine Zz 10 ?_;exact W_ ph_ ⟨K,BCk.er hE B (za_ k zbn_) zbn_⟩ rfl e_ zt
theorem Cq_ {l:List Str} {s:Str} {k:Nat} (h:k<=l.length) (d:∀ x∈l.take k,x≠s) (o:¬ (k:Int)<(l.length:Int)):decide (s∈l)=false:=by
  have e:l.take k=l:=yac_ zaa_;rw[e]at d;exact ycS_ λq=>d s q rfl
theorem Cp_ {l:List Str} {s x:Str} {k:Nat} (h:l[k]? = some x) (e:x=s):decide (s∈l)=true:=ycc_ (e▸yad_ h)
theorem fT_ (l:List Str) (ad:Ao) (cap:Nat) (s:Str) (hl:l.length<=100000000000):Tri prog 176 #[.slice ad l.length cap,str s] [] [O_ ad (l.flatMap V_)] (λ_:Unit=>.bool (decide (s∈l))) (λ_=>[]) (λ_=>[]):=by
 refine l_ func176 rfl rfl ntmps176 rfl λB=>?_;refine Zz 12 ?_;refine bc_ [(0,.slice ad l.length cap),(1,str s),(5,i4_ ((0:Nat):Int))] zl ?_;refine bs_ (ι:={z:Nat // z<=l.length/\∀ x∈l.take z,x≠s}) (λy=>[(0,.slice ad l.length cap),(1,str s),(5,i4_ y.1)]) (λ_=>_) (λ_=>_) (λy=>l.length - y.1) ⟨0,by simp⟩ ?_;rintro ⟨k,A⟩;refine bc_ [(0,.slice ad l.length cap),(1,str s),(5,i4_ k)] zl ?_;refine Zi 6 (λo=>?_) λo=>?_
 .refine Zz 11 ?_
  exact W_ results176 () (n_ rfl (by exact (Cq_ A.1 A.2 zar_).symm)) (.refl _) zt
 obtain⟨e,C,d,v⟩:=zge (show k<l.length by omega);refine Zi 14 (λu=>?_) λu=>?_
 .refine Zz 11 ?_
  exact w_ ⟨k+1,e,λx h=>by rw[yao_,d]at h;simp only[ybf_,yaj_,yal_]at h;rcases h with h|rfl;exact A.2 x h;simp_all⟩ zae_ zl (.refl _) zh
 refine Zz 9 ?_;exact W_ results176 () (n_ rfl (by exact (Cp_ d zcn_).symm)) (.refl _) zt
theorem nf_ {G:Prop} (h:G:=by
 refine I_ C (g_ an_) λB J P E K F=>?_;exact W_ results173 ⟨(B,J),E,K,F⟩ (cw_ rfl P) e_ zf):G:=h
theorem fu_ (l:List Str) (ad:Ao) (cap:Nat) (s:Str) (hl:l.length<=100000000000) (M:l.length<=cap/\cap<=maxLen/\(ad=none->cap=0)) (hsl:SrS l) (hs:s≠[]):Tri prog 173 #[.slice ad l.length cap,str s] [] [O_ ad (l.flatMap V_)] (λy:{y:Ao×Nat // (be_ l s).length<=y.2/\y.2<=maxLen/\(y.1=none->y.2=0)}=>.slice y.1.1 (be_ l s).length y.1.2) (λ_=>[]) (λy=>[O_ y.1.1 ((be_ l s).flatMap V_)]):=by
 refine l_ func173 rfl rfl ntmps173 rfl λv_1=>?_;refine Zz 10 ?_;refine U_ (fT_ l ad cap s hl) rfl e_ zf rfl λr_1 d=>Zz 2 ?_
 cases r_1
 .replace d:=zdf d
  refine Zz 10 ?_;refine bc_ [(0,.slice ad l.length cap),(1,str s),(5,i4_ ((0:Nat):Int))] zl ?_;refine bs_ (ι:={z:Nat // z<=l.length/\∀ x∈l.take z,x<s}) (λzz=>[(0,.slice ad l.length cap),(1,str s),(5,i4_ zz.1)]) (λ_=>_) (λ_=>_) (λzz=>l.length - zz.1) ⟨0,by simp⟩ ?_;rintro ⟨k,V⟩;refine bc_ [(0,.slice ad l.length cap),(1,str s),(5,i4_ k)] zl ?_;refine Zi 6 (λo=>?_) λo=>?_
  .refine Zz 14 ?_
   have Q:kS l s=k:=rm_ V.1 V.2 (λx L=>by have:=(yaf_.1 L).1;omega);refine S_ (dc_ m_ B_ rfl λA=>Zz 2 ?_);refine c_ (aD_ (cq_ (i:=0) (j:=k) (kl:=.i64) (kh:=.i64) m_ B_ rfl rfl rfl zaa_ zaa_) (show _=Value.slice (sad ad cap 0 1) (l.take k).length (cap - 0) by rw[yat_,ybk_ zaa_];rfl)) rfl ?_;have e:av_ 9 1 (.slice (some ⟨A,0,none⟩) 0 0) 0 [] [(A,.cells #[] 9 (0,0))]:=⟨rfl,.inr ⟨A,0,#[],rfl,rfl,yab_ _,yaV_ _,rfl,rfl⟩⟩;refine aY_ (news:=(l.take k).flatMap V_) ku_ e rfl rfl (λq=>by have:=M.2.2 (eW_ q);omega) zaG_ (.refl _) zaH_ (λv _ h=>by exact (bW_.slice au_ h.1 M.1 0 k)) (λu T=>fa_ T) zaD_ zaG_ rfl λU Y d=>?_;refine s_ (@List.perm_append_comm _ _ []) (Zz 7 ?_);refine p_ m_ B_ ak_ rfl rfl rfl rfl rfl rfl λZ=>?_;refine am_ (news:=[str s]) ku_ d rfl rfl zp rfl (aO_ 0 rfl) (dn_ rfl) zaD_ zaG_ rfl λX W o=>?_;refine s_ (@List.perm_append_comm _ _ [_]) (Zz 8 ?_);refine c_ (aD_ (cq_ (i:=k) (j:=l.length) (kl:=.i64) (kh:=.i64) m_ B_ rfl rfl rfl zaa_ zaa_) (show _=Value.slice (sad ad cap k 1) (l.drop k).length (cap - k) by rw[ybD_])) rfl (aY_ (news:=(l.drop k).flatMap V_) ku_ o rfl rfl (λq=>by have:=M.2.2 (eW_ q);omega) zbt_ (g_ an_) zaH_ (λv _ h=>by exact (bW_.rest au_ h.1 M.1 k)) (λu T=>fa_ T) zaO_ zaW_ rfl λI G H=>?_);refine s_ (@List.perm_append_comm _ _ [_]) (Zz 4 ?_);have R:be_ l s=l.take k++[s]++l.drop k:=by rw[kb_ hs zar_,Q]
   have C:av_ 9 1 I (be_ l s).length ((be_ l s).flatMap V_) G:=by rw[R,yan_,yan_,yae_,yae_];simpa [V_] using H
   exact nf_
  obtain⟨S,x_1,O,hmx_1⟩:=zge (show k<l.length by omega);refine Zi 12 (λe=>?_) λe=>?_
  .refine Zz 7 ?_
   have Q:kS l s=k:=rm_ V.1 V.2 (λx L=>by rw[O]at L;cases L;assumption);refine S_ (dc_ m_ B_ rfl λA=>Zz 2 ?_);refine c_ (aD_ (cq_ (i:=0) (j:=k) (kl:=.i64) (kh:=.i64) m_ B_ rfl rfl rfl zaa_ zaa_) (show _=Value.slice (sad ad cap 0 1) (l.take k).length (cap - 0) by rw[yat_,ybk_ zaa_];rfl)) rfl ?_;have H:av_ 9 1 (.slice (some ⟨A,0,none⟩) 0 0) 0 [] [(A,.cells #[] 9 (0,0))]:=⟨rfl,.inr ⟨A,0,#[],rfl,rfl,yab_ _,yaV_ _,rfl,rfl⟩⟩;refine aY_ (news:=(l.take k).flatMap V_) ku_ H rfl rfl (λq=>by have:=M.2.2 (eW_ q);omega) zaG_ (.refl _) zaH_ (λv _ h=>by exact (bW_.slice au_ h.1 M.1 0 k)) (λu T=>fa_ T) zaD_ zaG_ rfl λU Y d=>?_;refine s_ (@List.perm_append_comm _ _ []) (Zz 7 ?_);refine p_ m_ B_ ak_ rfl rfl rfl rfl rfl rfl λZ=>?_;refine am_ (news:=[str s]) ku_ d rfl rfl zp rfl (aO_ 0 rfl) (dn_ rfl) zaD_ zaG_ rfl λX W o=>?_;refine s_ (@List.perm_append_comm _ _ [_]) (Zz 8 ?_);refine c_ (aD_ (cq_ (i:=k) (j:=l.length) (kl:=.i64) (kh:=.i64) m_ B_ rfl rfl rfl zaa_ zaa_) (show _=Value.slice (sad ad cap k 1) (l.drop k).length (cap - k) by rw[ybD_])) rfl (aY_ (news:=(l.drop k).flatMap V_) ku_ o rfl rfl (λq=>by have:=M.2.2 (eW_ q);omega) zbt_ (g_ an_) zaH_ (λv _ h=>by exact (bW_.rest au_ h.1 M.1 k)) (λu T=>fa_ T) zaO_ zaW_ rfl λI G e=>?_);refine s_ (@List.perm_append_comm _ _ [_]) (Zz 4 ?_);have R:be_ l s=l.take k++[s]++l.drop k:=by rw[kb_ hs zar_,Q]
   have C:av_ 9 1 I (be_ l s).length ((be_ l s).flatMap V_) G:=by rw[R,yan_,yan_,yae_,yae_];simpa [V_] using e
   exact nf_
  refine Zz 13 ?_;exact w_ ⟨k+1,S,λx L=>by rw[yao_,O]at L;simp only[ybf_,yaj_,yal_]at L;rcases L with L|rfl;exact V.2 x L;assumption⟩ zae_ zl (.refl _) zh
 replace d:=zdt d;refine Zz 8 ?_;have R:be_ l s=l:=lO_ hsl zar_;exact W_ results173 ⟨(ad,cap),by rw[R];exact M⟩ (cw_ rfl (by dsimp only;rw[R])) e_ (λv _ h=>⟨by show bW_ v ad ((be_ l s).flatMap V_);rw[R];exact h.1,trivial⟩)
theorem BA_:iJ_ prog 127 [(0,1),(1,1),(2,1)] [.slice none 0 0,.slice none 0 0,.slice none 0 0]:=⟨_,qr_,runUnderlying127,λw=>by simp[bo_]⟩
theorem cU_ {G:Prop} (h:G:=by
 exact W_ results84 () (n_ rfl (by rw[d];first|(simp_all;done)|(subst_vars;rfl))) (.refl _) zt):G:=h
theorem lP_ (x:Rcd) (q:Pc) (u:x.sm) (I:1<=q.kind/\q.kind<=9):Tri prog 84 #[Rcd.val x,Pc.val q] [] [O_ (Rcd.aad x) (List.flatMap V_ (Rcd.a x)),O_ (Rcd.rad x) (List.flatMap V_ (Rcd.r x)),O_ (Rcd.fad x) (List.flatMap V_ (Rcd.f x))] (λ_:Unit=>.bool (eA_ x.a x.r x.f q)) (λ_=>[]) (λ_=>[]):=by
 refine l_ func84 rfl rfl ntmps84 rfl λG=>?_;refine Zz 2 ?_;refine Q_ rfl rfl λJ=>Q_ rfl rfl λH=>Zi 14 (λF=>?_) λF=>?_
 .refine Zi 6 (λC=>?_) λC=>?_
  .refine Zi 5 (λB=>?_) λB=>?_
   .refine Zi 6 (λA=>?_) λA=>?_
    .refine Zi 6 (λk=>?_) λk=>?_
     .refine Zi 6 (λh=>?_) λh=>?_
      .refine Zi 6 (λv=>?_) λv=>?_
       .refine Zi 6 (λo=>?_) λo=>?_
        .refine Zz 10 ?_
         refine A_ (al_ rfl rfl) rfl λe y=>Zz 4 ?_
         have d:eA_ (Rcd.a x) (Rcd.r x) (Rcd.f x) q=_:=usb_7 I zar_ zar_ zar_ zar_ zar_ zar_ zar_ zar_;exact cU_
        refine Zz 10 ?_;refine U_ (fT_ (Rcd.f x) (Rcd.fad x) (Rcd.fcap x) q.r (by have:=u.f;omega)) rfl e_ zf rfl λe y=>?_;refine Zz 4 ?_;have d:eA_ (Rcd.a x) (Rcd.r x) (Rcd.f x) q=_:=usb_9 zar_;exact cU_
       refine Zz 10 ?_;refine U_ (fT_ (Rcd.r x) (Rcd.rad x) (Rcd.rcap x) q.r zcj_) rfl e_ zf rfl λe o=>?_;refine Zz 1 ?_;cases e
       .replace o:=zdf o
        refine Zz 10 ?_;have d:eA_ (Rcd.a x) (Rcd.r x) (Rcd.f x) q=_:=CZ_ zar_;exact cU_
       replace o:=zdt o;refine Zz 9 ?_;refine U_ (fT_ (Rcd.r x) (Rcd.rad x) (Rcd.rcap x) q.s zcj_) rfl e_ zf rfl λE y=>?_;refine Zz 5 ?_;have d:eA_ (Rcd.a x) (Rcd.r x) (Rcd.f x) q=_:=CZ_ zar_;exact cU_
      refine Zz 10 ?_;refine U_ (fT_ (Rcd.r x) (Rcd.rad x) (Rcd.rcap x) q.r zcj_) rfl e_ zf rfl λe v=>?_;refine Zz 4 ?_;have d:eA_ (Rcd.a x) (Rcd.r x) (Rcd.f x) q=_:=usb_5 zar_;exact cU_
     refine Zz 10 ?_;refine U_ (fT_ (Rcd.r x) (Rcd.rad x) (Rcd.rcap x) q.r zcj_) rfl e_ zf rfl λe h=>?_;refine Zz 1 ?_;cases e
     .replace h:=zdf h
      refine Zz 10 ?_;have d:eA_ (Rcd.a x) (Rcd.r x) (Rcd.f x) q=_:=Da_ zar_;exact cU_
     replace h:=zdt h;refine Zz 9 ?_;refine U_ (fT_ (Rcd.a x) (Rcd.aad x) (Rcd.acap x) q.a zbI_) rfl e_ zf rfl λE v=>?_;refine Zz 5 ?_;have d:eA_ (Rcd.a x) (Rcd.r x) (Rcd.f x) q=_:=Da_ zar_;exact cU_
    refine Zz 10 ?_;refine U_ (fT_ (Rcd.a x) (Rcd.aad x) (Rcd.acap x) q.a zbI_) rfl e_ zf rfl λe k=>?_;refine Zz 1 ?_;cases e
    .replace k:=zdf k
     refine Zz 10 ?_;have d:eA_ (Rcd.a x) (Rcd.r x) (Rcd.f x) q=_:=Db_ zar_;exact cU_
    replace k:=zdt k;refine Zz 9 ?_;refine U_ (fT_ (Rcd.a x) (Rcd.aad x) (Rcd.acap x) q.b zbI_) rfl e_ zf rfl λE h=>?_;refine Zz 5 ?_;have d:eA_ (Rcd.a x) (Rcd.r x) (Rcd.f x) q=_:=Db_ zar_;exact cU_
   refine Zz 10 ?_;refine U_ (fT_ (Rcd.a x) (Rcd.aad x) (Rcd.acap x) q.a zbI_) rfl e_ zf rfl λe A=>?_;refine Zz 4 ?_;have d:eA_ (Rcd.a x) (Rcd.r x) (Rcd.f x) q=_:=yT_ (.inr (.inr zar_));exact cU_
  refine Zz 13 ?_;refine U_ (fT_ (Rcd.a x) (Rcd.aad x) (Rcd.acap x) q.a zbI_) rfl e_ zf rfl λe B=>?_;refine Zz 4 ?_;have d:eA_ (Rcd.a x) (Rcd.r x) (Rcd.f x) q=_:=yT_ (.inr (.inl zar_));exact cU_
 refine Zz 13 ?_;refine U_ (fT_ (Rcd.a x) (Rcd.aad x) (Rcd.acap x) q.a zbI_) rfl e_ zf rfl λe C=>?_;refine Zz 4 ?_;have d:eA_ (Rcd.a x) (Rcd.r x) (Rcd.f x) q=_:=yT_ (.inl zar_);exact cU_
theorem ne_ {G:Prop} (h:G:=by
 refine d_ (fu_ (Rcd.r x) (Rcd.rad x) (Rcd.rcap x) q.t (by have:=C.r;omega) u.r B.r (E.2 ⟨2,q.t⟩ zbV_)) rfl e_ zf rfl λ⟨⟨e,h⟩,d⟩=>?_;dsimp only;refine Zz 1 ?_;refine o_ 2 bo_ rfl rfl rfl rfl rfl rfl (Zz 5 ?_);refine o_ 0 ck_ rfl rfl rfl rfl rfl rfl (Zz 3 ?_);exact cs_ ⟨(Rcd.mk (Rcd.a x) (Rcd.aad x) (Rcd.acap x) (be_ (Rcd.r x) q.t) e h (Rcd.f x) (Rcd.fad x) (Rcd.fcap x)),by simp[kt_, *],by simp[kr_, *],by simp[ks_, *],u.a,d,u.f⟩ (λA v o k=>db_ (us:=Rcd.cells (Rcd.mk (Rcd.a x) (Rcd.aad x) (Rcd.acap x) (be_ (Rcd.r x) q.t) e h (Rcd.f x) (Rcd.fad x) (Rcd.fcap x))) 0 mD_ hO_ ck_ rfl rfl rfl A v o k) e_ zf):G:=h
theorem hj_ {G:Prop} (h:G:=by
 refine d_ (fu_ (Rcd.a x) (Rcd.aad x) (Rcd.acap x) q.c (by have:=C.a;omega) u.a B.a (E.2 ⟨1,q.c⟩ zbV_)) rfl e_ zf rfl λ⟨⟨e,h⟩,d⟩=>?_;dsimp only;refine Zz 1 ?_;refine o_ 2 bo_ rfl rfl rfl rfl rfl rfl (Zz 5 ?_);refine o_ 0 ck_ rfl rfl rfl rfl rfl rfl (Zz 3 ?_);exact cs_ ⟨(Rcd.mk (be_ (Rcd.a x) q.c) e h (Rcd.r x) (Rcd.rad x) (Rcd.rcap x) (Rcd.f x) (Rcd.fad x) (Rcd.fcap x)),by simp[kt_, *],by simp[kr_, *],by simp[ks_, *],d,u.r,u.f⟩ (λA v o k=>db_ (us:=Rcd.cells (Rcd.mk (be_ (Rcd.a x) q.c) e h (Rcd.r x) (Rcd.rad x) (Rcd.rcap x) (Rcd.f x) (Rcd.fad x) (Rcd.fcap x))) 0 mD_ hO_ ck_ rfl rfl rfl A v o k) e_ zf):G:=h
theorem used_c (x:Rcd) (q:Pc) (C:x.sm) (u:x.ok) (B:x.srt) (E:PcN q):Tri prog 175 #[Rcd.val x,Pc.val q] [] [O_ (Rcd.aad x) (List.flatMap V_ (Rcd.a x)),O_ (Rcd.rad x) (List.flatMap V_ (Rcd.r x)),O_ (Rcd.fad x) (List.flatMap V_ (Rcd.f x))] (λy:{y:Rcd // y.a=kt_ x.a q/\y.r=kr_ x.r q/\y.f=ks_ x.f q/\y.ok}=>y.1.val) (λ_=>[]) (λy=>y.1.row):=by
 refine l_ func175 rfl rfl ntmps175 rfl λS=>?_;refine Zz 2 ?_;refine Q_ rfl rfl λU=>Q_ rfl rfl λT=>K_ qr_ rfl λV=>Zi 13 (λQ=>?_) λQ=>?_
 .refine Zi 6 (λP=>?_) λP=>?_
  .refine Zi 6 (λM=>?_) λM=>?_
   .refine Zi 5 (λI=>?_) λI=>?_
    .refine Zi 6 (λG=>?_) λG=>?_
     .refine Zi 7 (λR=>?_) λR=>?_
      .refine Zi 5 (λL=>?_) λL=>?_
       .refine Zi 6 (λH=>?_) λH=>?_
        .refine Zi 6 (λF=>?_) λF=>?_
         .refine Zz 9 ?_
          refine o_ 0 ck_ rfl rfl rfl rfl rfl rfl (Zz 3 ?_);exact cs_ ⟨x,by simp[kt_, *],by simp[kr_, *],by simp[ks_, *],u.a,u.r,u.f⟩ (λA v o k=>db_ (us:=Rcd.cells x) 0 mD_ hO_ ck_ rfl rfl rfl A v o k) e_ zf
         refine Zz 9 ?_;refine d_ (fu_ (Rcd.f x) (Rcd.fad x) (Rcd.fcap x) q.r (by have:=C.f;omega) u.f B.f (E.2 ⟨3,q.r⟩ zbV_)) rfl e_ zf rfl λ⟨⟨e,h⟩,d⟩=>?_;dsimp only;refine Zz 1 ?_;refine o_ 2 bo_ rfl rfl rfl rfl rfl rfl (Zz 5 ?_);refine o_ 0 ck_ rfl rfl rfl rfl rfl rfl (Zz 3 ?_);exact cs_ ⟨(Rcd.mk (Rcd.a x) (Rcd.aad x) (Rcd.acap x) (Rcd.r x) (Rcd.rad x) (Rcd.rcap x) (be_ (Rcd.f x) q.r) e h),by simp[kt_, *],by simp[kr_, *],by simp[ks_, *],u.a,u.r,d⟩ (λA v o k=>db_ (us:=Rcd.cells (Rcd.mk (Rcd.a x) (Rcd.aad x) (Rcd.acap x) (Rcd.r x) (Rcd.rad x) (Rcd.rcap x) (be_ (Rcd.f x) q.r) e h)) 0 mD_ hO_ ck_ rfl rfl rfl A v o k) e_ zf
        refine Zz 9 ?_;refine d_ (fu_ (Rcd.r x) (Rcd.rad x) (Rcd.rcap x) q.r (by have:=C.r;omega) u.r B.r (E.2 ⟨2,q.r⟩ zbV_)) rfl e_ zf rfl λ⟨⟨e,h⟩,d⟩=>?_;dsimp only;refine Zz 1 ?_;refine o_ 2 bo_ rfl rfl rfl rfl rfl rfl (Zz 5 ?_);refine o_ 0 ck_ rfl rfl rfl rfl rfl rfl (Zz 3 ?_);exact cs_ ⟨(Rcd.mk (Rcd.a x) (Rcd.aad x) (Rcd.acap x) (be_ (Rcd.r x) q.r) e h (Rcd.f x) (Rcd.fad x) (Rcd.fcap x)),by simp[kt_, *],by simp[kr_, *],by simp[ks_, *],u.a,d,u.f⟩ (λA v o k=>db_ (us:=Rcd.cells (Rcd.mk (Rcd.a x) (Rcd.aad x) (Rcd.acap x) (be_ (Rcd.r x) q.r) e h (Rcd.f x) (Rcd.fad x) (Rcd.fcap x))) 0 mD_ hO_ ck_ rfl rfl rfl A v o k) e_ zf
       refine Zz 9 ?_;exact ne_
      refine Zz 12 ?_;exact ne_
     refine Zz 10 ?_;refine d_ (fu_ (Rcd.a x) (Rcd.aad x) (Rcd.acap x) q.c (by have:=C.a;omega) u.a B.a (E.2 ⟨1,q.c⟩ zbV_)) rfl e_ zf rfl λ⟨⟨e,h⟩,d⟩=>?_;dsimp only;refine Zz 1 ?_;refine o_ 2 bo_ rfl rfl rfl rfl rfl rfl (Zz 7 ?_);refine d_ (fu_ (Rcd.r x) (Rcd.rad x) (Rcd.rcap x) q.r (by have:=C.r;omega) u.r B.r (E.2 ⟨2,q.r⟩ zbV_)) rfl e_ zf rfl λ⟨⟨J,K⟩,O⟩=>?_;dsimp only;refine Zz 1 ?_;refine o_ 2 bo_ rfl rfl rfl rfl rfl rfl (Zz 5 ?_);refine o_ 0 ck_ rfl rfl rfl rfl rfl rfl (Zz 3 ?_);exact cs_ ⟨(Rcd.mk (be_ (Rcd.a x) q.c) e h (be_ (Rcd.r x) q.r) J K (Rcd.f x) (Rcd.fad x) (Rcd.fcap x)),by simp[kt_, *],by simp[kr_, *],by simp[ks_, *],d,O,u.f⟩ (λA v o k=>db_ (us:=Rcd.cells (Rcd.mk (be_ (Rcd.a x) q.c) e h (be_ (Rcd.r x) q.r) J K (Rcd.f x) (Rcd.fad x) (Rcd.fcap x))) 0 mD_ hO_ ck_ rfl rfl rfl A v o k) e_ zf
    refine Zz 9 ?_;exact hj_
   refine Zz 12 ?_;exact hj_
  refine Zz 12 ?_;exact hj_
 refine Zz 12 ?_;exact hj_
theorem wg_ (x:Rcd) (d:x.sm):Fn0 prog 174 #[Rcd.val x] (i4_ ((x.a.length+x.r.length+x.f.length:Nat):Int)):=by
  refine l_ func174 rfl rfl ntmps174 rfl λo=>?_;have e:=d.a;have h:=d.r;have k:=d.f;refine Zz 2 ?_;refine Q_ rfl rfl λu=>Zz 20 ?_
  have e:=d.a;have h:=d.r;have k:=d.f;exact W_ results174 () (aV_ rfl zak_) e_ zt
theorem zs_ (p:List Pc) (k:Ao) (B:Nat) (S:List Str) (sad:Ao) (J:Nat) (hN:∀ x∈p,PcN x) (V:∀ s∈S,s≠[]) (hp:p.length<=100000000) (hS:S.length<=100000000):Tri prog 83 #[.slice k p.length B,.slice sad S.length J] [] [O_ k (p.flatMap Pc.cells),O_ sad (S.flatMap V_)] (λy:{y:Rcd // Rc1 p S y}=>y.1.val) (λ_=>[]) (λy=>y.1.row):=by
 refine l_ func83 rfl rfl ntmps83 rfl λv_1=>?_;refine Zz 2 ?_;refine K_ qr_ rfl λo=>Zz 4 ?_
 refine p_ m_ B_ ak_ rfl rfl rfl rfl rfl rfl λb_2=>?_;refine R_ (List.flatMap V_ [[33],[42]]) f_ rfl ?_;refine c_ (x_ BA_ rfl rfl) rfl (K_ qr_ rfl λE=>o_ 0 ck_ rfl rfl rfl rfl rfl rfl (Zz 9 ?_));let Pu:Hp:=((o,.cells #[.slice none 0 0,.slice none 0 0,.slice none 0 0] 127 (0,0))::[]);refine Y_ (ι:={y:Nat×List Str×Ao×Nat // y.1<=S.length/\RcA (S.take y.1) y.2.1/\(y.2.1.length<=y.2.2.2/\y.2.2.2<=maxLen/\(y.2.2.1=none->y.2.2.2=0))}) (λy=>[(0,.slice k p.length B),(1,.slice sad S.length J),(4,zp_ o 0),(5,zp_ E 0),(6,i4_ y.1.1)]) (λy=>((E,.cells #[.slice y.1.2.2.1 y.1.2.1.length y.1.2.2.2,.slice none 0 0,.slice none 0 0] 127 (0,0))::Pu)) (λy=>[O_ y.1.2.2.1 (y.1.2.1.flatMap V_),O_ k (p.flatMap Pc.cells),O_ sad (S.flatMap V_)]) (λy=>S.length - y.1.1) ⟨(0,[[33],[42]],(some ⟨b_2,0,none⟩),2),yaV_ _,RcA.nil,(by simp[maxLen])⟩ zl zp zh ?_;rintro ⟨⟨i,X,Y,K⟩,hi,O,A⟩;dsimp only at hi O A ⊢;have hxl:=O.l;rw[yat_]at hxl;refine Zi 6 (λa1=>?_) λa1=>?_
 .refine Zz 12 ?_
  have et:S.take i=S:=yac_ zaa_;rw[et]at O;refine Y_ (ι:={y:Int×Rcd // RdI p S (Rcd.a y.2) (Rcd.r y.2) (Rcd.f y.2)/\Rcd.ok y.2/\(y.1=-1\/RdR p S y.1 p.length (Rcd.a y.2) (Rcd.r y.2) (Rcd.f y.2))}) (λy=>[(0,.slice k p.length B),(4,zp_ o 0),(5,zp_ E 0),(7,i4_ y.1.1)]) (λy=>((E,.cells #[.slice (Rcd.aad y.1.2) (Rcd.a y.1.2).length (Rcd.acap y.1.2),.slice (Rcd.rad y.1.2) (Rcd.r y.1.2).length (Rcd.rcap y.1.2),.slice (Rcd.fad y.1.2) (Rcd.f y.1.2).length (Rcd.fcap y.1.2)] 127 (0,0))::Pu)) (λy=>[O_ (Rcd.aad y.1.2) (List.flatMap V_ (Rcd.a y.1.2)),O_ (Rcd.rad y.1.2) (List.flatMap V_ (Rcd.r y.1.2)),O_ (Rcd.fad y.1.2) (List.flatMap V_ (Rcd.f y.1.2)),O_ k (p.flatMap Pc.cells)]) (λy=>Int.toNat (300000003 - y.1.1)) ⟨((-1),(Rcd.mk X Y K [] none 0 [] none 0)),O.inv,⟨A,by simp[maxLen],by simp[maxLen]⟩,.inl rfl⟩ zl zp (λv _ h=>by exact⟨h.1,.inl rfl,.inl rfl,h.2.1,trivial⟩) ?_;rintro ⟨⟨n,x⟩,L,A,hn⟩;dsimp only at L A hn ⊢;have M:=(L.sm hp hS).1;have hs_1:=(L.sm hp hS).2;refine Zz 5 ?_;refine d_ (wg_ x M) rfl e_ zt rfl λ_=>?_;refine Zi 0 (λU=>?_) λU=>?_
  .refine Zz 8 ?_
   refine o_ 1 ck_ rfl rfl rfl rfl rfl rfl (Zz 3 ?_);have W:=hn.elim (λq=>by omega) id;have hmm:=RdR.fin W zar_;exact cs_ ⟨x,hmm,⟨L.sa,L.sr,L.sf⟩,A,M⟩ (λaa v h_1 h_2=>db_ (us:=Rcd.cells x) 1 results83 hO_ ck_ rfl rfl rfl aa v h_1 h_2) e_ zf
  refine Zz 9 ?_;refine d_ (wg_ x M) rfl e_ zt rfl λ_=>Zz 9 ?_
  refine Y_ (ι:={y:Nat×Rcd // y.1<=p.length/\RdR p S ((List.length (Rcd.a x)+List.length (Rcd.r x)+List.length (Rcd.f x):Nat):Int) y.1 (Rcd.a y.2) (Rcd.r y.2) (Rcd.f y.2)/\Rcd.ok y.2}) (λy=>[(0,.slice k p.length B),(4,zp_ o 0),(5,zp_ E 0),(7,i4_ ((List.length (Rcd.a x)+List.length (Rcd.r x)+List.length (Rcd.f x):Nat):Int)),(8,i4_ y.1.1)]) (λy=>((E,.cells #[.slice (Rcd.aad y.1.2) (Rcd.a y.1.2).length (Rcd.acap y.1.2),.slice (Rcd.rad y.1.2) (Rcd.r y.1.2).length (Rcd.rcap y.1.2),.slice (Rcd.fad y.1.2) (Rcd.f y.1.2).length (Rcd.fcap y.1.2)] 127 (0,0))::Pu)) (λy=>[O_ (Rcd.aad y.1.2) (List.flatMap V_ (Rcd.a y.1.2)),O_ (Rcd.rad y.1.2) (List.flatMap V_ (Rcd.r y.1.2)),O_ (Rcd.fad y.1.2) (List.flatMap V_ (Rcd.f y.1.2)),O_ k (p.flatMap Pc.cells)]) (λy=>p.length - y.1.1) ⟨(0,x),yaV_ _,RdR.start L,A⟩ zl zp zh ?_;rintro ⟨⟨j,w⟩,hj,G,H⟩;dsimp only at hj G H ⊢;have I:=(G.inv.sm hp hS).1;refine Zi 6 (λZ=>?_) λZ=>?_
  .have jp:j=p.length:=by omega
   refine Zz 5 ?_;exact w_ ⟨((List.length (Rcd.a x)+List.length (Rcd.r x)+List.length (Rcd.f x):Nat),w),G.inv,H,.inr (jp▸G)⟩ (by have:=G.inv.sm hp hS;have:=G.le;dsimp only;omega) zl (E_ f_ f_) zh
  obtain⟨e,F,C,d⟩:=zge (show j<p.length by omega);refine Zz 9 ?_;refine C_ 1 [0,1,2,3,4] zk zs (Zz 6 ?_);refine j_ 5 rfl zk (U_ (lP_ w F I (hN _ d).1) rfl e_ zf rfl λr_1 hr_4=>Zz 5 ?_);cases r_1
  .refine Zz 9 ?_
   exact w_ ⟨((j+1),w),e,G.skip C zar_,H⟩ zae_ zl zp zh
  refine bT_ rfl ?_;refine aW_ Pu zk ?_;refine C_ 3 [1,2,3,4] zk zs (Zz 5 ?_);refine j_ 0 rfl zk (Zz 4 ?_);refine j_ 5 rfl zk (d_ (used_c w F I H ⟨G.inv.sa,G.inv.sr,G.inv.sf⟩ (hN _ d)) rfl e_ zf rfl λ⟨u,P,R,T,Q⟩=>?_);dsimp only;refine Zz 3 ?_;refine j_ 6 rfl zk (o_ 0 ck_ rfl rfl rfl rfl rfl rfl (Zz 11 ?_));exact w_ ⟨((j+1),u),e,(by rw[P,R,T];exact G.take C (hN _ d) zar_),Q⟩ zae_ zl zp zf
 obtain⟨e,F,C,d⟩:=zge (show i<S.length by omega);refine Zz 7 ?_;refine aW_ Pu zk ?_;refine C_ 4 [0,2,3,4,5] zk zs (Zz 6 ?_);refine j_ 1 rfl zk (Zz 4 ?_);refine j_ 6 rfl zk (d_ (fu_ X Y K F zaa_ A O.s (V _ d)) rfl e_ zf rfl λ⟨⟨wad,a0⟩,hcw⟩=>?_);dsimp only;refine Zz 3 ?_;refine C_ 1 [7] zk zs (Zz 2 ?_);refine j_ 8 rfl zk (o_ 0 bo_ rfl rfl rfl rfl rfl rfl (Zz 11 ?_));exact w_ ⟨((i+1),(be_ X F),wad,a0),e,(by rw[yao_,C];exact O.step (V _ d)),hcw⟩ zae_ zl zp zf
theorem uV_ (S:List Str) (sad:Ao) (k:Nat) (G:S.length<=100000000) (E:∀ s∈S,s.length<=100000):Tri prog 41 #[.slice sad S.length k] [] [O_ sad (S.flatMap V_)] (λ_:Unit=>.bool (eO_ S)) (λ_=>[]) (λ_=>[]):=by
 refine l_ func41 rfl rfl ntmps41 rfl λF=>?_;refine Zz 12 ?_;refine Y_ (ι:={y:Nat // y<=List.length S/\ln_ S y (λ_ s=>cD_ s=true)}) (λy=>[(0,.slice sad S.length k),(2,.bool false),(3,i4_ y.1)]) (λy=>([])) (λy=>[O_ sad (S.flatMap V_)]) (λy=>S.length - y.1) ⟨(0:Nat),by simp,ln_.zero⟩ zl e_ zh ?_;rintro ⟨i,B,v⟩;dsimp only at B v ⊢;refine Zi 6 (λA=>?_) λA=>?_
 .refine Zz 9 ?_
  refine A_ (dx_ rfl rfl) rfl λx d=>Zz 4 ?_
  exact W_ results41 () (n_ rfl (by unfold eO_;rw[ybn_.2 (v.all zar_),ych_,<-d];exact decide_eq_decide.2 zaa_)) e_ zt
 have e:i<S.length:=by omega
 obtain⟨u,o⟩:∃ C,S[i]? = some C:=⟨_,yaa_ e⟩;have h:u∈S:=yad_ o;refine Zz 13 ?_;refine U_ (BU_ u (by have:=E _ h;omega)) rfl e_ zt rfl λx d=>?_;refine c_ (aI_ rfl) rfl (Zz 2 ?_);cases x
 .refine Zz 7 ?_
  exact W_ results41 () (n_ rfl (by unfold eO_;symm;rw[ycG_];right;rw[ycC_];exact⟨u,h,by simpa using d⟩)) e_ zt
 refine Zz 9 ?_;exact w_ ⟨i+1,e,v.step o d⟩ zae_ zl e_ zh
theorem iS_ {G:Prop} (h:G:=by
 refine Zz 9 ?_;exact w_ ⟨(i+1,e,E),h,(by rw[wE_ (MtI.no o R G zaa_)];exact d)⟩ zae_ zl zp zh):G:=h
theorem iT_ {G:Prop} (h:G:=by
 refine Zz 2 ?_;refine C_ 0 [8,9,10,11,12,13,14,15] zk zs (Zz 17 ?_);exact w_ ⟨(k+1,false,e,E),B,o.step J zch_,d⟩ zae_ zl zp zh):G:=h
theorem nc_ {G:Prop} (h:G:=by
 refine p_ aE_ af_ bQ_ rfl rfl rfl rfl rfl rfl λT=>?_;refine am_ (news:=List.flatMap cS_ [(i:Int)]) hv_ d rfl rfl zp rfl (aO_ 0 rfl) (λu W=>aF_ gk_ W) zab_ zac_ rfl λv C H=>?_;refine s_ yah_ ?_;have A:=zsa H;exact hi_):G:=h
theorem nd_ {G:Prop} (h:G:=by
 refine p_ aE_ af_ bQ_ rfl rfl rfl rfl rfl rfl λT=>?_;refine am_ (news:=List.flatMap cS_ [(i:Int)]) hv_ d rfl rfl zp rfl (aO_ 0 rfl) (λu W=>aF_ gk_ W) zab_ zac_ rfl λv C I=>?_;refine s_ yah_ ?_;have A:=zsa I;exact hi_):G:=h
theorem hi_ {G:Prop} (h:G:=by
 refine Zz 9 ?_;exact w_ ⟨(i+1,v,C),h,(by rw[tQ_ (MtI.yes o R G)];exact A)⟩ zae_ zl (E_ (g_ f_) ah_) zh):G:=h
theorem pA_ (F:List Ax) (lad:Ao) (lcap:Nat) (hll:F.length<=100000000) (p:List Pc) (K:Ao) (M:Nat) (S:List Str) (sad:Ao) (a2:Nat) (hN:∀ x∈p,PcN x) (hSn:∀ s∈S,s≠[]) (hp:p.length<=100000000) (hS:S.length<=100000000):Tri prog 43 #[.slice lad F.length lcap,.slice K p.length M,.slice sad S.length a2] [] [bA_ lad F,O_ K (p.flatMap Pc.cells),O_ sad (S.flatMap V_)] (λy:{y:Ao×Nat // ((dE_ F p S F.length)).length<=y.2/\y.2<=maxLen/\(y.1=none->y.2=0)}=>.slice y.1.1 ((dE_ F p S F.length)).length y.1.2) (λ_=>[]) (λy=>[O_ y.1.1 (((dE_ F p S F.length)).flatMap cS_)]):=by
 refine l_ func43 rfl rfl ntmps43 rfl λv_1=>?_;refine Zz 9 ?_;refine d_ (zs_ p K M S sad a2 hN hSn hp hS) rfl e_ zf rfl λ⟨x,R⟩=>?_;dsimp only;refine K_ qr_ rfl λP=>o_ 0 ck_ rfl rfl rfl rfl rfl rfl (Zz 14 ?_)
 let Pu:Nat×Obj:=(P,.cells #[.slice (Rcd.aad x) (Rcd.a x).length (Rcd.acap x),.slice (Rcd.rad x) (Rcd.r x).length (Rcd.rcap x),.slice (Rcd.fad x) (Rcd.f x).length (Rcd.fcap x)] 127 (0,0));refine Y_ (ι:={y:Nat×Value×Hp // y.1<=List.length F/\zR 3 1 cS_ y.2.1 (dE_ F p S y.1) y.2.2}) (λy=>[(0,.slice lad F.length lcap),(1,.slice K p.length M),(6,.slice none 0 0),(7,zp_ P 0),(8,y.1.2.1),(9,i4_ y.1.1)]) (λy=>(Pu::y.1.2.2)) (λy=>[O_ (Rcd.aad x) (List.flatMap V_ (Rcd.a x)),O_ (Rcd.rad x) (List.flatMap V_ (Rcd.r x)),O_ (Rcd.fad x) (List.flatMap V_ (Rcd.f x)),bA_ lad F,O_ K (p.flatMap Pc.cells),O_ sad (S.flatMap V_)]) (λy=>F.length - y.1.1) ⟨((0:Nat),(.slice none 0 0),[]),by simp,(av_.nil _ _)⟩ zl f_ zh ?_;rintro ⟨⟨i,e,E⟩,a8,d⟩;dsimp only at a8 d ⊢;have hml:=gV_ (l:=F) (p:=p) (S:=S) i;refine Zi 6 (λb0=>?_) λb0=>?_
 .refine Zz 12 ?_
  have a5:av_ 3 1 e (dE_ F p S F.length).length (List.flatMap cS_ (dE_ F p S F.length)) E:=by have q:=d;rw[show i=F.length by omega]at q;exact q
  refine I_ a5 ah_ λa6 a9 a4 a0 Z a1=>?_;exact W_ results43 ⟨(a6,a9),a0,Z,a1⟩ (cw_ rfl a4) e_ zf
 have h:i<F.length:=by omega
 obtain⟨a3,G⟩:∃ e_1,F[i]? = some e_1:=⟨_,yaa_ h⟩;refine Zi 14 (λV=>?_) λV=>?_
 .refine Zi 12 (λQ=>?_) λQ=>?_
  .refine Zz 13 ?_
   refine A_ (al_ rfl rfl) rfl λU I=>Zz 11 ?_
   refine Y_ (ι:={y:Nat×Bool×Value×Hp // y.1<=List.length p/\MtI a3 x p i y.1 y.2.1/\zR 3 1 cS_ y.2.2.1 (dE_ F p S i) y.2.2.2}) (λy=>[(0,.slice lad F.length lcap),(1,.slice K p.length M),(6,.slice none 0 0),(7,zp_ P 0),(8,y.1.2.2.1),(9,i4_ i),(10,.bool y.1.2.1),(11,i4_ y.1.1)]) (λy=>(Pu::y.1.2.2.2)) (λy=>[O_ (Rcd.aad x) (List.flatMap V_ (Rcd.a x)),O_ (Rcd.rad x) (List.flatMap V_ (Rcd.r x)),O_ (Rcd.fad x) (List.flatMap V_ (Rcd.f x)),bA_ lad F,O_ K (p.flatMap Pc.cells),O_ sad (S.flatMap V_)]) (λy=>p.length - y.1.1) ⟨((0:Nat),U,e,E),by simp,(MtI.zero (by subst I;simp[hr_, *])),d⟩ zl zp zh ?_;rintro ⟨⟨k,b,e,E⟩,O,o,d⟩;dsimp only at O o d ⊢;refine Zi 6 (λH=>?_) λH=>?_
   .refine Zz 14 ?_
    cases b
    .exact iS_
    refine Zz 4 ?_;refine p_ aE_ af_ bQ_ rfl rfl rfl rfl rfl rfl λT=>?_;refine am_ (news:=List.flatMap cS_ [(i:Int)]) hv_ d rfl rfl zp rfl (aO_ 0 rfl) (λu W=>aF_ gk_ W) zab_ zac_ rfl λv C V=>?_;refine s_ yah_ ?_;have A:=zsa V;exact hi_
   obtain⟨B,X,J,L⟩:=zge (show k<p.length by omega);refine Zz 4 ?_;refine c_ (aI_ rfl) rfl (Zz 3 ?_);cases b
   .refine Zz 6 ?_
    refine C_ 8 [0,1,2,3,4,5,6,7] zk zs (Zi 6 (λY=>?_) λY=>?_)
    .exact iT_
    refine Zz 2 ?_;refine C_ 3 [8,9,10,11,12] zk zs (Zz 6 ?_);refine j_ 13 rfl zk (as_ rfl rfl (U_ (lP_ x X R.sm (hN _ L).1) rfl e_ zf rfl λr_2 a7=>Zz 3 ?_));refine C_ 0 [14,15] zk zs (Zz 11 ?_);exact w_ ⟨(k+1,r_2,e,E),B,o.step J (by rw[<-a7];simp[*]),d⟩ zae_ zl zp zh
   refine Zz 12 ?_;refine p_ aE_ af_ bQ_ rfl rfl rfl rfl rfl rfl λT=>?_;refine am_ (news:=List.flatMap cS_ [(i:Int)]) hv_ d rfl rfl zp rfl (aO_ 0 rfl) (λu W=>aF_ gk_ W) zab_ zac_ rfl λv C Q=>?_;refine s_ yah_ ?_;have A:=zsa Q;exact hi_
  refine Zz 19 ?_;refine Y_ (ι:={y:Nat×Bool×Value×Hp // y.1<=List.length p/\MtI a3 x p i y.1 y.2.1/\zR 3 1 cS_ y.2.2.1 (dE_ F p S i) y.2.2.2}) (λy=>[(0,.slice lad F.length lcap),(1,.slice K p.length M),(6,.slice none 0 0),(7,zp_ P 0),(8,y.1.2.2.1),(9,i4_ i),(10,.bool y.1.2.1),(11,i4_ y.1.1)]) (λy=>(Pu::y.1.2.2.2)) (λy=>[O_ (Rcd.aad x) (List.flatMap V_ (Rcd.a x)),O_ (Rcd.rad x) (List.flatMap V_ (Rcd.r x)),O_ (Rcd.fad x) (List.flatMap V_ (Rcd.f x)),bA_ lad F,O_ K (p.flatMap Pc.cells),O_ sad (S.flatMap V_)]) (λy=>p.length - y.1.1) ⟨((0:Nat),true,e,E),by simp,(MtI.zero (by simp[hr_, *])),d⟩ zl zp zh ?_;rintro ⟨⟨k,b,e,E⟩,O,o,d⟩;dsimp only at O o d ⊢;refine Zi 6 (λI=>?_) λI=>?_
  .refine Zz 14 ?_
   cases b
   .exact iS_
   refine Zz 4 ?_;exact nc_
  obtain⟨B,X,J,L⟩:=zge (show k<p.length by omega);refine Zz 4 ?_;refine c_ (aI_ rfl) rfl (Zz 3 ?_);cases b
  .refine Zz 6 ?_
   refine C_ 8 [0,1,2,3,4,5,6,7] zk zs (Zi 6 (λH=>?_) λH=>?_)
   .exact iT_
   refine Zz 2 ?_;refine C_ 3 [8,9,10,11,12] zk zs (Zz 6 ?_);refine j_ 13 rfl zk (as_ rfl rfl (U_ (lP_ x X R.sm (hN _ L).1) rfl e_ zf rfl λU Y=>Zz 3 ?_));refine C_ 0 [14,15] zk zs (Zz 11 ?_);exact w_ ⟨(k+1,U,e,E),B,o.step J (by rw[<-Y];simp[*]),d⟩ zae_ zl zp zh
  refine Zz 12 ?_;exact nc_
 refine Zz 26 ?_;refine Y_ (ι:={y:Nat×Bool×Value×Hp // y.1<=List.length p/\MtI a3 x p i y.1 y.2.1/\zR 3 1 cS_ y.2.2.1 (dE_ F p S i) y.2.2.2}) (λy=>[(0,.slice lad F.length lcap),(1,.slice K p.length M),(6,.slice none 0 0),(7,zp_ P 0),(8,y.1.2.2.1),(9,i4_ i),(10,.bool y.1.2.1),(11,i4_ y.1.1)]) (λy=>(Pu::y.1.2.2.2)) (λy=>[O_ (Rcd.aad x) (List.flatMap V_ (Rcd.a x)),O_ (Rcd.rad x) (List.flatMap V_ (Rcd.r x)),O_ (Rcd.fad x) (List.flatMap V_ (Rcd.f x)),bA_ lad F,O_ K (p.flatMap Pc.cells),O_ sad (S.flatMap V_)]) (λy=>p.length - y.1.1) ⟨((0:Nat),true,e,E),by simp,(MtI.zero (by simp[hr_, *])),d⟩ zl zp zh ?_;rintro ⟨⟨k,b,e,E⟩,O,o,d⟩;dsimp only at O o d ⊢;refine Zi 6 (λQ=>?_) λQ=>?_
 .refine Zz 14 ?_
  cases b
  .exact iS_
  refine Zz 4 ?_;exact nd_
 obtain⟨B,X,J,L⟩:=zge (show k<p.length by omega);refine Zz 4 ?_;refine c_ (aI_ rfl) rfl (Zz 3 ?_);cases b
 .refine Zz 6 ?_
  refine C_ 8 [0,1,2,3,4,5,6,7] zk zs (Zi 6 (λI=>?_) λI=>?_)
  .exact iT_
  refine Zz 2 ?_;refine C_ 3 [8,9,10,11,12] zk zs (Zz 6 ?_);refine j_ 13 rfl zk (as_ rfl rfl (U_ (lP_ x X R.sm (hN _ L).1) rfl e_ zf rfl λU H=>Zz 3 ?_));refine C_ 0 [14,15] zk zs (Zz 11 ?_);exact w_ ⟨(k+1,U,e,E),B,o.step J (by rw[<-H];simp[*]),d⟩ zae_ zl zp zh
 refine Zz 12 ?_;exact nd_
theorem xl_ {S:List Str} (h:eO_ S=true):∀ s∈S,s≠[]:=λs d e=>by
  unfold eO_ at h;rw[yaJ_,ybn_]at h;have:=h.2 s d;rw[e]at this;exact absurd this zaj_
theorem fp_ (s:Str):Fn0 prog 30 #[str s] (Con.val (Con.mk 3 s 0 0 none 0 [])):=by
  refine l_ func30 rfl rfl ntmps30 rfl λu=>?_;refine Zz 2 ?_;refine K_ ay_ rfl λo=>Zz 5 ?_
  refine c_ (x_ ff_ rfl rfl) rfl (o_ 0 i_ rfl rfl rfl rfl rfl rfl (Zz 3 ?_));exact cs_ () (λk v e d=>db_ (us:=Con.cells (Con.mk 3 s 0 0 none 0 [])) 0 results30 H_ i_ rfl rfl rfl k v e d) e_ (λv _ h=>trivial)
theorem ii_ (a b:Str):Fn0 prog 31 #[str a,str b] (Ax.val (Ax.mk 1 false (Con.mk 3 a 0 0 none 0 []) (Con.mk 3 b 0 0 none 0 []) none 0 [] [] [] [])):=by
  refine l_ func31 rfl rfl ntmps31 rfl λk=>?_;refine Zz 2 ?_;refine K_ aQ_ rfl λo=>Zz 5 ?_
  refine d_ (fp_ a) rfl e_ zt rfl λ_=>Zz 1 ?_
  refine d_ (fp_ b) rfl e_ zt rfl λ_=>c_ (x_ strt30 rfl rfl) rfl (o_ 0 D_ rfl rfl rfl rfl rfl rfl (Zz 3 ?_))
  exact cs_ () (λu v d e=>db_ (us:=Ax.cells (Ax.mk 1 false (Con.mk 3 a 0 0 none 0 []) (Con.mk 3 b 0 0 none 0 []) none 0 [] [] [] [])) 0 results31 bg_ D_ rfl rfl rfl u v d e) e_ (λv _ h=>trivial)
theorem Cw_ (d:List Ax) (lad:Ao) (lcap:Nat) (e:d.length<=lcap/\lcap<=2199023255488) (k:∀ x∈d,x.ok):Tri prog 7 #[.slice lad d.length lcap] [] [bA_ lad d] (λb:{b:Bool // b=true->d.length<=12/\∀ x∈d,Ax.Few x}=>.bool b.1) (λ_=>[]) (λ_=>[]):=by
  refine l_ func7 rfl rfl ntmps7 rfl λu=>?_;refine Zz 8 ?_;refine d_ (sA_ d lad lcap 12 e k) rfl e_ zf rfl λ⟨r,o⟩=>?_;dsimp only;refine Zz 4 ?_;exact W_ results7 ⟨r,λh=>⟨by have:=(o h).1;omega,(o h).2⟩⟩ rfl (.refl _) zt
theorem xu_ (S:List Str) (sad:Ao) (e:Nat) (J:S.length<=8796093021952) (E:∀ s∈S,s.length<=140737488351232):Tri prog 8 #[.slice sad S.length e] [] [O_ sad (S.flatMap V_)] (λb:{b:Bool // b=true->S.length<=8/\∀ s∈S,s.length<=300}=>.bool b.1) (λ_=>[]) (λ_=>[]):=by
 refine l_ func8 rfl rfl ntmps8 rfl λG=>?_;refine Zi 10 (λx=>?_) λx=>?_
 .refine Zz 12 ?_
  refine Y_ (ι:={y:Nat // y<=List.length S/\ln_ S y (λ_ s=>s.length<=300)}) (λy=>[(0,.slice sad S.length e),(2,.bool false),(3,i4_ y.1)]) (λy=>([])) (λy=>[O_ sad (S.flatMap V_)]) (λy=>S.length - y.1) ⟨(0:Nat),by simp,ln_.zero⟩ zl e_ zh ?_;rintro ⟨i,B,u⟩;dsimp only at B u ⊢;refine Zi 6 (λA=>?_) λA=>?_
  .refine Zz 11 ?_
   exact W_ results8 ⟨true,λ_=>⟨by omega,λs H=>by have:=u.all zar_ s H;omega⟩⟩ rfl e_ zt
  have d:i<S.length:=by omega
  obtain⟨F,k⟩:∃ C,S[i]? = some C:=⟨_,yaa_ d⟩;have o:F∈S:=yad_ k;have I:=E _ o;refine Zz 13 ?_;refine c_ (cK_ L_ rfl) rfl ?_;refine Zi 0 (λv=>?_) λv=>?_
  .refine Zz 11 ?_
   exact w_ ⟨i+1,d,u.step k zaa_⟩ zae_ zl e_ zh
  refine Zz 9 ?_;exact W_ results8 ⟨false,λh=>by cases h⟩ rfl e_ zt
 refine Zz 9 ?_;exact W_ results8 ⟨false,λh=>by cases h⟩ rfl e_ zt
theorem eF_ (h:List Ax) (lad:Ao) (lcap:Nat) (E:h.length<=lcap/\lcap<=2199023255488) (K:∀ x∈h,x.ok) (I:h.length<=100000000) (S:List Str) (sad:Ao) (o:Nat) (V:S.length<=100000000) (H:∀ s∈S,s.length<=100000) (p:List Pc) (er:Int) (L:aX_ h=(p,er)) (R:p.length<=100000000) (d:List Int) (k:Ao) (v:Nat) (X:d.length<=100000000) (W:kY_ h p er S=(d,0)):Tri prog 32 #[.slice lad h.length lcap,.slice sad S.length o,.slice k d.length v] [] [bA_ lad h,cy_,O_ sad (S.flatMap V_),O_ k (d.flatMap cS_)] (λ_:Unit=>.bool true) (λ_=>[]) (λ_=>[]):=by
 refine l_ func32 rfl rfl ntmps32 rfl λT=>?_;refine Zz 9 ?_;refine d_ (xg_ h lad lcap E K I S sad o V H p er L R d 0 W) rfl e_ zf rfl λ⟨⟨C,B⟩,Q,O,P⟩=>?_;dsimp only;refine Zz 11 ?_;refine c_ (aD_ (cP_ rfl rfl) (show _=Value.bool false from yag_ Value.bool zaj_)) rfl (Zi 10 (λA=>?_) λA=>?_)
 .refine Zz 13 ?_
  refine Y_ (ι:={y:Nat // y<=List.length d}) (λy=>[(2,.slice k d.length v),(6,.bool false),(7,.slice C d.length B),(9,i4_ y.1)]) (λy=>([])) (λy=>[O_ C (d.flatMap cS_),bA_ lad h,cy_,O_ sad (S.flatMap V_),O_ k (d.flatMap cS_)]) (λy=>d.length - y.1) ⟨(0:Nat),by simp⟩ zl e_ zh ?_;rintro ⟨i,G⟩;dsimp only at G ⊢;refine Zi 6 (λF=>?_) λF=>?_
  .refine Zz 11 ?_
   exact W_ results32 () rfl e_ zt
  have e:i<d.length:=by omega
  obtain⟨U,M⟩:∃ J,d[i]? = some J:=⟨_,yaa_ e⟩;refine Zz 9 ?_;refine C_ 0 [0,1,2,3,4,5,6,7,8] zk zs (Zi 8 (λu=>?_) λu=>?_)
  .refine Zz 12 ?_
   exact w_ ⟨i+1,e⟩ zae_ zl e_ zh
  exact absurd rfl u
 exact absurd rfl A
theorem zJ_ {l:List Ax} {w:List Int}:(dB_ l w).length<=w.length:=ycv_ _ _
theorem vj_ {l:List Ax} {w:List Int} {i:Nat} {x:Int} {a:Ax} (d:w[i]? = some x) (e:l[x.toNat]? = some a):dB_ l (List.take (i+1) w)=dB_ l (w.take i)++[a]:=by
  grind[List.take_add_one,ld_]
end Go.Proofs.YtbffkokbdeppaaaGreatDoor
namespace Go.Vs
open Go Go.Sx
def Rng (z:Int):Prop:=z=-1\/z=0\/z=1
theorem sa_:∀ {l:List Int},(∀ z∈l,Rng z)->Rng (orF l)
 | [],_=>.inr (.inl rfl)
 | x::l,h=>by
   rw[orF]
   split
   . exact sa_ λz d=>h z (yaN_ _ d)
   grind
theorem mP_ (x y:Int):Rng (Lib.compareInt x y):=by grind[Lib.compareInt,Rng]
theorem sK_:∀ (x y:Str),Rng (Lib.compareBytes x y)
 | [],[]=>by simp[Lib.compareBytes,Rng]
 | [],b::y=>by simp[Lib.compareBytes,Rng]
 | a::x,[]=>by simp[Lib.compareBytes,Rng]
 | a::x,b::y=>by
   rw[Lib.compareBytes]
   split
   . exact .inl rfl
   . split
     . exact .inr (.inr rfl)
     . exact sK_ x y
theorem AV_:∀ (x y:List Str),Rng (eh_ x y)
 | [],[]=>by grind[eh_,Rng]
 | [],b::y=>by grind[eh_,Rng]
 | a::x,[]=>by grind[eh_,Rng]
 | a::x,b::y=>by
   rw[eh_]
   split
   . exact AV_ x y
   grind[sK_]
namespace Con
theorem ut_:∀ (n:Nat),(∀ a b:Con,a.sz<=n->Rng (cmp a b))->∀ xs ys:List Con,(∀ p∈xs,p.sz<=n)->Rng (cmp.cmps xs ys)
 | n,h,[],[],_=>by grind[cmp.cmps,Rng]
 | n,h,[],b::y,_=>by grind[cmp.cmps,Rng]
 | n,h,a::x,[],_=>by grind[cmp.cmps,Rng]
 | n,h,a::x,b::y,hs=>by
   rw[cmp.cmps]
   split
   . exact ut_ n h x y λp d=>hs p (yaN_ _ d)
   grind
theorem cmp_rng:∀ (n:Nat) (a b:Con),a.sz<=n->Rng (cmp a b)
 | 0,a,b,h=>by grind[sz_pos]
 | n+1,a,b,h=>by
   rw[cmp_eq];refine sa_ λz d=>?_;simp only[yar_,yav_,ybg_]at d;rcases d with rfl|rfl|rfl|rfl|rfl|rfl
   . grind[mP_]
   . grind[mP_]
   . grind[sK_]
   . grind[mP_]
   . grind[mP_]
   . exact ut_ n (λa b h=>cmp_rng n a b h) _ _ λp e=>by have:=sz_part e;omega
end Con
theorem Ax.cmp_rng (x y:Ax):Rng (cmp x y):=by
 unfold cmp;refine sa_ λz d=>?_;simp only[yar_,yav_,ybg_]at d;rcases d with rfl|rfl|rfl|rfl|rfl|rfl|rfl|rfl
 .grind[mP_]
 .grind[mP_]
 .exact Con.cmp_rng _ _ _ (yab_ _)
 .exact Con.cmp_rng _ _ _ (yab_ _)
 all_goals grind[AV_,sK_]
theorem Ax.cmp_m1 {x y:Ax}:cmp x y=-1↔cmp x y<0:=by
  grind[cmp_rng,Rng]
end Go.Vs
namespace Go.Proofs.YtbffkokbdeppaaaGreatDoor
open Go Go.Sx Go.Proofs Tryz
attribute [local irreducible] Code.wp wpList wpAnyH
open Go.Vs
theorem qQ_ (l:List Ax) (ad:Ao) (cap:Nat) (d:l.length<=2199023255488) (k:∀ x∈l,x.ok) {p:List Pc} {er:Int} (e:aX_ l=(p,er)) :
    Tri prog 66 #[.slice ad l.length cap] [] [bA_ ad l,cy_] (λy:{y:Ao×Nat // p.length<=y.2/\y.2<=maxLen/\(y.1=none->y.2=0)}=>.tuple #[.slice y.1.1 p.length y.1.2,i4_ er]) (λ_=>[]) (λy=>[O_ y.1.1 (p.flatMap Pc.cells)]):=by
  have h:=qR_ l ad cap d k;generalize aX_ l=g at h e
  subst e;exact h
def MpR (l:List Ax) (P:List Pc) (e:Int):Prop:=∃ e0,BCk l e0/\((e0≠0/\e=e0/\P=[])\/(e0=0/\e=(aX_ l).2/\P=(aX_ l).1))
def ExR (l:List Ax) (S:List Str) (X:List Ax) (e:Int):Prop:=∃ e0,BCk l e0/\((e0≠0/\e=e0/\X=[])\/(e0=0/\(aX_ l).2≠0/\e=(aX_ l).2/\X=[])\/(e0=0/\(aX_ l).2=0/\eO_ S=false/\e=1/\X=[])\/
    (e0=0/\(aX_ l).2=0/\eO_ S=true/\e=0/\X=dB_ l (dE_ l (aX_ l).1 S l.length)))
theorem ExR.er {l:List Ax} {S:List Str} {P:List Pc} {e:Int} (h:MpR l P e) (o:e≠0):ExR l S [] e:=by
 obtain⟨d,k,h|h⟩:=h
 .exact⟨d,k,.inl ⟨h.1,h.2.1,rfl⟩⟩
 exact⟨d,k,.inr (.inl ⟨h.1,by grind,h.2.1,rfl⟩)⟩
theorem MpR.ok {l:List Ax} {P:List Pc} {e:Int} (h:MpR l P e) (o:e=0):BCk l 0/\(aX_ l).2=0/\P=(aX_ l).1:=by
  obtain⟨d,k,h|h⟩:=h
  all_goals grind
theorem ExR.arg {l:List Ax} {S:List Str} {P:List Pc} {e:Int} (h:MpR l P e) (d:e=0) (k:eO_ S=false):ExR l S [] 1:=by
  obtain⟨u,o,v⟩:=h.ok d;exact⟨0,u,.inr (.inr (.inl ⟨rfl,o,k,rfl,rfl⟩))⟩
theorem ExR.ok {l:List Ax} {S:List Str} {P:List Pc} {e:Int} (h:MpR l P e) (d:e=0) (k:eO_ S=true):ExR l S (dB_ l (dE_ l P S l.length)) 0:=by
  obtain⟨u,o,v⟩:=h.ok d;exact⟨0,u,.inr (.inr (.inr ⟨rfl,o,k,rfl,by rw[v]⟩))⟩
theorem jD_ {l:List Ax} {p:List Pc} {er:Int} (hl:l.length<=12) (h:aX_ l=(p,er)):p.length<=16384:=by
  have d:∀ (l:List Ax) (i:Nat) (p q:List Pc),p.length<=16384->gX_ i l p=some q->q.length<=16384:=by
    intro l
    induction l<;>grind[gX_]
  grind[aX_]
def SmR (l m:List Ax) (b:Bool):Prop:=l=m->b=true
theorem tO_ (l:List Ax) (ad:Ao) (cap:Nat) (A:∀ x∈l,x.ok) (B:l.length<=12):Tri prog 37 #[.agg #[.slice ad l.length cap]] [] [bA_ ad l,cy_] (λy:{y:Ao×Nat×List Pc×Int // MpR l y.2.2.1 y.2.2.2/\y.2.2.1.length<=16384}=>.tuple #[.slice y.1.1 y.1.2.2.1.length y.1.2.1,i4_ y.1.2.2.2]) (λ_=>[]) (λy=>[O_ y.1.1 (y.1.2.2.1.flatMap Pc.cells)]):=by
 refine l_ func37 rfl rfl ntmps37 rfl λH=>?_;obtain⟨⟨p,er⟩,e⟩:∃ q,aX_ l=q:=⟨_,rfl⟩;refine Zz 2 ?_;refine Q_ rfl rfl λI=>Zz 8 ?_
 refine d_ (or_ l ad cap A zaa_) rfl e_ zf rfl λ⟨o,k⟩=>?_;dsimp only;refine Zi 6 (λd=>?_) λd=>?_
 .refine Zz 9 ?_
  refine d_ (qQ_ l ad cap zaa_ A e) rfl e_ zf rfl λ⟨⟨G,u⟩,F,C,E⟩=>?_;dsimp only;refine Zz 7 ?_;exact gN_ results37 ⟨(G,u,p,er),⟨o,k,.inr ⟨by simpa using d,by rw[e],by rw[e]⟩⟩,jD_ B e⟩ rfl rfl rfl e_ zf
 refine Zz 11 ?_;exact gN_ results37 ⟨(none,0,[],o),⟨o,k,.inl ⟨by simpa using d,rfl,rfl⟩⟩,by simp⟩ rfl rfl rfl e_ (λv _ h=>by exact⟨.inl rfl,trivial⟩)
theorem yu_ (l:List Ax) (ad:Ao) (cap:Nat) (O:∀ x∈l,x.ok) (I:l.length<=12) (S:List Str) (sad:Ao) (k:Nat) (V:S.length<=100000000) (H:∀ s∈S,s.length<=100000):Tri prog 10 #[.agg #[.slice ad l.length cap],.slice sad S.length k] [] [bA_ ad l,cy_,O_ sad (S.flatMap V_)] (λy:{y:Value×Hp×List Ax×Int // av_ 30 16 y.1 y.2.2.1.length (y.2.2.1.flatMap Ax.cells) y.2.1/\ExR l S y.2.2.1 y.2.2.2}=>.tuple #[.agg #[y.1.1],i4_ y.1.2.2.2]) (λy=>y.1.2.1) (λ_=>[]):=by
 refine l_ func10 rfl rfl ntmps10 rfl λR=>?_;refine Zz 2 ?_;refine Q_ rfl rfl λT=>K_ cE_ rfl λQ=>Zz 6 ?_
 refine d_ (tO_ l ad cap O I) rfl e_ zf rfl λ⟨⟨M,C,P,G⟩,o,L⟩=>?_;dsimp only;try dsimp only at o L
 refine Zi 11 (λd=>?_) λd=>?_
 .refine Zz 9 ?_
  refine U_ (vY_ S sad k H) rfl e_ zf rfl λK u=>c_ (aI_ rfl) rfl (Zz 2 ?_)
  cases K
  .refine Zz 3 ?_
   refine c_ (x_ fv_ rfl rfl) rfl (o_ 0 ap_ rfl rfl rfl rfl rfl rfl (Zz 4 ?_));exact cs_ ⟨(.slice none 0 0,[],[],1),av_.nil _ _,ExR.arg o zbe_ zbQ_⟩ (λE v h e=>br_ (us:=[.slice none 0 0]) 0 results10 ca_ ap_ rfl rfl rfl rfl E v h e) e_ zt
  refine Zz 9 ?_;refine d_ (vl_ l ad cap P M C S sad k zaa_ zaa_ zaa_) rfl e_ zf rfl λ⟨⟨B,J,U⟩,A,F⟩=>?_;dsimp only;dsimp only at A F ⊢;subst F;refine s_ (aL_ (ae_ f_) (cg_ bS_)) (o_ 0 ap_ rfl rfl rfl rfl rfl zbB_ ?_);refine Zz 4 ?_;exact cs_ ⟨(B,J,(dB_ l (dE_ l P S l.length)),0),A,ExR.ok o zbe_ zbQ_⟩ (λE v h e=>br_ (us:=[B]) 0 results10 ca_ ap_ rfl rfl rfl rfl E v h e) (g_ ah_) zt
 refine Zz 5 ?_;refine c_ (x_ fv_ rfl rfl) rfl (Zz 1 ?_);refine o_ 0 ap_ rfl rfl rfl rfl rfl rfl (Zz 4 ?_);exact cs_ ⟨(.slice none 0 0,[],[],G),av_.nil _ _,ExR.er o zbe_⟩ (λE v h e=>br_ (us:=[.slice none 0 0]) 0 results10 ca_ ap_ rfl rfl rfl rfl E v h e) e_ zt
theorem xw_ (l:List Ax) (ad:Ao) (cap:Nat) (m:List Ax) (A:Ao) (B:Nat) (P:∀ x∈l,x.ok) (L:∀ x∈m,x.ok) (Q:∀ x∈l,x.left.sz<=1000/\x.right.sz<=1000) (G:∀ x∈m,x.left.sz<=1000/\x.right.sz<=1000) (R:l.length<=1000000):Tri prog 44 #[.slice ad l.length cap,.slice A m.length B] [] [bA_ ad l,bA_ A m] (λy:{b:Bool // SmR l m b}=>.bool y.1) (λ_=>[]) (λ_=>[]):=by
 refine l_ func44 rfl rfl ntmps44 rfl λS=>?_;refine Zi 12 (λJ=>?_) λJ=>?_
 .refine Zz 12 ?_
  refine Y_ (ι:={y:Nat // y<=List.length l}) (λy=>[(0,.slice ad l.length cap),(1,.slice A m.length B),(4,.bool false),(5,i4_ y.1)]) (λy=>([])) (λy=>[bA_ ad l,bA_ A m]) (λy=>l.length - y.1) ⟨(0:Nat),by simp⟩ zl e_ zh ?_;rintro ⟨i,H⟩;dsimp only at H ⊢;refine Zi 6 (λK=>?_) λK=>?_
  .refine Zz 11 ?_
   exact W_ results44 ⟨true,λ_=>rfl⟩ rfl e_ zt
  obtain⟨F,u,I,d⟩:=zge (show i<l.length by omega);have E:i<m.length:=by omega
  obtain⟨k,o⟩:∃ M,m[i]? = some M:=⟨_,yaa_ E⟩;have e:k∈m:=yad_ o;refine Zz 9 ?_;refine C_ 2 [0,1,2,3,4,5,6,7] zk zs (Zz 9 ?_);refine j_ 8 rfl zk (U_ (qI_ u k (P u d) (L k e) (Q u d).1 (Q u d).2 (G k e).1 (G k e).2) rfl e_ (λv _ h=>by exact⟨(h.1.2 u d),(h.2.1.2 k e),trivial⟩) rfl λO C=>Zz 3 ?_);refine C_ 0 [9] zk zs (G_ rfl (aI_ rfl) rfl (Zz 3 ?_));cases O
  .refine Zz 7 ?_
   exact W_ results44 ⟨false,λq=>by subst q;rw[I]at o;cases o;rw[Ax.cmp_self]at C;simp at C⟩ rfl e_ zt
  refine Zz 9 ?_;exact w_ ⟨i+1,F⟩ zae_ zl e_ zh
 refine Zz 9 ?_;exact W_ results44 ⟨false,λq=>by subst q;exact absurd rfl zaa_⟩ rfl e_ zt
theorem rW_ (l:List Ax) (ad:Ao) (cap:Nat) (m:List Ax) (e:Ao) (d:Nat) (k:∀ x∈l,x.ok) (h:∀ x∈m,x.ok) (F:∀ x∈l,x.left.sz<=1000/\x.right.sz<=1000) (u:∀ x∈m,x.left.sz<=1000/\x.right.sz<=1000) (v:l.length<=1000000):Tri prog 12 #[.agg #[.slice ad l.length cap],.agg #[.slice e m.length d]] [] [bA_ ad l,bA_ e m] (λy:{b:Bool // SmR l m b}=>.bool y.1) (λ_=>[]) (λ_=>[]):=by
  refine l_ func12 rfl rfl ntmps12 rfl λA=>?_;refine Zz 2 ?_;refine Q_ rfl rfl λB=>Q_ rfl rfl λC=>Zz 9 ?_
  refine d_ (xw_ l ad cap m e d k h F u v) rfl e_ zf rfl λ⟨E,o⟩=>?_;dsimp only;refine Zz 4 ?_;exact W_ results12 ⟨E,o⟩ rfl e_ zt
theorem uz_ {l:List Ax} (h:BCk l 0):axE l=0/\hW_ l/\l.length<=1024/\(∀ x∈l,¬ ms_ x)/\RlR l 0:=by
  rcases h with⟨k,d⟩|⟨_,_,u⟩|⟨_,_,_,e⟩|⟨_,_,_,_,o⟩|h
  all_goals grind
theorem ExR.sub {l X:List Ax} {S:List Str} {e:Int} (h:ExR l S X e):∀ x∈X,x∈l:=by
  obtain⟨d,k,h|h|h|h⟩:=h
  all_goals grind[qS_]
theorem ExR.len {l X:List Ax} {S:List Str} {e:Int} (h:ExR l S X e):X.length<=l.length:=by
 obtain⟨d,k,h|h|h|h⟩:=h
 .grind
 .grind
 .grind
 rw[h.2.2.2.2];exact yaI_ (ycv_ _ _) (gV_ _)
structure InsI (l:List Con) (c:Con) (i:Nat) (R:List Con) (dn:Bool):Prop where
  sub:∀ z∈R,z∈l\/z=c
  len:R.length<=i+1
  no:dn=false->R=l.take i/\∀ x∈l.take i,0<Con.cmp c x
  yes:dn=true->Con.SrC l->Con.SrC (R++l.drop i)/\∀ z,z∈(R++l.drop i).map Con.core↔z∈l.map Con.core\/z=c.core
def Bf_ (l:List Con) (c:Con) (R:List Con):Prop:=(∀ z∈R,z∈l\/z=c)/\R.length<=l.length+1/\(Con.SrC l->Con.SrC R/\∀ z,z∈R.map Con.core↔z∈l.map Con.core\/z=c.core)
theorem InsI.nil {l:List Con} {c:Con}:InsI l c 0 [] false:=⟨by simp,by simp,λ_=>⟨rfl,by simp⟩,λq=>by cases q⟩
theorem InsI.sn {l:List Con} {c x:Con} {i:Nat} {R:List Con} {e:Bool} (h:InsI l c i R e) (k:l[i]? = some x):∀ z∈R++[x],z∈l\/z=c:=λz d=>by
 rcases yaj_.1 d with d|d
 .exact h.sub z d
 grind
theorem InsI.t {l:List Con} {c x:Con} {i:Nat} {R:List Con} (h:InsI l c i R true) (e:l[i]? = some x):InsI l c (i+1) (R++[x]) true :=
  ⟨h.sn e,by have:=h.len;grind,λq=>zbX_,λ_ d=>by
    have:=h.yes rfl d
    grind[fd_]⟩
theorem InsI.eq {l:List Con} {c x:Con} {i:Nat} {R:List Con} {k:Bool} (h:InsI l c i R k) (d:l[i]? = some x) (u:Con.cmp c x=0):InsI l c (i+1) (R++[x]) true:=by
  cases k with
  | true=>exact h.t d
  | false =>
    refine⟨h.sn d,by have:=h.len;grind,λq=>zbX_,λ_ o=>?_⟩;have e:R++[x]++l.drop (i+1)=l:=by rw[(h.no rfl).1,yak_,List.singleton_append,<-fd_ d,yaQ_]
    grind[Con.cmp_zero]
theorem InsI.lt {l:List Con} {c x:Con} {i:Nat} {R:List Con} (h:InsI l c i R false) (A:l[i]? = some x) (B:Con.cmp c x<0) (hl:R.length<=i):InsI l c (i+1) ((R++[c])++[x]) true:=by
 obtain⟨v,o⟩:=h.no rfl;refine⟨λz E=>?_,by grind,λq=>zbX_,λ_ d=>?_⟩
 .grind
 have e:R++[c]++[x]++l.drop (i+1)=l.take i++c::l.drop i:=by grind[fd_]
 have y:l=l.take i++l.drop i:=(yaQ_ i l).symm;rw[e];constructor
 .unfold Con.SrC at d ⊢
  rw[y,ybX_]at d;rw[ybX_,yaX_];refine⟨d.1,⟨λb u=>?_,d.2.1⟩,λa C b u=>?_⟩
  all_goals grind[fd_,Con.cmp_lt,Con.cmp_anti]
 intro z;have k:z∈l.map Con.core↔z∈(l.take i).map Con.core\/z∈(l.drop i).map Con.core:=by rw[<-yaj_,<-yaz_,yaQ_]
 rw[k,yaz_,yaj_,yaE_,yar_];constructor
 all_goals grind
theorem InsI.gt {l:List Con} {c x:Con} {i:Nat} {R:List Con} {d:Bool} (h:InsI l c i R d) (e:l[i]? = some x) (y:Con.cmp c x≠0) (v:¬ Con.cmp c x<0):InsI l c (i+1) (R++[x]) d:=by
  cases d with
  | true=>exact h.t e
  | false =>
    obtain⟨k,o⟩:=h.no rfl;refine⟨h.sn e,by grind,λ_=>⟨by grind[take_snoc],λz u=>?_⟩,λq=>by cases q⟩;rw[take_snoc e,yaj_,yal_]at u
    grind
theorem InsI.fine {l:List Con} {c:Con} {i:Nat} {R:List Con} (h:InsI l c i R true) (hi:l.length<=i) (e:i<=l.length):Bf_ l c R:=by
  refine⟨h.sub,by have:=h.len;omega,λd=>?_⟩;have:=h.yes rfl d
  grind
theorem InsI.last {l:List Con} {c:Con} {i:Nat} {R:List Con} (h:InsI l c i R false) (hi:l.length<=i):Bf_ l c (R++[c]):=by
  obtain⟨d,e⟩:=h.no rfl;rw[yac_ hi]at d e;subst d;refine⟨λz o=>?_,by simp,λk=>⟨?_,λz=>?_⟩⟩
  all_goals grind[Con.SrC,Con.cmp_anti]
theorem InsI.short {l:List Con} {c:Con} {i:Nat} {R:List Con} (h:InsI l c i R false):R.length<=i:=by rw[(h.no rfl).1];grind
theorem nX_ {G:Prop} (h:G:=by
 refine p_ z_ i_ ay_ rfl rfl rfl rfl rfl rfl λP=>?_;refine am_ (news:=List.flatMap Con.cells [d]) hw_ k rfl rfl (g_ ah_) rfl (aO_ 0 rfl) (λu K=>aF_ Con.cells_one K) zaw_ zaB_ rfl λo B C=>?_;refine s_ yah_ ?_;have e:=zsa C;refine Zz 9 ?_;exact w_ ⟨(i+1,(O++[d]),true,o,B),E,(F.eq G Y),e⟩ zae_ zl (E_ (g_ f_) ah_) zh):G:=h
theorem zy_ (l:List Con) (ad:Ao) (cap:Nat) (c:Con) (hok:∀ x∈l,x.ok) (hc:c.ok) (hcs:c.sz<=1000) (a4:∀ x∈l,x.sz<=1000) (hll:l.length<=100000):Tri prog 347 #[.slice ad l.length cap,Con.val c] [] [O_ ad (l.flatMap Con.cells),et_ l,Con.memF c] (λy:{y:List Con×Ao×Nat // Bf_ l c y.1/\y.1.length<=y.2.2}=>.slice y.1.2.1 y.1.1.length y.1.2.2) (λ_=>[]) (λy=>[O_ y.1.2.1 (y.1.1.flatMap Con.cells)]):=by
 refine l_ func347 rfl rfl ntmps347 rfl λv_1=>?_;refine Zz 2 ?_;refine Q_ rfl rfl λa1=>Zz 5 ?_
 refine dc_ z_ i_ rfl λR=>s_ f_ (Zz 3 ?_)
 refine s_ (cg_ bS_) (Zz 12 ?_);refine Y_ (ι:={y:Nat×List Con×Bool×Value×Hp // y.1<=List.length l/\InsI l c y.1 y.2.1 y.2.2.1/\zR 28 5 Con.cells y.2.2.2.1 y.2.1 y.2.2.2.2}) (λy=>[(0,.slice ad l.length cap),(3,zp_ a1 0),(4,.slice none 0 0),(5,y.1.2.2.2.1),(6,.bool y.1.2.2.1),(7,i4_ y.1.1)]) (λy=>((a1,.cells (Con.cells c).toArray 28 (0,0))::y.1.2.2.2.2)) (λy=>[O_ ad (l.flatMap Con.cells),et_ l,Con.memF c]) (λy=>l.length - y.1.1) ⟨((0:Nat),([]:List Con),false,(.slice (some ⟨R,0,none⟩) 0 0),[(R,.cells #[] 28 (0,0))]),by simp,InsI.nil,(dr_ R 28 5)⟩ zl zp zh ?_;rintro ⟨⟨i,O,dn,sv_RO,H_RO⟩,Z,F,k⟩;dsimp only at Z F k ⊢;refine Zi 6 (λQ=>?_) λQ=>?_
 .refine Zz 9 ?_
  refine c_ (aI_ rfl) rfl (Zz 2 ?_);cases dn
  .refine Zz 4 ?_
   refine p_ z_ i_ ay_ rfl rfl rfl rfl rfl rfl λP=>?_;refine am_ (news:=List.flatMap Con.cells [c]) hw_ k rfl rfl (g_ ah_) rfl (aO_ 0 rfl) (λu K=>aF_ Con.cells_one K) zaw_ zaB_ rfl λo B Q=>?_;refine s_ yah_ ?_;have e:=zsa Q;refine Zz 10 ?_;refine I_ e (g_ ah_) λS M L I U T=>?_;exact W_ results347 ⟨((O++[c]),S,M),(F.last zaa_),I⟩ (cw_ rfl L) e_ zf
  refine Zz 10 ?_;refine I_ k ah_ λS M L I U T=>?_;exact W_ results347 ⟨(O,S,M),(F.fine zaa_ zaa_),I⟩ (cw_ rfl L) e_ zf
 obtain⟨E,d,G,J⟩:=zge (show i<l.length by omega);refine Zz 9 ?_;refine C_ 2 [0,1,2,3,4] zk zs (Zz 6 ?_);refine j_ 5 rfl zk (d_ (gO_ _ c d (yab_ _) hc (hok d J) hcs (a4 d J)) rfl e_ (λv _ h=>by exact⟨h.2.2.1,(h.2.1 d J),trivial⟩) rfl λ_=>Zz 3 ?_);refine C_ 0 [6] zk zs (Zi 8 (λH=>?_) λH=>?_)
 .have a3:Con.cmp c d≠0:=by simpa using H
  refine Zi 9 (λA=>?_) λA=>?_
  .have V:¬ Con.cmp c d<0:=by simpa using A
   refine Zz 15 ?_;refine p_ z_ i_ ay_ rfl rfl rfl rfl rfl rfl λP=>?_;refine am_ (news:=List.flatMap Con.cells [d]) hw_ k rfl rfl (g_ ah_) rfl (aO_ 0 rfl) (λu K=>aF_ Con.cells_one K) zaw_ zaB_ rfl λo B H=>?_;refine s_ yah_ ?_;have e:=zsa H;refine Zz 9 ?_;exact w_ ⟨(i+1,(O++[d]),dn,o,B),E,(F.gt G a3 V),e⟩ zae_ zl (E_ (g_ f_) ah_) zh
  have W:Con.cmp c d<0:=by simpa using A
  refine Zz 4 ?_;refine c_ (aI_ rfl) rfl (Zz 3 ?_);cases dn
  .refine Zz 5 ?_
   refine p_ z_ i_ ay_ rfl rfl rfl rfl rfl rfl λP=>?_;refine am_ (news:=List.flatMap Con.cells [c]) hw_ k rfl rfl (g_ ah_) rfl (aO_ 0 rfl) (λu K=>aF_ Con.cells_one K) zaw_ zaB_ rfl λo B A=>?_;refine s_ yah_ ?_;have e:=zsa A;refine Zz 13 ?_;refine p_ z_ i_ ay_ rfl rfl rfl rfl rfl rfl λb_4=>?_;refine am_ (news:=List.flatMap Con.cells [d]) hw_ e rfl rfl (g_ (g_ ah_)) rfl (aO_ 0 rfl) (λu K=>aF_ Con.cells_one K) zaw_ zaB_ rfl λa2 a0 C=>?_;refine s_ yah_ ?_;have X:=zsa C;refine Zz 9 ?_;exact w_ ⟨(i+1,((O++[c])++[d]),true,a2,a0),E,(InsI.lt F G W F.short),X⟩ zae_ zl (E_ (g_ (g_ f_)) (g_ ah_)) zh
  refine Zz 9 ?_;refine p_ z_ i_ ay_ rfl rfl rfl rfl rfl rfl λP=>?_;refine am_ (news:=List.flatMap Con.cells [d]) hw_ k rfl rfl (g_ ah_) rfl (aO_ 0 rfl) (λu K=>aF_ Con.cells_one K) zaw_ zaB_ rfl λo B C=>?_;refine s_ yah_ ?_;have e:=zsa C;refine Zz 9 ?_;exact w_ ⟨(i+1,(O++[d]),true,o,B),E,(F.t G),e⟩ zae_ zl (E_ (g_ f_) ah_) zh
 have Y:Con.cmp c d=0:=by simpa using H
 refine Zi 11 (λA=>?_) λA=>?_
 .have V:¬ Con.cmp c d<0:=by simpa using A
  refine Zz 15 ?_;exact nX_
 have W:Con.cmp c d<0:=by simpa using A
 refine Zz 4 ?_;refine c_ (aI_ rfl) rfl (Zz 12 ?_);exact nX_
end Go.Proofs.YtbffkokbdeppaaaGreatDoor
namespace Go.Vs.Con
open Go Go.Sx
def NT (c:Con):Prop:=c.kind=5->∀ p∈c.parts,p.kind≠1/\p.kind≠5
theorem NT.core {a b:Con} (h:a.core=b.core) (v:NT b):NT a:=λx p k=>by
  have u:=Go.Vs.Con.core_kind h;have d:=yag_ parts h;rw[core_parts,core_parts]at d;obtain⟨q,o,e⟩:=yaM_.1 (d▸yaU_ (f:=Con.core) k);have:=v zaa_ q o
  grind[core_kind]
theorem Ay_ {c:Con} (h:NT c):∀ z∈flat1 c,z.kind≠1/\z.kind≠5:=λz d=>by
 unfold flat1 at d
 split at d
 .simp at d
 split at d
 .rename_i k e;exact h e z d
 grind
theorem zW_ {s:List Con} (h:∀ z∈s,z.kind≠1/\z.kind≠5):NT (meetF s).1:=by
 unfold meetF
 split
 .rename_i b k
  intro d
  grind
 split
 .intro d;exact absurd d zaj_
 .rename_i x _
  intro d
  grind
 split
 .intro d;exact absurd d zaj_
 intro _ p e;exact h p e
theorem tdy_nt:∀ (n:Nat) (c:Con),c.sz<=n->NT c.tdy.1
 | 0,c,h=>by grind[sz_pos]
 | n+1,c,h=>by
   have A:∀ p∈c.parts,NT p.tdy.1:=λp k=>tdy_nt n p zbT_
   by_cases o:c.kind=6
   . rw[rR_,yax_ o]
     split
     . rename_i z l x
       have e:z∈c.parts.map tdy:=by grind
       obtain⟨p,k,rfl⟩:=yaM_.1 e
       split
       . grind
       . intro d;grind[kind]
     . intro d;exact absurd d zaj_
   . by_cases u:c.kind=5
     . rw[tdy_and u]
       split
       . intro d;grind[zeroC,kind]
       . refine zW_ λz e=>?_
         obtain⟨y,B,v⟩:=ybe_.1 (tj_ e)
         grind[Ay_]
     . rw[tdy_self u o]
       intro d;grind
end Go.Vs.Con
namespace Go.Proofs.YtbffkokbdeppaaaGreatDoor
open Go Go.Sx Go.Proofs Tryz
attribute [local irreducible] Code.wp wpList wpAnyH
open Go.Vs
structure RsI (G R:List Con):Prop where
  srt:Con.SrC R
  mem:∀ z,z∈R.map Con.core↔z∈G.map Con.core
  sub:∀ z∈R,z∈G
  len:R.length<=G.length
theorem RsI.nil:RsI [] []:=⟨List.Pairwise.nil,λz=>Iff.rfl,by simp,by simp⟩
theorem RsI.ins {G R Q:List Con} {c:Con} (h:RsI G R) (hi:Bf_ R c Q):RsI (G++[c]) Q:=by
 obtain⟨d,u,k⟩:=hi;obtain⟨e,o⟩:=k h.srt;refine⟨e,λz=>?_,λz v=>?_,by have:=h.len;grind⟩
 .rw[o z,h.mem z,yaz_,yaj_];simp
 rcases d z v with q|q
 .exact yaG_ _ (h.sub z q)
 grind
theorem Ax_ {l:List Con} {i:Nat} {x:Con} (d:l[i]? = some x):(l.take (i+1)).flatMap Con.flat1=(l.take i).flatMap Con.flat1++Con.flat1 x:=by rw[take_snoc d,yan_];simp
theorem Aw_ {x:Con} (h:x.kind=1):Con.flat1 x=[]:=by grind[Con.flat1]
theorem ui_ {x:Con} (h:x.kind=5):Con.flat1 x=x.parts:=by grind[Con.flat1]
theorem uh_ {x:Con} (d:x.kind≠1) (e:x.kind≠5):Con.flat1 x=[x]:=by grind[Con.flat1]
def CjR (l:List Con) (y:Con×Int):Prop:=y.2=(Con.meetF (Con.srtC (l.flatMap Con.flat1))).2/\(y.2=0->y.1.core=(Con.meetF (Con.srtC (l.flatMap Con.flat1))).1.core/\y.1.ok)
theorem RsI.done {l R:List Con} {q:Con} {e:Int} (h:RsI (l.flatMap Con.flat1) R) (hm:Con.meetF R=(q,e)) (d:e=0->q.ok):CjR l (q,e):=by
  have v:=Con.srtC_uniq h.srt h.mem;obtain⟨k,o⟩:=iq_ v;rw[hm]at k o;exact⟨k,λu=>⟨o,d u⟩⟩
theorem iu_ {l:List Con} (d:∀ x∈l,x.ok):∀ z∈l.flatMap Con.flat1,z.ok:=by grind[Con.flat1,Con.ok_part]
theorem hT_:∀ l:List Con,Con.sz.szs (l.flatMap Con.flat1)<=Con.sz.szs l
  | []=>by grind
  | x::l=>by
    rw[yaR_,Con.szs_app];have d:=Con.flat1_sz x;have e:=hT_ l
    grind[Con.sz.szs]
theorem fU_ {l:List Con} {v:Vw} (h:(et_ l).p v):(et_ (l.flatMap Con.flat1)).p v:=λz d=>by
 obtain⟨y,e,d⟩:=ybe_.1 d;unfold Con.flat1 at d
 split at d
 .simp at d
 split at d
 .exact ((Con.mem_iff y v).1 (h y e)).2 z d
 rw[yal_]at d;subst d;exact h z e
theorem zj_ {e:TypeId} {sz n b:Nat} {xs:List Value} (h:xs.length=n*sz) (d:n<=maxLen):av_ e sz (.slice (some ⟨b,0,none⟩) n n) n xs [(b,.cells xs.toArray e (0,0))] :=
  ⟨h,.inr ⟨b,n,xs.toArray,rfl,rfl,yab_ _,d,by omega,by grind⟩⟩
theorem wN_ {l:List Con} {k:Nat} {x:Con} (e:l[k]? = some x) (d:x.kind≠1):(l.take (k+1)).filter (λp=>decide (p.kind≠1))=(l.take k).filter (λp=>decide (p.kind≠1))++[x]:=by
  grind[take_snoc]
theorem fil_no {l:List Con} {k:Nat} {x:Con} (e:l[k]? = some x) (d:x.kind=1):(l.take (k+1)).filter (λp=>decide (p.kind≠1))=(l.take k).filter (λp=>decide (p.kind≠1)):=by
  rw[take_snoc e,ycT_,ycZ_,yam_ zbH_];simp
theorem wP_ {x:Con} (h:x.kind=5) (e:Con.NT x):x.parts.filter (λp=>decide (p.kind≠1))=Con.flat1 x:=by
  rw[ui_ h,List.filter_eq_self];intro p d;simpa using (e h p d).1
theorem wO_ {x:Con} (h:x.kind≠5):[x].filter (λp=>decide (p.kind≠1))=Con.flat1 x:=by
  grind[Aw_,uh_]
theorem fl_in5 {l:List Con} {x p:Con} (e:x∈l) (h:x.kind=5) (d:p∈x.parts):p∈l.flatMap Con.flat1:=by grind[ui_]
theorem fl_in1 {l:List Con} {x p:Con} (k:x∈l) (h:x.kind≠5) (e:p∈[x]) (d:p.kind≠1):p∈l.flatMap Con.flat1:=by
  grind[uh_]
theorem RsI.ext {G d R:List Con} (h:RsI G R) (e:G=d):RsI d R:=e▸h
theorem RsI.in {G R Q:List Con} {c:Con} {A:List Con} (hi:Bf_ R c Q) (e:∀ z∈R,z∈A) (h:c∈A):∀ z∈Q,z∈A:=λz d=>by
  rcases hi.1 z d with q|q
  all_goals grind
theorem pc_ (l:List Con):(l.flatMap Con.flat1).length<=Con.sz.szs l:=by grind[szs_len,hT_]
theorem RsI.done2 {l R:List Con} {q k:Con} {e:Int} (h:RsI (l.flatMap Con.flat1) R) (hm:Con.meetF R=(k,e)) (v:q.core=k.core) (d:e=0->q.ok):CjR l (q,e):=by
  have y:=Con.srtC_uniq h.srt h.mem;obtain⟨o,u⟩:=iq_ y;rw[hm]at o u;exact⟨o,λx=>⟨v.trans u,d x⟩⟩
theorem ux_ {l P:List Con} {x:Con} {i:Nat} (k:l[i]? = some x) (d:P.filter (λp=>decide (p.kind≠1))=Con.flat1 x) (j:Nat):((l.take i).flatMap Con.flat1++(P.take j).filter λp=>decide (p.kind≠1)).length<=Con.sz.szs l:=by
  have h:((P.take j).filter λp=>decide (p.kind≠1)).length<=(Con.flat1 x).length:=by grind[List.take_sublist]
  have e:((l.take (i+1)).flatMap Con.flat1).length=((l.take i).flatMap Con.flat1).length+(Con.flat1 x).length:=by grind[Ax_]
  grind[pc_,szs_take_le]
theorem cj_len {A:Nat->List Con} {G Q:List Con} (d:∀ j,(A j).length<=64) (h:RsI G Q) {j:Nat} (e:G=A j):Q.length<=64:=by
  have:=h.len;grind
theorem nV_ {G:Prop} (h:G:=by
 have B:Con.kind A=1:=by simpa using I
 refine Zz 11 ?_;exact w_ ⟨(k+1,Q,a0,K),E,(hQ.ext (by rw[fil_no e B])),C,Z,W⟩ zae_ zl f_ zh):G:=h
theorem nW_ {G:Prop} (h:G:=by
 dsimp only;try dsimp only at O hnc
 refine Zz 9 ?_;exact w_ ⟨(k+1,N_1,nad,ncap),E,((hQ.ins O).ext (by rw[wN_ e B,yak_])),(RsI.in (G:=[]) O C F),hnc,(cj_len hNl (hQ.ins O) (by rw[wN_ e B,yak_]))⟩ zae_ zl f_ zf):G:=h
theorem BT_ (l:List Con) (ad:Ao) (cap:Nat) (X:∀ x∈l,x.ok) (hNT:∀ x∈l,Con.NT x) (hz:Con.sz.szs l<=64):Tri prog 304 #[.slice ad l.length cap] [] [O_ ad (l.flatMap Con.cells),et_ l] (λy:{y:Con×Int // CjR l y}=>.tuple #[Con.val y.1.1,i4_ y.1.2]) (λ_=>[]) (λy=>[Con.memF y.1.1]):=by
 refine l_ func304 rfl rfl ntmps304 rfl λv_1=>?_;have hll:=szs_len l;refine Zz 2 ?_;refine K_ ay_ rfl λS=>Zz 5 ?_
 refine dc_ z_ i_ rfl λb_2=>s_ f_ (Zz 4 ?_)
 refine s_ (cg_ bS_) (aq_ (I_ (dr_ b_2 28 5) ah_ λrad_1 rcap_1 hrad_1 hcrad_1 hmrad_1 hzrad_1=>?_));obtain⟨rfl,_,rfl⟩:=Value.slice.inj hrad_1;refine Zz 5 ?_;let Pu:Hp:=((S,.cells (Con.cells (Con.mk 0 [] 0 0 none 0 [])).toArray 28 (0,0))::[]);refine Y_ (ι:={y:Nat×List Con×Ao×Nat // y.1<=List.length l/\RsI (List.flatMap Con.flat1 (l.take y.1)) y.2.1/\(∀ z∈y.2.1,z∈(l.flatMap Con.flat1))/\y.2.1.length<=y.2.2.2/\y.2.1.length<=64}) (λy=>[(0,.slice ad l.length cap),(2,zp_ S 0),(3,i4_ 0),(4,.slice y.1.2.2.1 y.1.2.1.length y.1.2.2.2),(5,i4_ y.1.1)]) (λy=>Pu) (λy=>[O_ y.1.2.2.1 (y.1.2.1.flatMap Con.cells),O_ ad (l.flatMap Con.cells),et_ l]) (λy=>l.length - y.1.1) ⟨((0:Nat),([]:List Con),(some ⟨b_2,0,none⟩),0),zak_,RsI.nil,zak_,zak_,zak_⟩ zl f_ zh ?_;rintro ⟨⟨i,R,rad,rcap⟩,hi_i,hR,M,hRc,hRl⟩;dsimp only at hi_i hR M hRc hRl ⊢;refine Zi 6 (λT=>?_) λT=>?_
 .refine Zz 12 ?_
  have hRF:RsI (l.flatMap Con.flat1) R:=hR.ext (by rw[yac_ zaa_]);refine Y_ (ι:={y:Nat // y<=List.length R/\(∀ c∈List.take y R,Con.kind c≠2)}) (λy=>[(0,.slice ad l.length cap),(2,zp_ S 0),(3,i4_ 0),(4,.slice rad R.length rcap),(5,i4_ i),(8,i4_ y.1)]) (λy=>Pu) (λy=>[O_ rad (R.flatMap Con.cells),O_ ad (l.flatMap Con.cells),et_ l]) (λy=>R.length - y.1) ⟨(0:Nat),by simp,zak_⟩ zl f_ zh ?_;rintro ⟨m,hi_m,o⟩;dsimp only at hi_m o ⊢;refine Zi 6 (λJ=>?_) λJ=>?_
  .refine Zi 10 (λH=>?_) λH=>?_
   .refine Zi 10 (λI=>?_) λI=>?_
    .refine Zi 10 (λhr_5=>?_) λhr_5=>?_
     .refine Zz 8 ?_
      refine c_ (x_ ff_ rfl rfl) rfl (o_ 0 i_ rfl rfl rfl rfl rfl rfl (Zz 4 ?_));exact cs_ ⟨((Con.mk 5 [] 0 0 rad rcap R),0),hRF.done2 (rf_ (fq_ λc hc=>o c (by rw[yac_ zaa_];exact hc)) zaa_ zaa_ zaa_) (by rw[Con.core_eq,Con.core_eq];rfl) (λ_=>⟨by decide,by decide,by simp,by decide,by decide,by decide,by decide,hRc,by omega,Con.oks_iff.2 λp hp=>iu_ X p (M p hp)⟩)⟩ (λaa v L o=>br_ (us:=Con.cells (Con.mk 5 [] 0 0 rad rcap R)) 0 wk_ H_ i_ rfl rfl rfl rfl aa v L o) e_ (λv _ h=>by exact⟨(Con.mem_iff (Con.mk 5 [] 0 0 rad rcap R) v).2 ⟨h.1,(show (et_ R).p v from λz hz=>fU_ h.2.2.1 z (M z hz))⟩,trivial⟩)
     refine Zz 5 ?_;refine c_ (x_ ff_ rfl rfl) rfl (o_ 0 i_ rfl rfl rfl rfl rfl rfl (Zz 4 ?_));exact cs_ ⟨(Con.zeroC,2),hRF.done (re_ (fq_ λc hc=>o c (by rw[yac_ zaa_];exact hc)) zaa_ zaa_ zaa_) (λq=>by cases q)⟩ (λaa v L o=>br_ (us:=Con.cells Con.zeroC) 0 wk_ H_ i_ rfl rfl rfl rfl aa v L o) e_ (λv _ h=>by exact⟨(show Con.mem Con.zeroC v from ⟨.inl rfl,trivial⟩),trivial⟩)
    refine Zz 4 ?_;have hlt_1:0<R.length:=by omega
    obtain⟨a2,ht_1⟩:∃ V,R[0]? = some V:=⟨_,yaa_ hlt_1⟩;have hmt_1:a2∈R:=yad_ ht_1;refine Zz 4 ?_;refine o_ 0 i_ rfl rfl rfl rfl rfl rfl (Zz 4 ?_);exact cs_ ⟨(a2,0),hRF.done (rb_ (fq_ λc hc=>o c (by rw[yac_ zaa_];exact hc)) zaa_ ht_1) (λ_=>iu_ X a2 (M a2 hmt_1))⟩ (λaa v L o=>br_ (us:=Con.cells a2) 0 wk_ H_ i_ rfl rfl rfl rfl aa v L o) e_ (λv _ h=>by exact⟨((show (et_ R).p v from λz hz=>fU_ h.2.2.1 z (M z hz)) a2 hmt_1),trivial⟩)
   refine Zz 5 ?_;refine c_ (x_ ff_ rfl rfl) rfl (o_ 0 i_ rfl rfl rfl rfl rfl rfl (Zz 4 ?_));exact cs_ ⟨((Con.mk 1 [] 0 0 none 0 []),0),hRF.done (rc_ (fq_ λc hc=>o c (by rw[yac_ zaa_];exact hc)) zaa_) (λ_=>by simp[Con.ok,Con.ok.oks])⟩ (λaa v L o=>br_ (us:=Con.cells (Con.mk 1 [] 0 0 none 0 [])) 0 wk_ H_ i_ rfl rfl rfl rfl aa v L o) e_ (λv _ h=>by exact⟨(show Con.mem (Con.mk 1 [] 0 0 none 0 []) v from ⟨.inl rfl,trivial⟩),trivial⟩)
  have hlr_1:m<R.length:=by omega
  obtain⟨U,T⟩:∃ V,R[m]? = some V:=⟨_,yaa_ hlr_1⟩;have hmr_1:U∈R:=yad_ T;refine Zi 14 (λH=>?_) λH=>?_
  .have hkr:Con.kind U≠2:=by simpa using H
   refine Zz 11 ?_;exact w_ ⟨m+1,hlr_1,(λc hc=>by rw[take_snoc T,yaj_,yal_]at hc;rcases hc with hc|rfl;exact o c hc;exact hkr)⟩ zae_ zl f_ zh
  have hkr:Con.kind U=2:=by simpa using H
  refine Zz 9 ?_;refine o_ 0 i_ rfl rfl rfl rfl rfl rfl (Zz 4 ?_);exact cs_ ⟨(U,0),hRF.done (rd_ (wM_ (k:=m) o T hkr)) (λ_=>iu_ X U (M U hmr_1))⟩ (λaa v L o=>br_ (us:=Con.cells U) 0 wk_ H_ i_ rfl rfl rfl rfl aa v L o) e_ (λv _ h=>by exact⟨((show (et_ R).p v from λz hz=>fU_ h.2.2.1 z (M z hz)) U hmr_1),trivial⟩)
 obtain⟨hlx_1,d,a1,u⟩:=zge (show i<l.length by omega);refine Zz 13 ?_;refine p_ z_ i_ ay_ rfl rfl rfl rfl rfl rfl λa3=>?_;have hL_1:av_ 28 5 (.slice (some ⟨a3,0,none⟩) 1 1) (List.length [d]) (List.flatMap Con.cells [d]) [(a3,.cells (List.flatMap Con.cells [d]).toArray 28 (0,0))]:=zj_ rfl (by simp[maxLen]);refine s_ f_ (Zz 4 ?_);refine s_ (cg_ bS_) (Zi 7 (λJ=>?_) λJ=>?_)
 .refine Zz 6 ?_
  refine I_ hL_1 ah_ λpad_1 pcap_1 hpad_1 hcpad_1 hmpad_1 hzpad_1=>?_;obtain⟨rfl,_,rfl⟩:=Value.slice.inj hpad_1;refine Zz 5 ?_;have hpk:∀ p∈[d],Con.kind p≠1->p∈(l.flatMap Con.flat1):=λp hp o=>fl_in1 u J hp o
  have hpl:List.length [d]<=64:=by simp
  have hNl:∀ j,List.length ((List.flatMap Con.flat1 (l.take i))++List.filter (λp=>decide (Con.kind p≠1)) (List.take j [d]))<=64:=λj=>by have q_1:=ux_ (l:=l) (x:=d) (i:=i) (P:=[d]) a1 (wO_ J) j;omega
  refine Y_ (ι:={y:Nat×List Con×Ao×Nat // y.1<=List.length [d]/\RsI ((List.flatMap Con.flat1 (l.take i))++(List.filter (λp=>decide (Con.kind p≠1)) (List.take y.1 [d]))) y.2.1/\(∀ z∈y.2.1,z∈(l.flatMap Con.flat1))/\y.2.1.length<=y.2.2.2/\y.2.1.length<=64}) (λy=>[(0,.slice ad l.length cap),(2,zp_ S 0),(3,i4_ 0),(4,.slice y.1.2.2.1 y.1.2.1.length y.1.2.2.2),(5,i4_ i),(6,.slice (some ⟨a3,0,none⟩) (List.length [d]) 1),(7,i4_ y.1.1)]) (λy=>Pu) (λy=>[O_ y.1.2.2.1 (y.1.2.1.flatMap Con.cells),O_ (some ⟨a3,0,none⟩) (List.flatMap Con.cells [d]),O_ ad (l.flatMap Con.cells),et_ l]) (λy=>List.length [d] - y.1.1) ⟨((0:Nat),R,rad,rcap),zak_,(hR.ext zak_),M,hRc,hRl⟩ zl f_ zf ?_;rintro ⟨⟨k,Q,a0,K⟩,hk,hQ,C,Z,W⟩;dsimp only at hk hQ C Z W ⊢;refine Zi 6 (λH=>?_) λH=>?_
  .refine Zz 11 ?_
   exact w_ ⟨(i+1,Q,a0,K),hlx_1,(hQ.ext (by rw[Ax_ a1,<-wO_ J,show List.take k [d]=[d] from yac_ zaa_])),C,Z,W⟩ zae_ zl f_ zf
  have E:k<List.length [d]:=by omega
  obtain⟨A,e⟩:∃ V,[d][k]? = some V:=⟨_,yaa_ E⟩;have Y:A∈[d]:=yad_ e;refine Zz 13 ?_;refine c_ (aS_ (ad:=(some ⟨a3,0,none⟩)) aU_ rfl zf (t_ Con.cells_len e 0 _ rfl)) rfl ?_;refine Zi 0 (λI=>?_) λI=>?_
  .exact nV_
  have B:Con.kind A≠1:=by simpa using I
  have F:=hpk A Y B;refine Zz 8 ?_;refine c_ (ax_ (ad:=(some ⟨a3,0,none⟩)) (us:=Con.cells A) H_ i_ rfl zf (Con.cells_len _) (t_ Con.cells_len e)) rfl (d_ (zy_ Q a0 K A (λx hx=>iu_ X x (C x hx)) (iu_ X A F) (by have q_2:=Con.sz_mem (F);have q_3:=hT_ l;omega) (λx hx=>(by have q_2:=Con.sz_mem (C x hx);have q_3:=hT_ l;omega)) (by have:=pc_ l;omega)) rfl e_ (λv _ h=>by exact⟨h.1,(show (et_ Q).p v from λz hz=>fU_ h.2.2.2.1 z (C z hz)),(fU_ h.2.2.2.1 A F),trivial⟩) rfl λ⟨⟨N_1,nad,ncap⟩,O,hnc⟩=>?_);exact nW_
 refine Zz 18 ?_;have hpk:∀ p∈d.parts,Con.kind p≠1->p∈(l.flatMap Con.flat1):=λp hp o=>fl_in5 u J hp
 have hpl:d.parts.length<=64:=by have q_1:=Con.parts_lt d;have q_2:=Con.sz_mem u;omega
 have hNl:∀ j,List.length ((List.flatMap Con.flat1 (l.take i))++List.filter (λp=>decide (Con.kind p≠1)) (d.parts.take j))<=64:=λj=>by have q_3:=ux_ (l:=l) (x:=d) (i:=i) (P:=d.parts) a1 (wP_ J (hNT d u)) j;omega
 refine Y_ (ι:={y:Nat×List Con×Ao×Nat // y.1<=List.length d.parts/\RsI ((List.flatMap Con.flat1 (l.take i))++(List.filter (λp=>decide (Con.kind p≠1)) (d.parts.take y.1))) y.2.1/\(∀ z∈y.2.1,z∈(l.flatMap Con.flat1))/\y.2.1.length<=y.2.2.2/\y.2.1.length<=64}) (λy=>[(0,.slice ad l.length cap),(2,zp_ S 0),(3,i4_ 0),(4,.slice y.1.2.2.1 y.1.2.1.length y.1.2.2.2),(5,i4_ i),(6,.slice d.ad d.parts.length d.cap),(7,i4_ y.1.1)]) (λy=>Pu) (λy=>[O_ y.1.2.2.1 (y.1.2.1.flatMap Con.cells),O_ ad (l.flatMap Con.cells),et_ l]) (λy=>d.parts.length - y.1.1) ⟨((0:Nat),R,rad,rcap),zak_,(hR.ext zak_),M,hRc,hRl⟩ zl f_ zh ?_;rintro ⟨⟨k,Q,a0,K⟩,hk,hQ,C,Z,W⟩;dsimp only at hk hQ C Z W ⊢;refine Zi 6 (λH=>?_) λH=>?_
 .refine Zz 11 ?_
  exact w_ ⟨(i+1,Q,a0,K),hlx_1,(hQ.ext (by rw[Ax_ a1,<-wP_ J (hNT d u),show List.take k d.parts=d.parts from yac_ zaa_])),C,Z,W⟩ zae_ zl f_ zh
 have E:k<d.parts.length:=by omega
 obtain⟨A,e⟩:∃ V,d.parts[k]? = some V:=⟨_,yaa_ E⟩;have Y:A∈d.parts:=yad_ e;refine Zz 11 ?_;refine c_ (J_ z_ i_ rfl rfl (λv _ h=>az_ (n:=5) Con.cells_len zaj_ (by exact ((Con.mem_iff d v).1 (h.2.2.1 d u)).1) e) zaa_ zah_) rfl ?_;refine Zz 1 ?_;refine c_ (aS_ (ad:=d.ad) aU_ rfl (λv _ h=>by exact ((Con.mem_iff d v).1 (h.2.2.1 d u)).1) (t_ Con.cells_len e 0 _ rfl)) rfl ?_;refine Zi 0 (λI=>?_) λI=>?_
 .exact nV_
 have B:Con.kind A≠1:=by simpa using I
 have F:=hpk A Y B;refine Zz 7 ?_;refine c_ (J_ z_ i_ rfl rfl (λv _ h=>az_ (n:=5) Con.cells_len zaj_ (by exact ((Con.mem_iff d v).1 (h.2.2.1 d u)).1) e) zaa_ zah_) rfl ?_;refine c_ (ax_ (ad:=d.ad) (us:=Con.cells A) H_ i_ rfl (λv _ h=>by exact ((Con.mem_iff d v).1 (h.2.2.1 d u)).1) (Con.cells_len _) (t_ Con.cells_len e)) rfl (d_ (zy_ Q a0 K A (λx hx=>iu_ X x (C x hx)) (iu_ X A F) (by have q_1:=Con.sz_mem (F);have q_2:=hT_ l;omega) (λx hx=>(by have q_1:=Con.sz_mem (C x hx);have q_2:=hT_ l;omega)) (by have:=pc_ l;omega)) rfl e_ (λv _ h=>by exact⟨h.1,(show (et_ Q).p v from λz hz=>fU_ h.2.2.1 z (C z hz)),(fU_ h.2.2.1 A F),trivial⟩) rfl λ⟨⟨N_1,nad,ncap⟩,O,hnc⟩=>?_);exact nW_
end Go.Proofs.YtbffkokbdeppaaaGreatDoor
