/-
  Lemmas for the law ModuleExtracts (no condition).
-/
import Derived.Test.YtbffkokbdeppaaaGreatDoorQModuleExtracts6
import Derived.Test.YtbffkokbdeppaaaGreatDoorProg
import Derived.Lib.ItoaMem
import Derived.Laws.IdiomStrings
set_option linter.unusedVariables false
set_option linter.unusedSimpArgs false
set_option linter.unusedSectionVars false
set_option maxHeartbeats 1000000
namespace Go.Proofs.YtbffkokbdeppaaaGreatDoor
open Go Go.Sx Go.Proofs Tryz
attribute [local irreducible] Code.wp wpList wpAnyH
open Go.Vs
theorem gB_:∀ (m:Nat) (c:Con),c.sz<=m->c.ok->c.sz<=1000->Tri prog 247 #[Con.val c] [] [Con.memF c] (λ_:Unit=>i4_ c.sz) (λ_=>[]) (λ_=>[]):=by
 intro m
 induction m with
 | zero=>intro c h;have:=c.sz_pos;omega
 | succ m ih =>
   intro c hm y H;have E:=Con.ok_len y;refine l_ func247 rfl rfl ntmps247 rfl λC=>?_;refine Zz 2 ?_;refine Q_ rfl rfl λk=>Zz 15 ?_
   have B:=Con.sz_eq c;refine bc_ [(1,zp_ k 0),(3,i4_ 1),(4,i4_ ((0:Nat):Int))] zl ?_;refine bs_ (ι:={z:Nat // z<=c.parts.length}) (λz=>[(1,zp_ k 0),(3,i4_ ((1+Con.sz.szs (c.parts.take z.1):Nat):Int)),(4,i4_ z.1)]) (λ_=>_) (λ_=>_) (λz=>c.parts.length - z.1) ⟨0,by simp⟩ ?_;rintro ⟨i,hi⟩;dsimp only;refine bc_ [(1,zp_ k 0),(3,i4_ ((1+Con.sz.szs (c.parts.take i):Nat):Int)),(4,i4_ i)] zl ?_;refine Zi 7 (λA=>?_) λA=>?_
   . refine Zz 12 ?_;exact W_ results247 () (aV_ rfl (by rw[B,yac_ zaa_])) e_ zt
   . obtain⟨u,x,e,d⟩:=zge (show i<c.parts.length by omega);have G:=Con.sz_part d;have o:=Con.szs_take_le c.parts (i+1);rw[Con.szs_step e]at o;refine Zz 12 ?_;refine c_ (J_ z_ i_ rfl rfl (λv _ h=>az_ (n:=5) Con.cells_len zaj_ zas_ e) zaa_ zah_) rfl ?_;refine c_ (ax_ (ad:=c.ad) (us:=Con.cells x) H_ i_ rfl (λv _ h=>by exact ((Con.mem_iff c v).1 h.1).1) (Con.cells_len _) (t_ Con.cells_len e)) rfl (d_ (ih x zaa_ (Con.ok_part y d) zaa_) rfl e_ (λv _ h=>by exact⟨(Con.mem_part (c:=c) h.1 d),trivial⟩) rfl λ_=>Zz 10 ?_);have F:=Con.szs_step e;exact w_ ⟨i+1,u⟩ zae_ ⟨rfl,(aV_ rfl zae_),rfl,trivial⟩ (.refl _) zh
theorem zA_:∀ (m:Nat) (c:Con),c.sz<=m->c.ok->c.sz<=1000->Tri prog 271 #[Con.val c] [] [Con.memF c] (λ_:Unit=>i4_ c.dep) (λ_=>[]) (λ_=>[]):=by
 intro m
 induction m with
 | zero=>intro c h;have:=c.sz_pos;omega
 | succ m ih =>
   intro c hm x G;have C:=Con.ok_len x;refine l_ func271 rfl rfl ntmps271 rfl λB=>?_;refine Zz 2 ?_;refine Q_ rfl rfl λo=>Zz 15 ?_
   refine bc_ [(1,zp_ o 0),(3,i4_ 0),(4,i4_ ((0:Nat):Int))] zl ?_;refine bs_ (ι:={z:Nat // z<=c.parts.length}) (λz=>[(1,zp_ o 0),(3,i4_ (Con.dep.deps (c.parts.take z.1):Int)),(4,i4_ z.1)]) (λ_=>_) (λ_=>_) (λz=>c.parts.length - z.1) ⟨0,by simp⟩ ?_;rintro ⟨i,hi⟩;dsimp only;refine bc_ [(1,zp_ o 0),(3,i4_ (Con.dep.deps (c.parts.take i):Int)),(4,i4_ i)] zl ?_;refine Zi 7 (λy=>?_) λy=>?_
   . refine Zz 12 ?_;exact W_ results271 () (aV_ rfl (by rw[Con.dep_eq,yac_ zaa_])) e_ zt
   . obtain⟨u,k,e,d⟩:=zge (show i<c.parts.length by omega);have F:=Con.sz_part d;have E:=Con.dep_sz _ k (yab_ _);refine Zz 12 ?_;refine c_ (J_ z_ i_ rfl rfl (λv _ h=>az_ (n:=5) Con.cells_len zaj_ zas_ e) zaa_ zah_) rfl ?_;refine c_ (ax_ (ad:=c.ad) (us:=Con.cells k) H_ i_ rfl (λv _ h=>by exact ((Con.mem_iff c v).1 h.1).1) (Con.cells_len _) (t_ Con.cells_len e)) rfl (d_ (ih k zaa_ (Con.ok_part x d) zaa_) rfl e_ (λv _ h=>by exact⟨(Con.mem_part (c:=c) h.1 d),trivial⟩) rfl λ_=>Zz 1 ?_);refine c_ (Bj_ rfl rfl) rfl (Zz 9 ?_);have A:=Con.deps_step e;exact w_ ⟨i+1,u⟩ zae_ ⟨rfl,(aV_ rfl (by dsimp only;rw[A];split<;>omega)),rfl,trivial⟩ (.refl _) zh
theorem iX_ {G:Prop} (h:G:=by
 exact met ⟨rfl,rfl,rfl,rfl,rfl,rfl,rfl,rfl,rfl,rfl,rfl,rfl,rfl,rfl,rfl,(n_ rfl (jaf d)),trivial⟩):G:=h
theorem iY_ {G:Prop} (h:G:=by
 exact met ⟨rfl,rfl,rfl,rfl,rfl,rfl,rfl,rfl,rfl,rfl,rfl,rfl,rfl,rfl,rfl,rfl,rfl,rfl,rfl,(n_ rfl (jaf d)),trivial⟩):G:=h
theorem ez_ {G:Prop} (h:G:=by
 refine Zz 4 ?_;exact W_ results316 () (n_ rfl (by unfold Con.shapeS;subst_vars;simp[*])) e_ zt):G:=h
theorem zw_ (c:Con):Fn0 prog 316 #[Con.val c] (.bool c.shapeS):=by
 refine l_ func316 rfl rfl ntmps316 rfl λP=>?_;refine Zz 2 ?_;refine Q_ rfl rfl λk=>Zz 7 ?_
 refine A_ (al_ rfl rfl) rfl λO H=>Zz 1 ?_
 refine aB_ 4 ((c.lo==0)&&(c.hi==0)) (λr=>[(0,Con.val c),(1,zp_ k 0),(2,.bool false),(11,.bool r)]) ?_ λh e=>?_
 .cases O
  .have d:=H
   replace H:=znb H;refine Zz 6 ?_;exact met ⟨rfl,rfl,rfl,(n_ rfl (jaf d)),trivial⟩
  have d:=H;replace H:=zeb H;refine Zz 5 ?_;refine A_ (al_ rfl rfl) rfl λE J=>Zz 3 ?_
  exact met ⟨rfl,rfl,rfl,(n_ rfl (jat d J)),trivial⟩
 refine Zi 14 (λJ=>?_) λJ=>?_
 .refine Zi 5 (λF=>?_) λF=>?_
  .refine Zi 7 (λv=>?_) λv=>?_
   .refine Zi 5 (λC=>?_) λC=>?_
    .refine Zi 6 (λG=>?_) λG=>?_
     .refine Zi 6 (λA=>?_) λA=>?_
      .refine Zi 6 (λu=>?_) λu=>?_
       .refine Zz 12 ?_
        exact W_ results316 () (n_ rfl (by unfold Con.shapeS;subst_vars;simp[*])) e_ zt
       refine Zz 9 ?_;refine A_ (al_ rfl rfl) rfl λE o=>Zz 1 ?_
       refine aB_ 4 (((List.length c.parts:Int)==0)&&(decide ((-1099511627776)<=c.lo))) (λr=>[(0,Con.val c),(1,zp_ k 0),(2,.bool false),(11,.bool h),(3,.bool h),(12,zp_ k 0),(13,i4_ c.kind),(15,.bool false),(14,.bool false),(16,.bool false),(30,.bool false),(29,.bool false),(31,.bool false),(40,.bool false),(39,.bool false),(60,.bool false),(59,.bool false),(69,.bool true),(68,.bool true),(78,.bool r)]) ?_ λB x=>?_
       .cases E
        .have d:=o
         replace o:=znb o;refine Zz 6 ?_;exact iY_
        have d:=o;replace o:=zeb o;refine Zz 5 ?_;refine A_ (fc_ rfl rfl) rfl λI y=>Zz 3 ?_
        exact met ⟨rfl,rfl,rfl,rfl,rfl,rfl,rfl,rfl,rfl,rfl,rfl,rfl,rfl,rfl,rfl,rfl,rfl,rfl,rfl,(n_ rfl (jat d y)),trivial⟩
       refine Zz 1 ?_;refine aB_ 6 (((((List.length c.parts:Int)==0)&&(decide ((-1099511627776)<=c.lo))))&&(decide (c.lo<=c.hi))) (λr=>[(0,Con.val c),(1,zp_ k 0),(2,.bool false),(11,.bool h),(3,.bool h),(12,zp_ k 0),(13,i4_ c.kind),(15,.bool false),(14,.bool false),(16,.bool false),(30,.bool false),(29,.bool false),(31,.bool false),(40,.bool false),(39,.bool false),(60,.bool false),(59,.bool false),(69,.bool true),(68,.bool true),(85,.bool r)]) ?_ λI y=>?_
       .cases B
        .have d:=x
         simp at x
         refine Zz 8 ?_;exact iY_
        have d:=x;simp at x
        refine Zz 9 ?_;refine A_ (dx_ rfl rfl) rfl λM K=>Zz 3 ?_
        exact met ⟨rfl,rfl,rfl,rfl,rfl,rfl,rfl,rfl,rfl,rfl,rfl,rfl,rfl,rfl,rfl,rfl,rfl,rfl,rfl,(n_ rfl (jat d K)),trivial⟩
       refine Zz 1 ?_;refine aB_ 4 (((((((List.length c.parts:Int)==0)&&(decide ((-1099511627776)<=c.lo))))&&(decide (c.lo<=c.hi))))&&(decide (c.hi<=1099511627776))) (λr=>[(0,Con.val c),(1,zp_ k 0),(2,.bool false),(11,.bool h),(3,.bool h),(12,zp_ k 0),(13,i4_ c.kind),(15,.bool false),(14,.bool false),(16,.bool false),(30,.bool false),(29,.bool false),(31,.bool false),(40,.bool false),(39,.bool false),(60,.bool false),(59,.bool false),(69,.bool true),(68,.bool true),(90,.bool r)]) ?_ λM K=>?_
       .cases I
        .have d:=y
         simp at y
         refine Zz 6 ?_;exact iY_
        have d:=y;simp at y
        refine Zz 5 ?_;refine A_ (dx_ rfl rfl) rfl λQ L=>Zz 3 ?_
        exact met ⟨rfl,rfl,rfl,rfl,rfl,rfl,rfl,rfl,rfl,rfl,rfl,rfl,rfl,rfl,rfl,rfl,rfl,rfl,rfl,(n_ rfl (jat d L)),trivial⟩
       exact ez_
      refine Zz 8 ?_;refine aB_ 5 ((((c.lo==0)&&(c.hi==0)))&&((List.length c.parts:Int)==1)) (λr=>[(0,Con.val c),(1,zp_ k 0),(2,.bool false),(11,.bool h),(3,.bool h),(12,zp_ k 0),(13,i4_ c.kind),(15,.bool false),(14,.bool false),(16,.bool false),(30,.bool false),(29,.bool false),(31,.bool false),(40,.bool false),(39,.bool false),(60,.bool true),(59,.bool true),(67,.bool r)]) ?_ λE u=>?_
      .cases h
       .have d:=e
        simp at e
        refine Zz 7 ?_;exact met ⟨rfl,rfl,rfl,rfl,rfl,rfl,rfl,rfl,rfl,rfl,rfl,rfl,rfl,rfl,rfl,rfl,rfl,(n_ rfl (jaf d)),trivial⟩
       have d:=e;simp at e
       refine Zz 7 ?_;refine A_ (al_ rfl rfl) rfl λB o=>Zz 3 ?_
       exact met ⟨rfl,rfl,rfl,rfl,rfl,rfl,rfl,rfl,rfl,rfl,rfl,rfl,rfl,rfl,rfl,rfl,rfl,(n_ rfl (jat d o)),trivial⟩
      exact ez_
     refine Zz 8 ?_;refine aB_ 4 ((((c.lo==0)&&(c.hi==0)))&&(c.name==[])) (λr=>[(0,Con.val c),(1,zp_ k 0),(2,.bool false),(11,.bool h),(3,.bool h),(12,zp_ k 0),(13,i4_ c.kind),(15,.bool false),(14,.bool false),(16,.bool false),(30,.bool false),(29,.bool false),(31,.bool false),(40,.bool true),(39,.bool true),(46,.bool r)]) ?_ λE A=>?_
     .cases h
      .have d:=e
       simp at e
       refine Zz 6 ?_;exact iX_
      have d:=e;simp at e
      refine Zz 5 ?_;refine A_ (dR_ rfl rfl) rfl λB u=>Zz 3 ?_
      exact met ⟨rfl,rfl,rfl,rfl,rfl,rfl,rfl,rfl,rfl,rfl,rfl,rfl,rfl,rfl,rfl,(n_ rfl (jat d u)),trivial⟩
     refine Zz 1 ?_;refine aB_ 5 ((((((c.lo==0)&&(c.hi==0)))&&(c.name==[])))&&(decide (2<=(List.length c.parts:Int)))) (λr=>[(0,Con.val c),(1,zp_ k 0),(2,.bool false),(11,.bool h),(3,.bool h),(12,zp_ k 0),(13,i4_ c.kind),(15,.bool false),(14,.bool false),(16,.bool false),(30,.bool false),(29,.bool false),(31,.bool false),(40,.bool true),(39,.bool true),(52,.bool r)]) ?_ λB u=>?_
     .cases E
      .have d:=A
       simp at A
       refine Zz 7 ?_;exact iX_
      have d:=A;simp at A
      refine Zz 7 ?_;refine A_ (fc_ rfl rfl) rfl λI o=>Zz 3 ?_
      exact met ⟨rfl,rfl,rfl,rfl,rfl,rfl,rfl,rfl,rfl,rfl,rfl,rfl,rfl,rfl,rfl,(n_ rfl (jat d o)),trivial⟩
     refine Zz 1 ?_;refine aB_ 5 ((((((((c.lo==0)&&(c.hi==0)))&&(c.name==[])))&&(decide (2<=(List.length c.parts:Int)))))&&(decide ((List.length c.parts:Int)<=8))) (λr=>[(0,Con.val c),(1,zp_ k 0),(2,.bool false),(11,.bool h),(3,.bool h),(12,zp_ k 0),(13,i4_ c.kind),(15,.bool false),(14,.bool false),(16,.bool false),(30,.bool false),(29,.bool false),(31,.bool false),(40,.bool true),(39,.bool true),(58,.bool r)]) ?_ λI o=>?_
     .cases B
      .have d:=u
       simp at u
       refine Zz 7 ?_;exact iX_
      have d:=u;simp at u
      refine Zz 7 ?_;refine A_ (dx_ rfl rfl) rfl λM x=>Zz 3 ?_
      exact met ⟨rfl,rfl,rfl,rfl,rfl,rfl,rfl,rfl,rfl,rfl,rfl,rfl,rfl,rfl,rfl,(n_ rfl (jat d x)),trivial⟩
     exact ez_
    refine Zz 8 ?_;refine aB_ 5 ((((c.lo==0)&&(c.hi==0)))&&((List.length c.parts:Int)==0)) (λr=>[(0,Con.val c),(1,zp_ k 0),(2,.bool false),(11,.bool h),(3,.bool h),(12,zp_ k 0),(13,i4_ c.kind),(15,.bool false),(14,.bool false),(16,.bool false),(30,.bool false),(29,.bool true),(31,.bool true),(38,.bool r)]) ?_ λE G=>?_
    .cases h
     .have d:=e
      simp at e
      refine Zz 7 ?_;exact met ⟨rfl,rfl,rfl,rfl,rfl,rfl,rfl,rfl,rfl,rfl,rfl,rfl,rfl,(n_ rfl (jaf d)),trivial⟩
     have d:=e;simp at e
     refine Zz 7 ?_;refine A_ (al_ rfl rfl) rfl λB A=>Zz 3 ?_
     exact met ⟨rfl,rfl,rfl,rfl,rfl,rfl,rfl,rfl,rfl,rfl,rfl,rfl,rfl,(n_ rfl (jat d A)),trivial⟩
    exact ez_
   refine Zz 11 ?_;refine aB_ 5 ((((c.lo==0)&&(c.hi==0)))&&((List.length c.parts:Int)==0)) (λr=>[(0,Con.val c),(1,zp_ k 0),(2,.bool false),(11,.bool h),(3,.bool h),(12,zp_ k 0),(13,i4_ c.kind),(15,.bool false),(14,.bool false),(16,.bool false),(30,.bool true),(29,.bool true),(38,.bool r)]) ?_ λE C=>?_
   .cases h
    .have d:=e
     simp at e
     refine Zz 7 ?_;exact met ⟨rfl,rfl,rfl,rfl,rfl,rfl,rfl,rfl,rfl,rfl,rfl,rfl,(n_ rfl (jaf d)),trivial⟩
    have d:=e;simp at e
    refine Zz 7 ?_;refine A_ (al_ rfl rfl) rfl λB G=>Zz 3 ?_
    exact met ⟨rfl,rfl,rfl,rfl,rfl,rfl,rfl,rfl,rfl,rfl,rfl,rfl,(n_ rfl (jat d G)),trivial⟩
   exact ez_
  refine Zz 8 ?_;refine aB_ 4 ((((c.lo==0)&&(c.hi==0)))&&(c.name==[])) (λr=>[(0,Con.val c),(1,zp_ k 0),(2,.bool false),(11,.bool h),(3,.bool h),(12,zp_ k 0),(13,i4_ c.kind),(15,.bool false),(14,.bool true),(16,.bool true),(22,.bool r)]) ?_ λE v=>?_
  .cases h
   .have d:=e
    simp at e
    refine Zz 6 ?_;exact met ⟨rfl,rfl,rfl,rfl,rfl,rfl,rfl,rfl,rfl,rfl,(n_ rfl (jaf d)),trivial⟩
   have d:=e;simp at e
   refine Zz 5 ?_;refine A_ (dR_ rfl rfl) rfl λB C=>Zz 3 ?_
   exact met ⟨rfl,rfl,rfl,rfl,rfl,rfl,rfl,rfl,rfl,rfl,(n_ rfl (jat d C)),trivial⟩
  refine Zz 1 ?_;refine aB_ 5 ((((((c.lo==0)&&(c.hi==0)))&&(c.name==[])))&&((List.length c.parts:Int)==0)) (λr=>[(0,Con.val c),(1,zp_ k 0),(2,.bool false),(11,.bool h),(3,.bool h),(12,zp_ k 0),(13,i4_ c.kind),(15,.bool false),(14,.bool true),(16,.bool true),(28,.bool r)]) ?_ λB C=>?_
  .cases E
   .have d:=v
    simp at v
    refine Zz 7 ?_;exact met ⟨rfl,rfl,rfl,rfl,rfl,rfl,rfl,rfl,rfl,rfl,(n_ rfl (jaf d)),trivial⟩
   have d:=v;simp at v
   refine Zz 7 ?_;refine A_ (al_ rfl rfl) rfl λI G=>Zz 3 ?_
   exact met ⟨rfl,rfl,rfl,rfl,rfl,rfl,rfl,rfl,rfl,rfl,(n_ rfl (jat d G)),trivial⟩
  exact ez_
 refine Zz 11 ?_;refine aB_ 4 ((((c.lo==0)&&(c.hi==0)))&&(c.name==[])) (λr=>[(0,Con.val c),(1,zp_ k 0),(2,.bool false),(11,.bool h),(3,.bool h),(12,zp_ k 0),(13,i4_ c.kind),(15,.bool true),(14,.bool true),(22,.bool r)]) ?_ λE F=>?_
 .cases h
  .have d:=e
   simp at e
   refine Zz 6 ?_;exact met ⟨rfl,rfl,rfl,rfl,rfl,rfl,rfl,rfl,rfl,(n_ rfl (jaf d)),trivial⟩
  have d:=e;simp at e
  refine Zz 5 ?_;refine A_ (dR_ rfl rfl) rfl λB v=>Zz 3 ?_
  exact met ⟨rfl,rfl,rfl,rfl,rfl,rfl,rfl,rfl,rfl,(n_ rfl (jat d v)),trivial⟩
 refine Zz 1 ?_;refine aB_ 5 ((((((c.lo==0)&&(c.hi==0)))&&(c.name==[])))&&((List.length c.parts:Int)==0)) (λr=>[(0,Con.val c),(1,zp_ k 0),(2,.bool false),(11,.bool h),(3,.bool h),(12,zp_ k 0),(13,i4_ c.kind),(15,.bool true),(14,.bool true),(28,.bool r)]) ?_ λB v=>?_
 .cases E
  .have d:=F
   simp at F
   refine Zz 7 ?_;exact met ⟨rfl,rfl,rfl,rfl,rfl,rfl,rfl,rfl,rfl,(n_ rfl (jaf d)),trivial⟩
  have d:=F;simp at F
  refine Zz 7 ?_;refine A_ (al_ rfl rfl) rfl λI C=>Zz 3 ?_
  exact met ⟨rfl,rfl,rfl,rfl,rfl,rfl,rfl,rfl,rfl,(n_ rfl (jat d C)),trivial⟩
 exact ez_
theorem gb_ {G:Prop} (h:G:=by
 exact W_ results317 () (n_ rfl (by unfold Con.namedS;subst_vars;simp[*])) e_ zt):G:=h
theorem zx_ (c:Con):Fn0 prog 317 #[Con.val c] (.bool c.namedS):=by
 refine l_ func317 rfl rfl ntmps317 rfl λv=>?_;refine Zz 2 ?_;refine Q_ rfl rfl λx=>Zi 14 (λo=>?_) λo=>?_
 .refine Zi 6 (λh=>?_) λh=>?_
  .refine Zi 5 (λe=>?_) λe=>?_
   .refine Zi 6 (λd=>?_) λd=>?_
    .refine Zz 12 ?_
     exact gb_
    refine Zz 8 ?_;refine U_ (kf_ _) rfl e_ zt rfl λk u=>Zz 4 ?_
    exact gb_
   refine Zz 8 ?_;refine U_ (hK_ _) rfl e_ zt rfl λk d=>Zz 4 ?_
   exact gb_
  refine Zz 11 ?_;refine U_ (hK_ _) rfl e_ zt rfl λk e=>Zz 4 ?_
  exact gb_
 refine Zz 11 ?_;refine U_ (hK_ _) rfl e_ zt rfl λk h=>Zz 4 ?_
 exact gb_
theorem BO_:∀ (m:Nat) (c:Con),c.sz<=m->c.ok->Tri prog 272 #[Con.val c] [] [Con.memF c] (λ_:Unit=>i4_ c.firstErr) (λ_=>[]) (λ_=>[]):=by
 intro m
 induction m with
 | zero=>intro c h;have:=c.sz_pos;omega
 | succ m ih =>
   intro c hm y;have J:=Con.ok_len y;refine l_ func272 rfl rfl ntmps272 rfl λI=>?_;refine Zz 2 ?_;refine Q_ rfl rfl λk=>Zz 7 ?_
   refine U_ (zw_ c) rfl e_ zt rfl λF G=>c_ (aI_ rfl) rfl (Zz 2 ?_)
   cases F
   . refine Zz 7 ?_;exact W_ results272 () (aV_ rfl zcm_) e_ zt
   . refine Zz 7 ?_;refine U_ (zx_ c) rfl e_ zt rfl λE H=>c_ (aI_ rfl) rfl (Zz 2 ?_)
     cases E
     . refine Zz 7 ?_;exact W_ results272 () (aV_ rfl zcm_) e_ zt
     . refine Zz 10 ?_;have A:c.fieldErr=0:=by rw[Con.fieldErr_ref];simp[*]
       refine bc_ [(1,zp_ k 0),(3,i4_ ((0:Nat):Int))] zl ?_;refine bs_ (ι:={q:Nat // q<=c.parts.length/\Con.firstErr.firstErrs (c.parts.take q)=0}) (λi=>[(1,zp_ k 0),(3,i4_ i.1)]) (λ_=>_) (λ_=>_) (λi=>c.parts.length - i.1) ⟨0,by simp,rfl⟩ ?_;rintro ⟨i,C⟩;refine bc_ [(1,zp_ k 0),(3,i4_ i)] zl ?_;refine Zi 7 (λB=>?_) λB=>?_
       . refine Zz 11 ?_;exact W_ results272 () (aV_ rfl (by have:=C.2;rw[yac_ zaa_]at this;rw[Con.firstErr_eq,yax_ A,this])) e_ zt
       . obtain⟨o,u,e,d⟩:=zge (show i<c.parts.length by omega);have K:=Con.sz_part d;refine Zz 12 ?_;refine c_ (J_ z_ i_ rfl rfl (λv _ h=>az_ (n:=5) Con.cells_len zaj_ zas_ e) zaa_ zah_) rfl ?_;refine c_ (ax_ (ad:=c.ad) (us:=Con.cells u) H_ i_ rfl (λv _ h=>by exact ((Con.mem_iff c v).1 h.1).1) (Con.cells_len _) (t_ Con.cells_len e)) rfl (d_ (ih u zaa_ (Con.ok_part y d)) rfl e_ (λv _ h=>by exact⟨(Con.mem_part (c:=c) h.1 d),trivial⟩) rfl λ_=>Zi 6 (λx=>?_) λx=>?_)
         . refine Zz 11 ?_;exact w_ ⟨i+1,o,Con.firstErrs_step C.2 e zar_⟩ zaC_ zl (.refl _) zh
         . refine Zz 10 ?_;exact W_ results272 () (aV_ rfl (by rw[Con.firstErr_eq c,yax_ A,Con.firstErrs_first C.2 e zar_])) e_ zt
theorem gr_ (c:Con) (d:c.ok) (k:c.sz<=1000):Tri prog 186 #[Con.val c] [] [Con.memF c] (λ_:Unit=>i4_ c.check) (λ_=>[]) (λ_=>[]):=by
 refine l_ func186 rfl rfl ntmps186 rfl λo=>?_;refine Zz 2 ?_;refine Q_ rfl rfl λu=>Zz 7 ?_
 refine d_ (zA_ _ c (yab_ _) d k) rfl e_ zf rfl λ_=>?_;refine Zi 0 (λh=>?_) λh=>?_
 .refine Zz 4 ?_
  refine d_ (gB_ _ c (yab_ _) d k) rfl e_ zf rfl λ_=>as_ rfl rfl ?_
  refine Zi 0 (λe=>?_) λe=>?_
  .refine Zz 9 ?_
   refine d_ (BO_ _ c (yab_ _) d) rfl e_ zf rfl λ_=>Zz 4 ?_
   exact W_ results186 () (aV_ rfl (by rw[Con.check_ref,yam_ zaa_])) e_ zt
  refine Zz 10 ?_;exact W_ results186 () (aV_ rfl (by rw[Con.check_ref,yax_ zaa_])) e_ zt
 refine Zz 14 ?_;exact W_ results186 () (aV_ rfl (by rw[Con.check_ref,yax_ zaa_])) e_ zt
theorem iW_ {G:Prop} (h:G:=by
 refine Zz 6 ?_;exact met ⟨rfl,rfl,rfl,(n_ rfl (jaf d)),trivial⟩):G:=h
theorem tx_ (c:Con):Fn0 prog 183 #[Con.val c] (.bool c.empty):=by
 refine l_ func183 rfl rfl ntmps183 rfl λF=>?_;refine Zz 2 ?_;refine Q_ rfl rfl λv=>Zz 7 ?_
 refine A_ (al_ rfl rfl) rfl λE k=>Zz 1 ?_
 refine aB_ 4 ((c.kind==0)&&(c.name==[])) (λr=>[(0,Con.val c),(1,zp_ v 0),(2,.bool false),(10,.bool r)]) ?_ λC o=>?_
 .cases E
  .have d:=k
   replace k:=znb k;exact iW_
  have d:=k;replace k:=zeb k;refine Zz 5 ?_;refine A_ (dR_ rfl rfl) rfl λy h=>Zz 3 ?_
  exact met ⟨rfl,rfl,rfl,(n_ rfl (jat d h)),trivial⟩
 refine Zz 1 ?_;refine aB_ 4 ((((c.kind==0)&&(c.name==[])))&&(c.lo==0)) (λr=>[(0,Con.val c),(1,zp_ v 0),(2,.bool false),(15,.bool r)]) ?_ λy h=>?_
 .cases C
  .have d:=o
   simp at o
   exact iW_
  have d:=o;simp at o
  refine Zz 5 ?_;refine A_ (al_ rfl rfl) rfl λx e=>Zz 3 ?_
  exact met ⟨rfl,rfl,rfl,(n_ rfl (jat d e)),trivial⟩
 refine Zz 1 ?_;refine aB_ 4 ((((((c.kind==0)&&(c.name==[])))&&(c.lo==0)))&&(c.hi==0)) (λr=>[(0,Con.val c),(1,zp_ v 0),(2,.bool false),(20,.bool r)]) ?_ λx e=>?_
 .cases y
  .have d:=h
   simp at h
   exact iW_
  have d:=h;simp at h
  refine Zz 5 ?_;refine A_ (al_ rfl rfl) rfl λB u=>Zz 3 ?_
  exact met ⟨rfl,rfl,rfl,(n_ rfl (jat d u)),trivial⟩
 refine Zz 1 ?_;refine aB_ 5 ((((((((c.kind==0)&&(c.name==[])))&&(c.lo==0)))&&(c.hi==0)))&&((List.length c.parts:Int)==0)) (λr=>[(0,Con.val c),(2,.bool false),(26,.bool r)]) ?_ λB u=>?_
 .cases x
  .have d:=e
   simp at e
   refine Zz 7 ?_;exact met ⟨rfl,rfl,(n_ rfl (jaf d)),trivial⟩
  have d:=e;simp at e
  refine Zz 7 ?_;refine A_ (al_ rfl rfl) rfl λG A=>Zz 3 ?_
  exact met ⟨rfl,rfl,(n_ rfl (jat d A)),trivial⟩
 refine Zz 4 ?_;exact W_ results183 () (n_ rfl (by unfold Con.empty;subst_vars;simp[*])) e_ zt
theorem kg_:∀ (m:Nat) (c:Con),c.sz<=m->c.ok->Tri prog 187 #[Con.val c] [] [Con.memF c] (λ_:Unit=>.bool c.rbare) (λ_=>[]) (λ_=>[]):=by
 intro m
 induction m with
 | zero=>intro c h;have:=c.sz_pos;omega
 | succ m ih =>
   intro c hm x;have H:=Con.ok_len x;refine l_ func187 rfl rfl ntmps187 rfl λG=>?_;refine Zz 2 ?_;refine Q_ rfl rfl λo=>Zi 8 (λA=>?_) λA=>?_
   . refine Zi 10 (λB=>?_) λB=>?_
     . refine Zz 12 ?_;refine bc_ [(1,zp_ o 0),(3,i4_ ((0:Nat):Int))] zl ?_;refine bs_ (ι:={q:Nat // q<=c.parts.length/\(c.parts.take q).any Con.rbare=false}) (λi=>[(1,zp_ o 0),(3,i4_ i.1)]) (λ_=>_) (λ_=>_) (λi=>c.parts.length - i.1) ⟨0,by simp⟩ ?_;rintro ⟨i,F⟩;refine bc_ [(1,zp_ o 0),(3,i4_ i)] zl ?_;refine Zi 7 (λy=>?_) λy=>?_
       . refine Zz 11 ?_;exact W_ results187 () (n_ rfl (by have:=F.2;rw[yac_ zaa_]at this;rw[Con.rbare_eq,yam_ zar_,yam_ zar_,this])) e_ zt
       . obtain⟨u,k,e,d⟩:=zge (show i<c.parts.length by omega);have I:=Con.sz_part d;refine Zz 12 ?_;refine c_ (J_ z_ i_ rfl rfl (λv _ h=>az_ (n:=5) Con.cells_len zaj_ zas_ e) zaa_ zah_) rfl ?_;refine c_ (ax_ (ad:=c.ad) (us:=Con.cells k) H_ i_ rfl (λv _ h=>by exact ((Con.mem_iff c v).1 h.1).1) (Con.cells_len _) (t_ Con.cells_len e)) rfl (U_ (ih k zaa_ (Con.ok_part x d)) rfl e_ (λv _ h=>by exact⟨(Con.mem_part (c:=c) h.1 d),trivial⟩) rfl λC E=>Zz 2 ?_);cases C
         . refine Zz 9 ?_;exact w_ ⟨i+1,u,by rw[yao_,e];simp only[ybf_,List.any_append,F.2];simp[*]⟩ zaC_ zl (.refl _) zh
         . refine Zz 7 ?_;exact W_ results187 () (n_ rfl (by rw[Con.rbare_eq,yam_ zar_,yam_ zar_];symm;exact ybS_.2 ⟨k,d,by assumption⟩)) e_ zt
     . refine Zz 9 ?_;exact W_ results187 () (n_ rfl (by rw[Con.rbare_eq];simp[*])) e_ zt
   . refine Zz 9 ?_;exact W_ results187 () (n_ rfl (by rw[Con.rbare_eq];simp[*])) e_ zt
theorem us_no {k:Int} (h:k<1\/9<k):(kQ_[k.toNat]?).getD ⟨false,false,false,false,false,0,0⟩=⟨false,false,false,false,false,0,0⟩:=by
 rcases h with h|h
 .have:k.toNat=0:=by omega
  rw[this];rfl
 have:kQ_.length<=k.toNat:=by show 10<=k.toNat;omega
 rw[List.getElem?_eq_none this];rfl
theorem ey_ {G:Prop} (h:G:=by
 refine Zz 16 ?_;exact iV_):G:=h
theorem iV_ {G:Prop} (h:G:=by
 exact ret7 results182 () rfl rfl rfl rfl rfl rfl rfl (by subst k;rfl) e_ zt):G:=h
theorem xO_ (k:Int):Fn0 prog 182 #[i4_ k] (.tuple #[.bool (us k).left,.bool (us k).right,.bool (us k).role,.bool (us k).a,.bool (us k).b,i4_ (us k).least,i4_ (us k).most]):=by
 refine l_ func182 rfl rfl ntmps182 rfl λB=>?_;refine Zi 21 (λx=>?_) λx=>?_
 .refine Zi 6 (λy=>?_) λy=>?_
  .refine Zi 5 (λo=>?_) λo=>?_
   .refine Zi 6 (λe=>?_) λe=>?_
    .refine Zi 6 (λu=>?_) λu=>?_
     .refine Zi 6 (λA=>?_) λA=>?_
      .refine Zi 6 (λh=>?_) λh=>?_
       .refine Zi 6 (λv=>?_) λv=>?_
        .refine Zi 6 (λd=>?_) λd=>?_
         .refine Zz 18 ?_
          exact ret7 results182 () rfl rfl rfl rfl rfl rfl rfl (by unfold us;have:(kQ_[k.toNat]?).getD ⟨false,false,false,false,false,0,0⟩=⟨false,false,false,false,false,0,0⟩:=us_no zaa_;rw[this]) e_ zt
         exact ey_
        exact ey_
       exact ey_
      exact ey_
     exact ey_
    exact ey_
   exact ey_
  refine Zz 19 ?_;exact iV_
 refine Zz 19 ?_;exact iV_
theorem ho_ {G:Prop} (h:G:=by
 exact met ⟨rfl,(n_ rfl (jaf d)),trivial⟩):G:=h
theorem nn_ {G:Prop} (h:G:=by
 refine Zz 10 ?_;exact W_ eB_ () (aV_ rfl (by symm;exact Ax.check_right C K zaJ_ (by rw[hu]) zar_)) e_ zt):G:=h
theorem no_ {G:Prop} (h:G:=by
 exact W_ eB_ () (aV_ rfl (by rw[Ax.check_last C K zaJ_ zaJ_,hu];simp only[ycV_,yci_,ycx_];rw[y];rfl)) e_ zt):G:=h
theorem np_ {G:Prop} (h:G:=by
 exact W_ eB_ () (aV_ rfl (by rw[Ax.check_last C K zaJ_ zaJ_,hu];simp only[ycV_,yci_,ycx_];rw[k];rfl)) e_ zt):G:=h
theorem nq_ {G:Prop} (h:G:=by
 exact W_ eB_ () (aV_ rfl (by rw[Ax.check_last C K zaJ_ zaJ_,hu];simp only[ycV_,yci_,ycx_];rw[A];rfl)) e_ zt):G:=h
theorem nr_ {G:Prop} (h:G:=by
 exact W_ eB_ () (aV_ rfl (by rw[Ax.check_last C K zaJ_ zaJ_,hu];simp only[ycV_,yci_,ycx_];rw[e];rfl)) e_ zt):G:=h
theorem ga_ {G:Prop} (h:G:=by
 exact met ⟨rfl,rfl,rfl,rfl,rfl,rfl,rfl,rfl,rfl,rfl,(n_ rfl (jaf (jn rfl))),trivial⟩):G:=h
theorem fl_ {G:Prop} (h:G:=by
 exact met ⟨rfl,rfl,rfl,rfl,rfl,rfl,rfl,rfl,rfl,(n_ rfl (jot d)),trivial⟩):G:=h
theorem eX_ (x:Ax) (M:x.ok) (hzl:x.left.sz<=1000) (hzr:x.right.sz<=1000):Tri prog 96 #[Ax.val x] [] [Ax.memF x] (λ_:Unit=>i4_ x.check) (λ_=>[]) (λ_=>[]):=by
 refine l_ func96 rfl rfl ntmps96 rfl λv_1=>?_;have h_1:=M.cap;refine Zz 2 ?_;refine Q_ rfl rfl λu=>Zz 7 ?_
 refine d_ (xO_ x.kind) rfl e_ zt rfl λ_=>?_;rcases hu:us x.kind with⟨ul,E,J,F,ub,um,un⟩
 dsimp only;refine Zz 22 ?_;refine A_ (dw_ rfl rfl) rfl λr_1 R=>Zz 1 ?_
 refine aB_ 4 ((decide (x.kind<1))||(decide (9<x.kind))) (λr=>[(1,zp_ u 0),(2,i4_ 0),(3,.bool ul),(4,.bool E),(5,.bool J),(6,.bool F),(7,.bool ub),(8,i4_ um),(9,i4_ un),(31,.bool r)]) ?_ λr_2 hr_2=>?_
 .cases r_1
  .have d:=R
   replace R:=zdf R;refine Zz 5 ?_;refine A_ (ec_ rfl rfl) rfl λr_3 Z=>Zz 3 ?_
   exact met (zm (jof d Z))
  have d:=R;replace R:=zdt R;refine Zz 6 ?_;exact fl_
 refine Zz 1 ?_;refine aB_ 9 ((((decide (x.kind<1))||(decide (9<x.kind))))||(((!(ul))&&(!(Con.empty x.left))))) (λr=>[(1,zp_ u 0),(2,i4_ 0),(3,.bool ul),(4,.bool E),(5,.bool J),(6,.bool F),(7,.bool ub),(8,i4_ um),(9,i4_ un),(41,.bool r)]) ?_ λr_3 Z=>?_
 .cases r_2
  .have d:=hr_2
   refine Zz 3 ?_;refine c_ (aI_ rfl) rfl (Zz 2 ?_);refine aB_ 5 ((!(ul))&&(!(Con.empty x.left))) (λr=>[(1,zp_ u 0),(2,i4_ 0),(3,.bool ul),(4,.bool E),(5,.bool J),(6,.bool F),(7,.bool ub),(8,i4_ um),(9,i4_ un),(32,.bool false),(40,.bool r)]) ?_ λr_4 a0=>?_
   .cases ul
    .refine Zz 5 ?_
     refine U_ (tx_ x.left) rfl e_ zt rfl λr_5 T=>as_ rfl rfl (c_ (aI_ rfl) rfl (Zz 4 ?_))
     exact met ⟨rfl,rfl,rfl,rfl,rfl,rfl,rfl,rfl,rfl,rfl,(n_ rfl (jat (jn rfl) (jn T))),trivial⟩
    refine Zz 8 ?_;exact ga_
   refine Zz 3 ?_;exact met (zm (jof d a0))
  have d:=hr_2;refine Zz 11 ?_;exact fl_
 refine Zz 1 ?_;refine aB_ 9 ((((((decide (x.kind<1))||(decide (9<x.kind))))||(((!(ul))&&(!(Con.empty x.left))))))||(((!(E))&&(!(Con.empty x.right))))) (λr=>[(1,zp_ u 0),(2,i4_ 0),(3,.bool ul),(4,.bool E),(5,.bool J),(6,.bool F),(7,.bool ub),(8,i4_ um),(9,i4_ un),(51,.bool r)]) ?_ λr_4 a0=>?_
 .cases r_3
  .have d:=Z
   refine Zz 3 ?_;refine c_ (aI_ rfl) rfl (Zz 2 ?_);refine aB_ 5 ((!(E))&&(!(Con.empty x.right))) (λr=>[(1,zp_ u 0),(2,i4_ 0),(3,.bool ul),(4,.bool E),(5,.bool J),(6,.bool F),(7,.bool ub),(8,i4_ um),(9,i4_ un),(42,.bool false),(50,.bool r)]) ?_ λr_5 T=>?_
   .cases E
    .refine Zz 5 ?_
     refine U_ (tx_ x.right) rfl e_ zt rfl λr_6 S=>as_ rfl rfl (c_ (aI_ rfl) rfl (Zz 4 ?_))
     exact met ⟨rfl,rfl,rfl,rfl,rfl,rfl,rfl,rfl,rfl,rfl,(n_ rfl (jat (jn rfl) (jn S))),trivial⟩
    refine Zz 8 ?_;exact ga_
   refine Zz 3 ?_;exact met (zm (jof d T))
  have d:=Z;refine Zz 11 ?_;exact fl_
 refine Zz 1 ?_;refine aB_ 8 ((((((((decide (x.kind<1))||(decide (9<x.kind))))||(((!(ul))&&(!(Con.empty x.left))))))||(((!(E))&&(!(Con.empty x.right))))))||(((!(J))&&(x.role != [])))) (λr=>[(1,zp_ u 0),(2,i4_ 0),(3,.bool ul),(4,.bool E),(5,.bool J),(6,.bool F),(7,.bool ub),(8,i4_ um),(9,i4_ un),(60,.bool r)]) ?_ λr_5 T=>?_
 .cases r_4
  .have d:=a0
   refine Zz 3 ?_;refine c_ (aI_ rfl) rfl (Zz 2 ?_);refine aB_ 4 ((!(J))&&(x.role != [])) (λr=>[(1,zp_ u 0),(2,i4_ 0),(3,.bool ul),(4,.bool E),(5,.bool J),(6,.bool F),(7,.bool ub),(8,i4_ um),(9,i4_ un),(52,.bool false),(59,.bool r)]) ?_ λr_6 S=>?_
   .cases J
    .refine Zz 5 ?_
     refine A_ (cY_ rfl rfl) rfl λr_7 Q=>Zz 4 ?_
     exact met ⟨rfl,rfl,rfl,rfl,rfl,rfl,rfl,rfl,rfl,rfl,(n_ rfl (jat (jn rfl) Q)),trivial⟩
    refine Zz 7 ?_;exact ga_
   refine Zz 3 ?_;exact met (zm (jof d S))
  have d:=a0;refine Zz 10 ?_;exact fl_
 refine Zz 1 ?_;refine aB_ 8 ((((((((((decide (x.kind<1))||(decide (9<x.kind))))||(((!(ul))&&(!(Con.empty x.left))))))||(((!(E))&&(!(Con.empty x.right))))))||(((!(J))&&(x.role != [])))))||(((!(F))&&(x.a != [])))) (λr=>[(1,zp_ u 0),(2,i4_ 0),(3,.bool ul),(4,.bool E),(5,.bool J),(6,.bool F),(7,.bool ub),(8,i4_ um),(9,i4_ un),(69,.bool r)]) ?_ λr_6 S=>?_
 .cases r_5
  .have d:=T
   refine Zz 3 ?_;refine c_ (aI_ rfl) rfl (Zz 2 ?_);refine aB_ 4 ((!(F))&&(x.a != [])) (λr=>[(1,zp_ u 0),(2,i4_ 0),(3,.bool ul),(4,.bool E),(5,.bool J),(6,.bool F),(7,.bool ub),(8,i4_ um),(9,i4_ un),(61,.bool false),(68,.bool r)]) ?_ λr_7 Q=>?_
   .cases F
    .refine Zz 5 ?_
     refine A_ (cY_ rfl rfl) rfl λr_8 P=>Zz 4 ?_
     exact met ⟨rfl,rfl,rfl,rfl,rfl,rfl,rfl,rfl,rfl,rfl,(n_ rfl (jat (jn rfl) P)),trivial⟩
    refine Zz 7 ?_;exact ga_
   refine Zz 3 ?_;exact met (zm (jof d Q))
  have d:=T;refine Zz 10 ?_;exact fl_
 refine Zz 1 ?_;refine aB_ 8 ((((((((((((decide (x.kind<1))||(decide (9<x.kind))))||(((!(ul))&&(!(Con.empty x.left))))))||(((!(E))&&(!(Con.empty x.right))))))||(((!(J))&&(x.role != [])))))||(((!(F))&&(x.a != [])))))||(((!(ub))&&(x.b != [])))) (λr=>[(1,zp_ u 0),(2,i4_ 0),(3,.bool ul),(4,.bool E),(5,.bool J),(6,.bool F),(7,.bool ub),(8,i4_ um),(9,i4_ un),(78,.bool r)]) ?_ λr_7 Q=>?_
 .cases r_6
  .have d:=S
   refine Zz 3 ?_;refine c_ (aI_ rfl) rfl (Zz 2 ?_);refine aB_ 4 ((!(ub))&&(x.b != [])) (λr=>[(1,zp_ u 0),(2,i4_ 0),(3,.bool ul),(4,.bool E),(5,.bool J),(6,.bool F),(7,.bool ub),(8,i4_ um),(9,i4_ un),(70,.bool false),(77,.bool r)]) ?_ λr_8 P=>?_
   .cases ub
    .refine Zz 5 ?_
     refine A_ (cY_ rfl rfl) rfl λr_9 O=>Zz 4 ?_
     exact met ⟨rfl,rfl,rfl,rfl,rfl,rfl,rfl,rfl,rfl,rfl,(n_ rfl (jat (jn rfl) O)),trivial⟩
    refine Zz 7 ?_;exact ga_
   refine Zz 3 ?_;exact met (zm (jof d P))
  have d:=S;refine Zz 10 ?_;exact fl_
 refine Zz 1 ?_;refine aB_ 6 ((((((((((((((decide (x.kind<1))||(decide (9<x.kind))))||(((!(ul))&&(!(Con.empty x.left))))))||(((!(E))&&(!(Con.empty x.right))))))||(((!(J))&&(x.role != [])))))||(((!(F))&&(x.a != [])))))||(((!(ub))&&(x.b != [])))))||(decide ((List.length x.roles:Int)<um))) (λr=>[(1,zp_ u 0),(2,i4_ 0),(3,.bool ul),(4,.bool E),(5,.bool J),(6,.bool F),(7,.bool ub),(9,i4_ un),(85,.bool r)]) ?_ λr_8 P=>?_
 .cases r_7
  .have d:=Q
   refine Zz 9 ?_;refine A_ (dw_ rfl rfl) rfl λr_9 O=>Zz 3 ?_
   exact met (zm (jof d O))
  have d:=Q;refine Zz 8 ?_;exact met ⟨rfl,rfl,rfl,rfl,rfl,rfl,rfl,rfl,(n_ rfl (jot d)),trivial⟩
 refine Zz 1 ?_;refine aB_ 6 ((((((((((((((((decide (x.kind<1))||(decide (9<x.kind))))||(((!(ul))&&(!(Con.empty x.left))))))||(((!(E))&&(!(Con.empty x.right))))))||(((!(J))&&(x.role != [])))))||(((!(F))&&(x.a != [])))))||(((!(ub))&&(x.b != [])))))||(decide ((List.length x.roles:Int)<um))))||(decide (un<(List.length x.roles:Int)))) (λr=>[(1,zp_ u 0),(2,i4_ 0),(3,.bool ul),(4,.bool E),(5,.bool J),(6,.bool F),(7,.bool ub),(92,.bool r)]) ?_ λr_9 O=>?_
 .cases r_8
  .have d:=P
   refine Zz 9 ?_;refine A_ (ec_ rfl rfl) rfl λr_10 hr_10=>Zz 3 ?_
   exact met (zm (jof d hr_10))
  have d:=P;refine Zz 8 ?_;exact met ⟨rfl,rfl,rfl,rfl,rfl,rfl,rfl,(n_ rfl (jot d)),trivial⟩
 refine Zz 2 ?_;cases r_9
 .have C:x.shaped=true:=by rw[Ax.shaped_ref hu,O];rfl
  refine Zz 8 ?_;refine aB_ 5 ((J)&&(!(bO_ x.role))) (λr=>[(1,zp_ u 0),(2,i4_ 0),(3,.bool ul),(4,.bool E),(6,.bool F),(7,.bool ub),(99,.bool r)]) ?_ λr_10 hr_10=>?_
  .cases J
   .refine Zz 7 ?_
    exact met ⟨rfl,rfl,rfl,rfl,rfl,rfl,(n_ rfl (jaf rfl)),trivial⟩
   refine Zz 5 ?_;refine U_ (hK_ _) rfl e_ zt rfl λY W=>as_ rfl rfl (c_ (aI_ rfl) rfl (Zz 3 ?_))
   exact met ⟨rfl,rfl,rfl,rfl,rfl,rfl,(n_ rfl (jat rfl (jn W))),trivial⟩
  refine Zz 2 ?_;cases r_10
  .refine Zz 10 ?_
   refine bc_ [(1,zp_ u 0),(3,.bool ul),(4,.bool E),(6,.bool F),(7,.bool ub),(10,i4_ ((0:Nat):Int))] zl ?_;refine bs_ (ι:={q:Nat // q<=x.roles.length/\(x.roles.take q).all bO_=true}) (λi=>[(1,zp_ u 0),(3,.bool ul),(4,.bool E),(6,.bool F),(7,.bool ub),(10,i4_ i.1)]) (λ_=>_) (λ_=>_) (λi=>x.roles.length - i.1) ⟨0,by simp⟩ ?_;rintro ⟨i,hk⟩;refine bc_ [(1,zp_ u 0),(3,.bool ul),(4,.bool E),(6,.bool F),(7,.bool ub),(10,i4_ i)] zl ?_;refine Zi 7 (λW=>?_) λW=>?_
   .refine Zz 10 ?_
    refine aB_ 5 ((F)&&(!(bk_ x.a))) (λr=>[(1,zp_ u 0),(3,.bool ul),(4,.bool E),(7,.bool ub),(120,.bool r)]) ?_ λY X=>?_
    .cases F
     .refine Zz 7 ?_
      exact met ⟨rfl,rfl,rfl,rfl,(n_ rfl (jaf rfl)),trivial⟩
     refine Zz 5 ?_;refine U_ (kf_ _) rfl e_ zt rfl λr_12 V=>as_ rfl rfl (c_ (aI_ rfl) rfl (Zz 3 ?_))
     exact met ⟨rfl,rfl,rfl,rfl,(n_ rfl (jat rfl (jn V))),trivial⟩
    refine Zz 1 ?_;refine aB_ 8 ((((F)&&(!(bk_ x.a))))||(((ub)&&(!(bk_ x.b))))) (λr=>[(1,zp_ u 0),(3,.bool ul),(4,.bool E),(129,.bool r)]) ?_ λr_12 V=>?_
    .cases Y
     .have d:=X
      refine Zz 4 ?_;refine aB_ 5 ((ub)&&(!(bk_ x.b))) (λr=>[(1,zp_ u 0),(3,.bool ul),(4,.bool E),(7,.bool ub),(121,.bool false),(128,.bool r)]) ?_ λH o=>?_
      .cases ub
       .refine Zz 8 ?_
        exact met ⟨rfl,rfl,rfl,rfl,rfl,(n_ rfl (jaf rfl)),trivial⟩
       refine Zz 5 ?_;refine U_ (kf_ _) rfl e_ zt rfl λG e=>as_ rfl rfl (c_ (aI_ rfl) rfl (Zz 4 ?_))
       exact met ⟨rfl,rfl,rfl,rfl,rfl,(n_ rfl (jat rfl (jn e))),trivial⟩
      refine Zz 3 ?_;exact met (zm (jof d o))
     have d:=X;refine Zz 10 ?_;exact met ⟨rfl,rfl,rfl,(n_ rfl (jot d)),trivial⟩
    refine Zz 2 ?_;cases r_12
    .refine Zz 5 ?_
     have K:x.namedU (us x.kind)=true:=by rw[hu];unfold Ax.namedU;have:=hk.2;rw[yac_ zaa_]at this;rw[this];clear C hu;cases J<;>cases F<;>cases ub<;>simp_all
     refine Zz 4 ?_;cases ul
     .refine Zz 9 ?_
      cases E
      .refine Zz 23 ?_
       refine A_ (al_ rfl rfl) rfl λH o=>Zz 2 ?_
       refine aB_ 4 ((x.kind==2)&&(Con.rbare x.left)) (λr=>[(155,.bool false),(163,.bool r)]) ?_ λG e=>?_
       .cases H
        .have d:=o
         replace o:=znb o;refine Zz 7 ?_;exact ho_
        have d:=o;replace o:=zeb o;refine Zz 5 ?_;refine U_ (kg_ _ x.left (yab_ _) M.left) rfl e_ (λv _ h=>by exact⟨h.1.1,trivial⟩) rfl λI k=>Zz 4 ?_
        exact met ⟨rfl,(n_ rfl (jat d k)),trivial⟩
       refine Zz 3 ?_;cases G
       .refine Zz 9 ?_
        exact nr_
       refine Zz 7 ?_;exact nr_
      refine Zz 5 ?_;refine d_ (gr_ x.right M.right zaa_) rfl e_ (λv _ h=>by exact⟨h.1.2.1,trivial⟩) rfl λ_=>Zi 6 (λo=>?_) λo=>?_
      .refine Zz 15 ?_
       refine A_ (cP_ rfl rfl) rfl λH e=>Zz 2 ?_
       refine aB_ 4 ((x.kind != 3)&&(Con.rbare x.right)) (λr=>[(1,zp_ u 0),(154,.bool r)]) ?_ λG k=>?_
       .cases H
        .have d:=e
         replace e:=de_ e;refine Zz 6 ?_;exact ho_
        have d:=e;replace e:=dd_ e;refine Zz 5 ?_;refine U_ (kg_ _ x.right (yab_ _) M.right) rfl e_ (λv _ h=>by exact⟨h.1.2.1,trivial⟩) rfl λI A=>Zz 3 ?_
        exact met ⟨rfl,(n_ rfl (jat d A)),trivial⟩
       refine Zz 1 ?_;refine aB_ 9 ((((x.kind != 3)&&(Con.rbare x.right)))||(((x.kind==2)&&(Con.rbare x.left)))) (λr=>[(164,.bool r)]) ?_ λI A=>?_
       .cases G
        .have d:=k
         refine Zz 5 ?_;refine A_ (al_ rfl rfl) rfl λr_16 y=>Zz 2 ?_
         refine aB_ 4 ((x.kind==2)&&(Con.rbare x.left)) (λr=>[(1,zp_ u 0),(155,.bool false),(163,.bool r)]) ?_ λr_17 B=>?_
         .cases r_16
          .have L:=y
           replace y:=znb y;refine Zz 7 ?_;exact met ⟨rfl,rfl,(n_ rfl (jaf L)),trivial⟩
          have L:=y;replace y:=zeb y;refine Zz 5 ?_;refine U_ (kg_ _ x.left (yab_ _) M.left) rfl e_ (λv _ h=>by exact⟨h.1.1,trivial⟩) rfl λr_18 U=>Zz 4 ?_
          exact met ⟨rfl,rfl,(n_ rfl (jat L U)),trivial⟩
         refine Zz 3 ?_;exact met (zm (jof d B))
        have d:=k;refine Zz 11 ?_;exact met ⟨(n_ rfl (jot d)),trivial⟩
       refine Zz 2 ?_;cases I
       .refine Zz 9 ?_
        exact nq_
       refine Zz 7 ?_;exact nq_
      exact nn_
     refine Zz 5 ?_;refine d_ (gr_ x.left M.left zaa_) rfl e_ (λv _ h=>by exact⟨h.1.1,trivial⟩) rfl λ_=>Zi 6 (λo=>?_) λo=>?_
     .refine Zz 11 ?_
      cases E
      .refine Zz 23 ?_
       refine A_ (al_ rfl rfl) rfl λH e=>Zz 2 ?_
       refine aB_ 4 ((x.kind==2)&&(Con.rbare x.left)) (λr=>[(155,.bool false),(163,.bool r)]) ?_ λG k=>?_
       .cases H
        .have d:=e
         replace e:=znb e;refine Zz 7 ?_;exact ho_
        have d:=e;replace e:=zeb e;refine Zz 5 ?_;refine U_ (kg_ _ x.left (yab_ _) M.left) rfl e_ (λv _ h=>by exact⟨h.1.1,trivial⟩) rfl λI A=>Zz 4 ?_
        exact met ⟨rfl,(n_ rfl (jat d A)),trivial⟩
       refine Zz 3 ?_;cases G
       .refine Zz 9 ?_
        exact np_
       refine Zz 7 ?_;exact np_
      refine Zz 5 ?_;refine d_ (gr_ x.right M.right zaa_) rfl e_ (λv _ h=>by exact⟨h.1.2.1,trivial⟩) rfl λ_=>Zi 6 (λe=>?_) λe=>?_
      .refine Zz 15 ?_
       refine A_ (cP_ rfl rfl) rfl λH k=>Zz 2 ?_
       refine aB_ 4 ((x.kind != 3)&&(Con.rbare x.right)) (λr=>[(1,zp_ u 0),(154,.bool r)]) ?_ λG A=>?_
       .cases H
        .have d:=k
         replace k:=de_ k;refine Zz 6 ?_;exact ho_
        have d:=k;replace k:=dd_ k;refine Zz 5 ?_;refine U_ (kg_ _ x.right (yab_ _) M.right) rfl e_ (λv _ h=>by exact⟨h.1.2.1,trivial⟩) rfl λI y=>Zz 3 ?_
        exact met ⟨rfl,(n_ rfl (jat d y)),trivial⟩
       refine Zz 1 ?_;refine aB_ 9 ((((x.kind != 3)&&(Con.rbare x.right)))||(((x.kind==2)&&(Con.rbare x.left)))) (λr=>[(164,.bool r)]) ?_ λI y=>?_
       .cases G
        .have d:=A
         refine Zz 5 ?_;refine A_ (al_ rfl rfl) rfl λr_16 B=>Zz 2 ?_
         refine aB_ 4 ((x.kind==2)&&(Con.rbare x.left)) (λr=>[(1,zp_ u 0),(155,.bool false),(163,.bool r)]) ?_ λr_17 U=>?_
         .cases r_16
          .have L:=B
           replace B:=znb B;refine Zz 7 ?_;exact met ⟨rfl,rfl,(n_ rfl (jaf L)),trivial⟩
          have L:=B;replace B:=zeb B;refine Zz 5 ?_;refine U_ (kg_ _ x.left (yab_ _) M.left) rfl e_ (λv _ h=>by exact⟨h.1.1,trivial⟩) rfl λr_18 hr_21=>Zz 4 ?_
          exact met ⟨rfl,rfl,(n_ rfl (jat L hr_21)),trivial⟩
         refine Zz 3 ?_;exact met (zm (jof d U))
        have d:=A;refine Zz 11 ?_;exact met ⟨(n_ rfl (jot d)),trivial⟩
       refine Zz 2 ?_;cases I
       .refine Zz 9 ?_
        exact no_
       refine Zz 7 ?_;exact no_
      exact nn_
     refine Zz 10 ?_;exact W_ eB_ () (aV_ rfl (by symm;exact Ax.check_left C K (by rw[hu]) zar_)) e_ zt
    refine Zz 7 ?_;exact W_ eB_ () (aV_ rfl (by symm;apply Ax.check_20 C;rw[hu];unfold Ax.namedU;rw[Bool.or_assoc,V];simp)) e_ zt
   obtain⟨hlx_1,x_1,hx_1,hmx_1⟩:=zge (show i<x.roles.length by omega);refine Zz 14 ?_;refine U_ (hK_ _) rfl e_ zt rfl λY X=>c_ (aI_ rfl) rfl (Zz 2 ?_)
   cases Y
   .refine Zz 7 ?_
    exact W_ eB_ () (aV_ rfl (by symm;apply Ax.check_20 C;rw[hu];unfold Ax.namedU;rw[show x.roles.all bO_=false from ycC_.2 ⟨x_1,hmx_1,by simp[*]⟩];simp)) e_ zt
   refine Zz 9 ?_;exact w_ ⟨i+1,hlx_1,by rw[yao_,hx_1];simp only[ybf_,ydf_,hk.2];simp[*]⟩ zaC_ zl (.refl _) zh
  refine Zz 7 ?_;exact W_ eB_ () (aV_ rfl (by symm;apply Ax.check_20 C;rw[hu];unfold Ax.namedU;simp[*])) e_ zt
 refine Zz 7 ?_;exact W_ eB_ () (aV_ rfl (by symm;apply Ax.check_22;rw[Ax.shaped_ref hu,O];rfl)) e_ zt
end Go.Proofs.YtbffkokbdeppaaaGreatDoor
namespace Go.Sx
open Go
section
variable {P:Program} {N:Nf} {fr:Fr} {H:Hp} {Γ:List Fct} {ty:TypeId}
theorem rL_ {t:TypeId} {x:Operand} {m:Int} (h:Fr.ev fr x=some (.int .i64 m)) (d:IntKind.wrap .i64 (-m)=-m):Yld P N fr H Γ (.unOp .neg t x) ty (.int .i64 (-m)) :=
  λa v e _ _ _ _ _=>by simp[execOp,e.ev h,Op.unary,Op.intArith,d]
theorem vT_ {t k:TypeId} {x y:Operand} {m n:Int} (o:Fr.ev fr x=some (.int .i64 m)) (h:Fr.ev fr y=some (.int .i64 n)) (u:n≠0) (e:IntKind.wrap .i64 (m.tmod n)=m.tmod n) :
    Yld P N fr H Γ (.binOp .rem t x y k) ty (.int .i64 (m.tmod n)) :=
  λa v d _ _ _ _ _=>by simp[execOp,d.ev o,d.ev h,eqGuard,binOp,Op.intDiv,u,e]
theorem Bl_ {t e:TypeId} {x:Operand} {k d:IntKind} {m r:Int} {u:TypeDesc} (A:P.underlying t=some u) (h:P.underlying e=some (.int d)) (B:Fr.ev fr x=some (.int k m)) (o:IntKind.wrap d m=r):Yld P N fr H Γ (.convert t e x) ty (.int d r) :=
  λa v y _ _ _ _ _=>by subst o;simp[execOp,y.ev B,convert,run_underlying A,run_underlying h,Conv.intToInt]
theorem Bk_ {t d e:TypeId} {x:Operand} {b:Nat} {l:List UInt8} {c:Nat} {T:TypeId} {fz:Nat×Nat} (i:Nat) (u:P.underlying t=some (.slice e)) (A:P.underlying e=some (.int .u8)) (k:P.underlying d=some .string)
    (y:Fr.ev fr x=some (.slice (some ⟨b,0,none⟩) l.length c)) (hi:H[i]? = some (b,.cells (l.map λz=>Value.int .u8 (z.toNat:Int)).toArray T fz)):Yld P N fr H Γ (.convert t d x) ty (str l) :=
  λa v B o _ _ _ _=>by
    have h:=run_convert_bytes_back (P:=P) v.w t d e ⟨b,0,none⟩ c l u A k (λj C=>by
      rw[da_,ybP_,eZ_ o hi]
      grind)
    simp[execOp,B.ev y,h,str]
end
end Go.Sx
namespace Go.Vs
open Go Go.Sx
theorem td_pos {n:Int} (h:¬ n<0):n.tdiv 10=n / 10/\n.tmod 10=n%10:=by grind
theorem td_neg {n:Int} (h:n<0):n.tdiv 10=-((-n) / 10)/\n.tmod 10=-((-n)%10):=by
  grind
theorem yw_ {n:Int} (e:0<=n) (d:n<10):Lib.itoa n=[UInt8.ofNat (48+n.toNat)]:=by
  grind[Lib.itoa,Lib.decDigits_one]
theorem wW_ {n:Int} (h:10<=n):Lib.itoa (n.tdiv 10)++Lib.itoa (n.tmod 10)=Lib.itoa n:=by
  obtain⟨u,rfl⟩:∃ u:Nat,n=(u:Int):=⟨n.toNat,by omega⟩
  grind[Lib.itoa_nonneg,Lib.decDigits]
theorem CE_ {n:Int} (h:n<=-10):([45]++Lib.itoa (-(n.tdiv 10)))++Lib.itoa (-(n.tmod 10))=Lib.itoa n:=by
  obtain⟨u,rfl⟩:∃ u:Nat,n=-(u:Int):=⟨n.natAbs,by omega⟩;rw[Int.neg_tdiv,Int.neg_tmod,Int.neg_neg,Int.neg_neg,yak_,wW_ zaa_,Lib.itoa_nonneg,Lib.itoa_neg u zaa_];rfl
theorem AH_ {n:Int} (h:n<0):[45]++Lib.itoa (-n)=Lib.itoa n:=by
  obtain⟨u,rfl⟩:∃ u:Nat,n=-(u:Int):=⟨n.natAbs,by omega⟩
  grind[Lib.itoa_nonneg,Lib.itoa_neg]
theorem iy_ {n:Int} (e:-9223372036854775808<=n) (d:n<=9223372036854775807):(Lib.itoa n).length<=21:=Lib.itoa_length_le n e d
theorem Bq_ {n:Int} (h:0<=n) (e:n<10):IntKind.wrap .u8 (48+n)=((UInt8.ofNat (48+n.toNat)).toNat:Int):=by
  obtain⟨u,rfl⟩:∃ u:Nat,n=(u:Int):=⟨n.toNat,by omega⟩;have:u<10:=by omega
  have d:u=0\/u=1\/u=2\/u=3\/u=4\/u=5\/u=6\/u=7\/u=8\/u=9:=by omega
  rcases d with rfl|rfl|rfl|rfl|rfl|rfl|rfl|rfl|rfl|rfl<;>rfl
namespace Con
def textR (c:Con):Str:=if c.kind=0 then [] else c.text
def has (c:Con):Prop:=c.fine\/c.kind=0/\c.parts=[]
theorem fine_k {c:Con} (h:c.fine):1<=c.kind/\c.kind<=7:=⟨(fields h).k1,(fields h).k7⟩
theorem textR_fine {c:Con} (h:c.fine):c.textR=c.text:=by unfold textR;rw[yam_ (by have:=fine_k h;omega)]
theorem join_bound {sep:Str} {B:Nat}:∀ {xs:List Str},(∀ x∈xs,x.length<=B)->(Lib.join xs sep).length<=xs.length*(B+sep.length)
  | [],_=>by grind[Lib.join_nil]
  | x::xs,h=>by
    have d:=jJ_ sep (x::xs)
    have key:∀ ys:List Str,(∀ y∈ys,y.length<=B)->(ys.map λy=>y.length+sep.length).sum<=ys.length*(B+sep.length):=by
      intro ys
      induction ys<;>grind[Nat.add_mul]
    grind
theorem join_snoc (sep:Str):∀ (xs:List Str) (y:Str),xs≠[]->Lib.join (xs++[y]) sep=Lib.join xs sep++sep++y
  | [x],y,_=>by simp[Lib.join,List.intercalate]
  | x::z::r,y,_=>by
    have d:=join_snoc sep (z::r) y zak_;have e:∀ w:List Str,Lib.join (x::z::w) sep=x++sep++Lib.join (z::w) sep:=λw=>by simp[Lib.join,List.intercalate]
    grind
theorem oper_len {c p:Con} (e:c.ok) (h:c.fine) (u:c.sz<=1000) (d:p∈c.parts):p.operand.length<=100010:=by
  have k:=text_len _ p (yab_ _) (ok_part e d) (fine_part h d);have o:=sz_part d
  grind[operand]
end Con
end Go.Vs
namespace Go.Proofs.YtbffkokbdeppaaaGreatDoor
open Go Go.Sx Go.Proofs Tryz
attribute [local irreducible] Code.wp wpList wpAnyH
open Go.Vs
theorem pk_:∀ (m:Nat) (n:Int),2*n.natAbs+(if n<0 then 1 else 0)<=m->-1099511627776<=n->n<=1099511627776->Fn0 prog 273 #[i4_ n] (str (Lib.itoa n)):=by
 intro m
 induction m using Nat.strongRecOn with
 | ind m ih0 =>
   intro n hm A C;have o:∀ (k:Int),2*k.natAbs+(if k<0 then 1 else 0)<m->-1099511627776<=k->k<=1099511627776->Fn0 prog 273 #[i4_ k] (str (Lib.itoa k)):=λk y=>ih0 _ y k (yab_ _)
   refine l_ func273 rfl rfl ntmps273 rfl λx=>?_;refine Zi 9 (λh=>?_) λh=>?_
   . have v:=td_pos (n:=n) zaa_;refine Zi 9 (λd=>?_) λd=>?_
     . refine Zz 9 ?_;refine c_ (Bl_ F_ underlying5 rfl (Bq_ zaa_ zaa_)) rfl (p_ xB_ sizeOf5 zeroValue5 rfl rfl rfl rfl rfl rfl λB=>c_ (Bk_ (l:=[UInt8.ofNat (48+n.toNat)]) 0 underlying355 underlying5 cW_ rfl rfl) rfl (Zz 4 ?_));exact W_ results273 () (cN_ rfl (yw_ zaa_ zaa_).symm) e_ zt
     . refine Zz 6 ?_;refine c_ (rK_ rfl rfl zaj_ (bB_ zaa_ zaa_)) rfl (d_ (o (Int.tdiv n 10) zbm_ zaa_ zaa_) rfl e_ zt rfl λ_=>?_);have e:=iy_ (n:=(Int.tdiv n 10)) zaa_ zaa_;refine Zz 1 ?_;refine c_ (vT_ rfl rfl zaj_ (bB_ zaa_ zaa_)) rfl (d_ (o (Int.tmod n 10) zbm_ zaa_ zaa_) rfl e_ zt rfl λ_=>?_);have u:=iy_ (n:=(Int.tmod n 10)) zaa_ zaa_;refine c_ (bn_ rfl rfl zad_) rfl ?_;refine Zz 4 ?_;exact W_ results273 () (cN_ rfl (wW_ zaa_)) e_ zt
   . have v:=td_neg (n:=n) zaa_;refine Zi 7 (λd=>?_) λd=>?_
     . refine Zz 8 ?_;refine c_ (rL_ rfl (bB_ zaa_ zaa_)) rfl (d_ (o (-n) zbm_ zaa_ zaa_) rfl e_ zt rfl λ_=>?_);have e:=iy_ (n:=(-n)) zaa_ zaa_;refine c_ (bn_ rfl rfl zad_) rfl ?_;refine Zz 4 ?_;exact W_ results273 () (cN_ rfl (AH_ zaa_)) e_ zt
     . refine Zz 6 ?_;refine c_ (rK_ rfl rfl zaj_ (bB_ zaa_ zaa_)) rfl (c_ (rL_ rfl (bB_ zaa_ zaa_)) rfl (d_ (o (-(Int.tdiv n 10)) zbm_ zaa_ zaa_) rfl e_ zt rfl λ_=>?_));have e:=iy_ (n:=(-(Int.tdiv n 10))) zaa_ zaa_;refine c_ (bn_ rfl rfl zad_) rfl ?_;refine Zz 1 ?_;refine c_ (vT_ rfl rfl zaj_ (bB_ zaa_ zaa_)) rfl (c_ (rL_ rfl (bB_ zaa_ zaa_)) rfl (d_ (o (-(Int.tmod n 10)) zbm_ zaa_ zaa_) rfl e_ zt rfl λ_=>?_));have u:=iy_ (n:=(-(Int.tmod n 10))) zaa_ zaa_;refine c_ (bn_ rfl rfl zad_) rfl ?_;refine Zz 4 ?_;exact W_ results273 () (cN_ rfl (CE_ zaa_)) e_ zt
theorem Con.range_of {c:Con} (h:c.fine) (k:c.kind=7):-1099511627776<=c.lo/\c.lo<=c.hi/\c.hi<=1099511627776:=by
 have d:=((Con.fine_iff c).1 h).1;rw[Con.fieldErr_ref]at d
 split at d
 .cases d
 rename_i e
 simp only[Con.shapeS,k,ycW_]at e;simp at e
 omega
theorem fZ_ {G:Prop} (h:G:=by
 exact W_ results188 () (cN_ rfl (by unfold Con.textR;rw[Con.text_eq];simp[*,Lib.join,List.intercalate])) e_ zt):G:=h
theorem BQ_ (m:Nat) (G:(∀ (c:Con),c.sz<=m->c.ok->c.fine->c.sz<=1000->Tri prog 102 #[c.val] [] [c.memF] (λ_:Unit=>str c.operand) (λ_=>[]) (λ_=>[]))) (c:Con) (hm:c.sz<=m+1) (u:c.ok) (P:c.has) (W:c.sz<=1000):Tri prog 188 #[Con.val c] [] [Con.memF c] (λ_:Unit=>str c.textR) (λ_=>[]) (λ_=>[]):=by
 refine l_ func188 rfl rfl ntmps188 rfl λv_1=>?_;have hpl:=Con.ok_len u;refine Zz 2 ?_;refine Q_ rfl rfl λI=>Zi 13 (λT=>?_) λT=>?_
 .refine Zi 6 (λU=>?_) λU=>?_
  .refine Zi 6 (λR=>?_) λR=>?_
   .refine Zi 6 (λM=>?_) λM=>?_
    .refine Zi 6 (λK=>?_) λK=>?_
     .refine Zi 6 (λV=>?_) λV=>?_
      .refine Zz 18 ?_
       have C:(c.kind=5/\c.fine)\/(c.kind=0/\c.parts=[]):=by rcases P with h|h;exact .inl ⟨by have:=Con.fine_k h;omega,h⟩;exact .inr h
       have a1:∀ i,i<=c.parts.length->(Lib.join ((c.parts.take i).map Con.operand) [32,97,110,100,32]).length<=8*100015:=by
         intro i hi;rcases C with⟨H,hf⟩|⟨_,A⟩
         . have Q:=(Con.fields hf).mo
           rw[H]at Q;simp[nd,dC_]at Q
           have:=Con.join_bound (sep:=[32,97,110,100,32]) (B:=100010) (xs:=(c.parts.take i).map Con.operand) (λx hx=>by obtain⟨p,X,rfl⟩:=yaM_.1 hx;exact Con.oper_len u hf W (yaS_ X));simp only[yaB_,yat_,yap_,yaw_]at this;have Z:min i c.parts.length<=8:=by omega
           have a0:=ybc_ (100010+(0+1+1+1+1+1)) Z;exact yaI_ this (yaI_ a0 zaj_)
         .rw[A];simp[Lib.join_nil]
       refine bc_ [(1,zp_ I 0),(3,str []),(4,i4_ ((0:Nat):Int))] zl ?_;refine bs_ (ι:={z:Nat // z<=c.parts.length}) (λz=>[(1,zp_ I 0),(3,str (Lib.join ((c.parts.take z.1).map Con.operand) [32,97,110,100,32])),(4,i4_ z.1)]) (λ_=>_) (λ_=>_) (λz=>c.parts.length - z.1) ⟨0,by simp⟩ ?_;rintro ⟨i,hi⟩;dsimp only;have hbi:=a1 i hi;refine bc_ [(1,zp_ I 0),(3,str (Lib.join ((c.parts.take i).map Con.operand) [32,97,110,100,32])),(4,i4_ i)] zl ?_;refine Zi 7 (λO=>?_) λO=>?_
       .refine Zz 12 ?_
        exact W_ results188 () (cN_ rfl (by unfold Con.textR;rcases C with⟨H,_⟩|⟨A,X⟩;rw[yam_ zaa_,Con.text_eq,yac_ zaa_];simp[H];rw[yax_ A,X];simp[Lib.join_nil])) e_ zt
       have k:c.fine:=P.elim id (λq=>by have A:c.parts.length=0:=(by rw[q.2];rfl);omega);obtain⟨y,o,e,d⟩:=zge (show i<c.parts.length by omega);refine Zi 11 (λL=>?_) λL=>?_
       .refine Zz 10 ?_
        refine c_ (J_ z_ i_ rfl rfl (λv _ h=>az_ (n:=5) Con.cells_len zaj_ zas_ e) zaa_ zah_) rfl ?_;refine c_ (ax_ (ad:=c.ad) (us:=Con.cells o) H_ i_ rfl (λv _ h=>by exact ((Con.mem_iff c v).1 h.1).1) (Con.cells_len _) (t_ Con.cells_len e)) rfl (d_ (G o zaI_ (Con.ok_part u d) (Con.fine_part k d) zaI_) rfl e_ (λv _ h=>by exact⟨(Con.mem_part (c:=c) h.1 d),trivial⟩) rfl λ_=>?_);have J:=Con.oper_len u k W d;refine c_ (bn_ rfl rfl zad_) rfl ?_;refine Zz 9 ?_;have F:((Lib.join ((c.parts.take i).map Con.operand) [32,97,110,100,32])++(Con.operand o))=(Lib.join ((c.parts.take (i+1)).map Con.operand) [32,97,110,100,32]):=by have A:i=0:=zaa_;subst A;rw[Con.take_snoc e];simp[Lib.join_nil,Lib.join_one]
        exact w_ ⟨i+1,y⟩ zae_ ⟨rfl,(cN_ rfl F),rfl,trivial⟩ (.refl _) zh
       refine Zz 5 ?_;refine c_ (bn_ rfl rfl zad_) rfl ?_;refine Zz 8 ?_;refine c_ (J_ z_ i_ rfl rfl (λv _ h=>az_ (n:=5) Con.cells_len zaj_ zas_ e) zaa_ zah_) rfl ?_;refine c_ (ax_ (ad:=c.ad) (us:=Con.cells o) H_ i_ rfl (λv _ h=>by exact ((Con.mem_iff c v).1 h.1).1) (Con.cells_len _) (t_ Con.cells_len e)) rfl (d_ (G o zaI_ (Con.ok_part u d) (Con.fine_part k d) zaI_) rfl e_ (λv _ h=>by exact⟨(Con.mem_part (c:=c) h.1 d),trivial⟩) rfl λ_=>?_);have J:=Con.oper_len u k W d;refine c_ (bn_ rfl rfl zad_) rfl ?_;refine Zz 9 ?_;have F:(((Lib.join ((c.parts.take i).map Con.operand) [32,97,110,100,32])++[32,97,110,100,32])++(Con.operand o))=(Lib.join ((c.parts.take (i+1)).map Con.operand) [32,97,110,100,32]):=by rw[Con.take_snoc e,yaz_,yaE_,ybz_,Con.join_snoc _ _ _ (by intro q;have:=yag_ List.length q;rw[yaB_,yat_]at this;simp only[yaw_]at this;omega)]
       exact w_ ⟨i+1,y⟩ zae_ ⟨rfl,(cN_ rfl F),rfl,trivial⟩ (.refl _) zh
      have k:c.fine:=P.elim id (λq=>by omega);have S:=(Con.fields k).nm;have E:=(Con.fields k).le;rw[show c.kind=6 by omega]at E;simp[nd,dC_]at E
      obtain⟨y,o,e,d⟩:=zge (show 0<c.parts.length by omega);have Y:(c.parts.map Con.operand).headD []=Con.operand o:=by rw[hQ_ (x:=Con.operand o) (by rw[yaD_,e];rfl)]
      refine Zz 6 ?_;refine C_ 3 [0,1,2,3,4,5,6,7] zk zs (Zz 2 ?_);refine G_ rfl (bn_ rfl rfl zad_) rfl ?_;refine G_ rfl (bn_ rfl rfl zad_) rfl ?_;refine Zz 2 ?_;refine G_ rfl (J_ z_ i_ rfl rfl (λv _ h=>az_ (n:=5) Con.cells_len zaj_ zas_ e) zaa_ zah_) rfl ?_;refine G_ rfl (ax_ (ad:=c.ad) (us:=Con.cells o) H_ i_ rfl (λv _ h=>by exact ((Con.mem_iff c v).1 h.1).1) (Con.cells_len _) (t_ Con.cells_len e)) rfl (bd_ (j_ 8 rfl zk (d_ (G o zaI_ (Con.ok_part u d) (Con.fine_part k d) zaI_) rfl e_ (λv _ h=>by exact⟨(Con.mem_part (c:=c) h.1 d),trivial⟩) rfl λ_=>?_)));have J:=Con.oper_len u k W d;refine Zz 3 ?_;refine C_ 0 [9,10] zk zs ?_;refine G_ rfl (bn_ rfl rfl zad_) rfl ?_;refine Zz 5 ?_;exact W_ results188 () (cN_ rfl (by unfold Con.textR;rw[yam_ zaa_,Con.text_eq,Y];simp[*,Lib.join,List.intercalate])) e_ zt
     have k:c.fine:=P.elim id (λq=>by omega);have hrg:=Con.range_of k zaa_;have S:=(Con.fields k).nm;refine Zz 6 ?_;refine C_ 6 [0,1,2,3,4,8,9] zk zs (Zz 2 ?_);refine G_ rfl (bn_ rfl rfl zad_) rfl ?_;refine Zz 5 ?_;refine j_ 5 rfl zk (d_ (pk_ _ c.lo (yab_ _) zaa_ zaa_) rfl e_ zt rfl λ_=>?_);have hdl:=iy_ (n:=c.lo) zaa_ zaa_;refine Zz 3 ?_;refine C_ 3 [6,7] zk zs ?_;refine G_ rfl (bn_ rfl rfl zad_) rfl ?_;refine G_ rfl (bn_ rfl rfl zad_) rfl ?_;refine bd_ (j_ 10 rfl zk (d_ (pk_ _ c.hi (yab_ _) zaa_ zaa_) rfl e_ zt rfl λ_=>?_));have hdh:=iy_ (n:=c.hi) zaa_ zaa_;refine Zz 3 ?_;refine C_ 0 [11,12] zk zs ?_;refine G_ rfl (bn_ rfl rfl zad_) rfl ?_;refine Zz 5 ?_;exact fZ_
    have k:c.fine:=P.elim id (λq=>by omega);have S:=(Con.fields k).nm;refine Zz 8 ?_;refine c_ (bn_ rfl rfl zad_) rfl ?_;refine c_ (bn_ rfl rfl zad_) rfl ?_;refine Zz 4 ?_;exact fZ_
   refine Zz 12 ?_;exact fZ_
  refine Zz 10 ?_;exact fZ_
 refine Zz 10 ?_;exact fZ_
theorem vd_ (m:Nat) (h:(∀ (c:Con),c.sz<=m->c.ok->c.has->c.sz<=1000->Tri prog 188 #[c.val] [] [c.memF] (λ_:Unit=>str c.textR) (λ_=>[]) (λ_=>[]))) (c:Con) (hm:c.sz<=m) (e:c.ok) (o:c.fine) (u:c.sz<=1000):Tri prog 102 #[Con.val c] [] [Con.memF c] (λ_:Unit=>str c.operand) (λ_=>[]) (λ_=>[]):=by
 refine l_ func102 rfl rfl ntmps102 rfl λv=>?_;have y:=Con.text_len _ c (yab_ _) e o;have d:=Con.textR_fine o;refine Zz 2 ?_;refine Q_ rfl rfl λx=>Zi 8 (λk=>?_) λk=>?_
 .refine Zz 8 ?_
  refine d_ (h c hm e (.inl o) u) rfl e_ zf rfl λ_=>Zz 4 ?_
  exact W_ results102 () (cN_ rfl (by rw[d];unfold Con.operand;simp[*])) e_ zt
 refine Zz 6 ?_;refine d_ (h c hm e (.inl o) u) rfl e_ zf rfl λ_=>?_;refine c_ (bn_ rfl rfl zbJ_) rfl ?_;refine c_ (bn_ rfl rfl zbJ_) rfl ?_;refine Zz 4 ?_;exact W_ results102 () (cN_ rfl (by rw[d];unfold Con.operand;simp[*])) e_ zt
theorem ik_:∀ m:Nat,(∀ (c:Con),c.sz<=m->c.ok->c.has->c.sz<=1000->Tri prog 188 #[c.val] [] [c.memF] (λ_:Unit=>str c.textR) (λ_=>[]) (λ_=>[]))/\(∀ (c:Con),c.sz<=m->c.ok->c.fine->c.sz<=1000->Tri prog 102 #[c.val] [] [c.memF] (λ_:Unit=>str c.operand) (λ_=>[]) (λ_=>[]))
  | 0=>⟨λc h=>by have:=c.sz_pos;omega,λc h=>by have:=c.sz_pos;omega⟩
  | m+1 =>
    have u:=ik_ m;have o:∀ (c:Con),c.sz<=m+1->c.ok->c.has->c.sz<=1000->Tri prog 188 #[c.val] [] [c.memF] (λ_:Unit=>str c.textR) (λ_=>[]) (λ_=>[]):=λc h e d k=>BQ_ m u.2 c h e d k
    ⟨o,λc h e d k=>vd_ (m+1) o c h e d k⟩
theorem BR_ (c:Con) (d:c.ok) (e:c.has) (h:c.sz<=1000):Tri prog 188 #[c.val] [] [c.memF] (λ_:Unit=>str c.textR) (λ_=>[]) (λ_=>[]):=(ik_ _).1 c (yab_ _) d e h
end Go.Proofs.YtbffkokbdeppaaaGreatDoor
namespace Go.Vs
open Go Go.Sx
structure Pw where
  l:List Pc
  ad:Ao
  cap:Nat
def Pw.cells (x:Pw):List Value:=[.slice x.ad x.l.length x.cap]
theorem Pw.cells_len (x:Pw):x.cells.length=1:=rfl
def pwF (ls:List Pw):Fct where
  p:=λv=>∀ x∈ls,bW_ v x.ad (x.l.flatMap Pc.cells)
  mono:=λv v' h hp x hx=>(O_ x.ad _).mono v v' h (hp x hx)
theorem bX_ {v:Vw}:(pwF []).p v:=λ_ h=>by simp at h
theorem T_ {v:Vw} {x:Pw} {e:List Pw} (h:bW_ v x.ad (x.l.flatMap Pc.cells)) (k:(pwF e).p v):(pwF (x::e)).p v:=λy d=>by
 rcases yar_.1 d with rfl|d
 .exact h
 exact k y d
def fj_ (frm:Int) (l ps:List Pc):List Pc:=ps.foldl (ins frm) l
theorem cB_ (frm:Int) (l ps d:List Pc):fj_ frm l (ps++d)=fj_ frm (fj_ frm l ps) d:=by grind[fj_]
theorem hP_ (frm:Int) (l:List Pc) (p:Pc) (d:List Pc):fj_ frm l (p::d)=fj_ frm (ins frm l p) d:=rfl
theorem Ar_ (frm:Int) (l:List Pc):fj_ frm l []=l:=rfl
theorem gl_ (frm:Int) (l:List Pc) (p:Pc):fj_ frm l [p]=ins frm l p:=rfl
theorem ud_ (frm:Int):∀ (ps l:List Pc),(fj_ frm l ps).length<=l.length+ps.length
  | [],l=>by grind[Ar_]
  | p::ps,l=>by
    have d:=cX_ frm l p;have e:=ud_ frm ps (ins frm l p)
    grind[hP_]
namespace Con
def firstS (c:Con) (j:Nat):Str:=if j=1 then (c.parts.map atom).headD [] else (c.pre j).atom
def andL (c:Con):List Con->Nat->List Pc
  | [],_=>[]
  | p::r,j=>⟨2,firstS c j,p.atom,firstS c (j+1),[],[],[],0,0,0⟩::andL c r (j+1)
theorem andL_len (c:Con):∀ (r:List Con) (j:Nat),(andL c r j).length=r.length
  | [],_=>rfl
  | p::r,j=>by simp only[andL,yap_,andL_len c r (j+1)]
theorem uG_ (frm:Int) (c:Con):∀ (r:List Con) (j:Nat) (l:List Pc),1<=j->andP frm c r j (firstS c j) l=fj_ frm l (andL c r j)
  | [],_,_,_=>rfl
  | p::r,j,l,h=>by
    have e:(c.pre (j+1)).atom=firstS c (j+1):=by grind[firstS]
    simp only[andP,andL,hP_];rw[e,uG_ frm c r (j+1) _ zaa_]
def rleft:Con->List Pc
  | c@(mk k nm lo hi _ _ ps) =>
    if k=5 then rlefts ps++andL c (ps.drop 1) 1
    else if k=6 then rlefts ps++[⟨4,(ps.map atom).headD [],[],c.atom,nm,[],[],0,0,0⟩]
    else if k=7 then [⟨9,[],[],c.atom,nm,[],[],lo,hi,0⟩]
    else []
where rlefts:List Con->List Pc
  | []=>[]
  | p::ps=>rleft p++rlefts ps
theorem rleft_eq (c:Con):c.rleft =
    if c.kind=5 then rleft.rlefts c.parts++andL c (c.parts.drop 1) 1
    else if c.kind=6 then rleft.rlefts c.parts++[⟨4,(c.parts.map atom).headD [],[],c.atom,c.name,[],[],0,0,0⟩]
    else if c.kind=7 then [⟨9,[],[],c.atom,c.name,[],[],c.lo,c.hi,0⟩]
    else []:=by cases c;rw[rleft];rfl
theorem kz_:∀ (xs ys:List Con),rleft.rlefts (xs++ys)=rleft.rlefts xs++rleft.rlefts ys
  | [],_=>rfl
  | x::xs,ys=>by simp only[yaL_,rleft.rlefts,kz_ xs ys,yak_]
theorem rlefts_step {ps:List Con} {p:Con} {i:Nat} (d:ps[i]? = some p):rleft.rlefts (ps.take (i+1))=rleft.rlefts (ps.take i)++p.rleft:=by
  rw[take_snoc d,kz_];simp[rleft.rlefts]
def rright:Con->List Pc
  | c@(mk k nm lo hi _ _ ps) =>
    if k=5 then rrights c.atom ps
    else if k=6 then ⟨3,c.atom,[],(ps.map atom).headD [],nm,[],[],0,0,0⟩::rrighty ps
    else if k=7 then [⟨8,c.atom,[],[],nm,[],[],lo,hi,0⟩]
    else []
where
  rrights (a:Str):List Con->List Pc
  | []=>[]
  | p::ps=>⟨1,a,[],p.atom,[],[],[],0,0,0⟩::(rright p++rrights a ps)
  rrighty:List Con->List Pc
  | []=>[]
  | p::ps=>rright p++rrighty ps
theorem rright_eq (c:Con):c.rright =
    if c.kind=5 then rright.rrights c.atom c.parts
    else if c.kind=6 then ⟨3,c.atom,[],(c.parts.map atom).headD [],c.name,[],[],0,0,0⟩::rright.rrighty c.parts
    else if c.kind=7 then [⟨8,c.atom,[],[],c.name,[],[],c.lo,c.hi,0⟩]
    else []:=by cases c;rw[rright];rfl
theorem jy_ (a:Str):∀ (xs ys:List Con),rright.rrights a (xs++ys)=rright.rrights a xs++rright.rrights a ys
  | [],_=>rfl
  | x::xs,ys=>by simp only[yaL_,rright.rrights,jy_ a xs ys,yak_]
theorem rrights_step (a:Str) {ps:List Con} {p:Con} {i:Nat} (d:ps[i]? = some p):rright.rrights a (ps.take (i+1))=rright.rrights a (ps.take i)++[⟨1,a,[],p.atom,[],[],[],0,0,0⟩]++p.rright:=by
  rw[take_snoc d,jy_];simp[rright.rrights]
theorem leftP_ins (frm:Int):∀ (m:Nat) (c:Con),c.sz<=m->∀ l,c.leftP frm l=fj_ frm l c.rleft
 | 0,c,h=>by grind[sz_pos]
 | m+1,c,h=>λl=>by
   have key:∀ ps:List Con,(∀ p∈ps,p.sz<=m)->∀ l,leftP.lefts frm ps l=fj_ frm l (rleft.rlefts ps):=by
     intro ps
     induction ps with
     | nil=>intro _ l;rfl
     | cons p ps ih =>
       intro d l;simp only[leftP.lefts,rleft.rlefts];rw[leftP_ins frm m p (d p zak_),ih (λq k=>d q (by simp[k])),cB_]
   have o:=key c.parts (λp d=>by have:=sz_part d;omega) l;rw[leftP_eq,rleft_eq]
   split
   . have e:(c.parts.map atom).headD []=firstS c 1:=by grind[firstS]
     grind[uG_,cB_]
   . split
     . grind[cB_,gl_]
     . split
       . rw[gl_]
       . rfl
theorem rightP_ins (frm:Int):∀ (m:Nat) (c:Con),c.sz<=m->∀ l,c.rightP frm l=fj_ frm l c.rright
 | 0,c,h=>by grind[sz_pos]
 | m+1,c,h=>λl=>by
   have key:∀ ps:List Con,(∀ p∈ps,p.sz<=m)->∀ a l,rightP.rights frm a ps l=fj_ frm l (rright.rrights a ps):=by
     intro ps
     induction ps with
     | nil=>intro _ a l;rfl
     | cons p ps ih =>
       intro d a l;simp only[rightP.rights,rright.rrights];rw[rightP_ins frm m p (d p zak_),ih (λq e=>d q zcb_),hP_,cB_]
   have k:∀ ps:List Con,(∀ p∈ps,p.sz<=m)->∀ l,rightP.righty frm ps l=fj_ frm l (rright.rrighty ps):=by
     intro ps
     induction ps with
     | nil=>intro _ l;rfl
     | cons p ps ih =>
       intro d l;simp only[rightP.righty,rright.rrighty];rw[rightP_ins frm m p (d p zak_),ih (λq e=>d q zcb_),cB_]
   have o:∀ p∈c.parts,p.sz<=m:=λp d=>by have:=sz_part d;omega
   rw[rightP_eq,rright_eq]
   split
   . grind
   . split
     . grind[hP_]
     . split
       . rw[gl_]
       . rfl
theorem rleft_len:∀ (m:Nat) (c:Con),c.sz<=m->c.rleft.length+1<=2*c.sz
  | 0,c,h=>by grind[sz_pos]
  | m+1,c,h=>by
    have key:∀ ps:List Con,(∀ p∈ps,p.sz<=m)->(rleft.rlefts ps).length+ps.length<=2*sz.szs ps:=by
      intro ps
      induction ps with
      | nil=>grind[rleft.rlefts]
      | cons p ps ih =>
        intro d;have k:=rleft_len m p (d p zak_)
        grind[rleft.rlefts,sz.szs]
    have e:=key c.parts (λp d=>by have:=sz_part d;omega)
    grind[sz_eq,rleft_eq,andL_len]
theorem rright_len:∀ (m:Nat) (c:Con),c.sz<=m->c.rright.length+1<=2*c.sz
  | 0,c,h=>by grind[sz_pos]
  | m+1,c,h=>by
    have key:∀ ps:List Con,(∀ p∈ps,p.sz<=m)->∀ a,(rright.rrights a ps).length<=2*sz.szs ps:=by
      intro ps
      induction ps with
      | nil=>grind[rright.rrights]
      | cons p ps ih =>
        intro d a;have o:=rright_len m p (d p zak_)
        grind[rright.rrights,sz.szs]
    have e:∀ ps:List Con,(∀ p∈ps,p.sz<=m)->(rright.rrighty ps).length<=2*sz.szs ps:=by
      intro ps
      induction ps with
      | nil=>grind[rright.rrighty]
      | cons p ps ih =>
        intro d;have o:=rright_len m p (d p zak_)
        grind[rright.rrighty,sz.szs]
    have k:∀ p∈c.parts,p.sz<=m:=λp d=>by have:=sz_part d;omega
    grind[sz_eq,rright_eq]
def nameR (c:Con):Str :=
  if c.kind=1 then [42] else if c.kind=2 then [33] else if c.kind=3 then c.name else if c.kind=4 then [123]++c.name++[125] else [60]++c.textR++[62]
theorem nameR_eq {c:Con} (h:c.check=0):c.nameR=c.atom:=by
  grind[nameR,atom,textN,textR_fine,check_zero]
theorem has_of {c:Con} (h:c.check=0):c.has:=.inl (check_zero h).1
end Con
namespace Ax
def chainL (role:Str):List Str->Str->List Pc
  | [],_=>[]
  | r::t,f=>⟨6,[],[],[],f,r,if t=[] then role else f++[46]++r,0,0,0⟩::chainL role t (if t=[] then role else f++[46]++r)
theorem qe_ (frm:Int) (role:Str):∀ (d:List Str) (f:Str) (l:List Pc),chainP frm role d f l=fj_ frm l (chainL role d f)
  | [],_,_=>rfl
  | r::t,f,l=>by simp only[chainP,chainL,hP_];exact qe_ frm role t _ _
theorem chainL_len (role:Str):∀ (d:List Str) (f:Str),(chainL role d f).length=d.length
  | [],_=>rfl
  | r::t,f=>by simp only[chainL,yap_,chainL_len role t]
def rpieces (x:Ax):List Pc :=
  if x.kind=1 then (x.left.rleft++x.right.rright)++[⟨1,x.left.atom,[],x.right.atom,[],[],[],0,0,0⟩]
  else if x.kind=2 then ((((x.left.rleft++x.right.rright)++[⟨1,x.left.atom,[],x.right.atom,[],[],[],0,0,0⟩])++x.right.rleft)++x.left.rright)++[⟨1,x.right.atom,[],x.left.atom,[],[],[],0,0,0⟩]
  else if x.kind=3 then (x.left.rleft++x.right.rleft)++[⟨2,x.left.atom,x.right.atom,[33],[],[],[],0,0,0⟩]
  else if x.kind=4 then x.right.rright++[⟨4,[42],[],x.right.atom,x.role,[],[],0,0,0⟩]
  else if x.kind=5 then [⟨5,[],[],[],x.roles.headD [],[],x.role,0,0,0⟩]
  else if x.kind=6 then chainL x.role (x.roles.drop 1) (x.roles.headD [])
  else if x.kind=7 then [⟨7,[],[],[],x.role,[],[],0,0,0⟩]
  else if x.kind=8 then x.right.rright++[⟨1,[123]++x.a++[125],[],x.right.atom,[],[],[],0,0,0⟩]
  else [⟨3,[123]++x.a++[125],[],[123]++x.b++[125],x.role,[],[],0,0,0⟩]
theorem pieces_ins (frm:Int) (x:Ax):x.pieces frm=fj_ frm [] x.rpieces:=by
  have L:=λ(c:Con) l=>Con.leftP_ins frm _ c (yab_ _) l
  have R:=λ(c:Con) l=>Con.rightP_ins frm _ c (yab_ _) l
  grind[pieces,rpieces,cB_,gl_,qe_]
end Ax
end Go.Vs
namespace Go.Proofs.YtbffkokbdeppaaaGreatDoor
open Go Go.Sx Go.Proofs Tryz
attribute [local irreducible] Code.wp wpList wpAnyH
open Go.Vs
theorem hU_:Elt prog 69 80 10 128:=gn_ underlying69 (z:=.agg #[i4_ 0,str [],str [],str [],str [],str [],str [],i4_ 0,i4_ 0,i4_ 0]) zam_ rfl zaj_
theorem Con.textR_len {c:Con} (d:c.ok) (e:c.has) (k:c.sz<=1000):c.textR.length<=100000:=by
 rcases e with h|h
 .rw[Con.textR_fine h]
  have:=Con.text_len _ c (yab_ _) d h;omega
 grind[Con.textR]
theorem hn_ {G:Prop} (h:G:=by
 exact W_ results97 () (cN_ rfl (by unfold Con.nameR;simp[*])) e_ zt):G:=h
theorem nm_ {G:Prop} (h:G:=by
 refine c_ (bn_ rfl rfl zad_) rfl ?_;refine c_ (bn_ rfl rfl zad_) rfl ?_;refine Zz 4 ?_;exact hn_):G:=h
theorem lW_ (c:Con) (d:c.ok) (u:c.has) (x:c.sz<=1000):Tri prog 97 #[Con.val c] [] [Con.memF c] (λ_:Unit=>str c.nameR) (λ_=>[]) (λ_=>[]):=by
 refine l_ func97 rfl rfl ntmps97 rfl λy=>?_;have C:=Con.textR_len d u x;refine Zz 2 ?_;refine Q_ rfl rfl λA=>Zi 13 (λk=>?_) λk=>?_
 .refine Zi 6 (λo=>?_) λo=>?_
  .refine Zi 6 (λh=>?_) λh=>?_
   .refine Zi 6 (λe=>?_) λe=>?_
    .refine Zz 9 ?_
     refine d_ (BR_ c d u x) rfl e_ zf rfl λ_=>?_;exact nm_
    have v:c.fine:=u.elim id (λq=>by omega);have B:=(Con.fields v).nm;refine Zz 8 ?_;exact nm_
   refine Zz 12 ?_;exact hn_
  refine Zz 10 ?_;exact hn_
 refine Zz 10 ?_;exact hn_
theorem eC_ (c:Con) (d:c.ok) (e:c.check=0):Tri prog 97 #[c.val] [] [c.memF] (λ_:Unit=>str c.atom) (λ_=>[]) (λ_=>[]):=by
  have h:=lW_ c d (Con.has_of e) (by have:=(Con.check_zero e).2;omega)
  grind[Con.nameR_eq]
theorem tw_ (c:Con) (k:c.ok) (A:c.check=0) (E:c.kind=5) (j:Nat) (G:1<=j/\j<=c.parts.length):Tri prog 189 #[Con.val c,i4_ j] [] [Con.memF c] (λ_:Unit=>str (c.firstS j)) (λ_=>[]) (λ_=>[]):=by
 refine l_ func189 rfl rfl ntmps189 rfl λB=>?_;have C:=Con.ok_len k;refine Zz 2 ?_;refine Q_ rfl rfl λF=>Zi 7 (λu=>?_) λu=>?_
 .refine Zz 10 ?_
  refine c_ (aD_ (cq_ (i:=0) (j:=j) (kl:=.i64) (kh:=.i64) z_ i_ rfl rfl rfl zaa_ zaa_) (show _=Value.slice (sad c.ad c.cap 0 5) (c.parts.take j).length (c.cap - 0) by rw[yat_,ybk_ zaa_];rfl)) rfl ?_;refine c_ (x_ ff_ rfl rfl) rfl (d_ (eC_ (Con.mk 5 [] 0 0 (sad c.ad c.cap 0 5) (c.cap - 0) (c.parts.take j)) (Con.pre_ok k j) (Con.pre_check A E zaa_ zaa_)) rfl e_ (λv _ h=>by exact⟨(Con.pre_mem k h.1 j),trivial⟩) rfl λ_=>Zz 4 ?_);exact W_ results189 () (cN_ rfl (by unfold Con.firstS;rw[yam_ zaa_];rfl)) e_ zt
 obtain⟨y,o,e,d⟩:=zge (show 0<c.parts.length by omega);refine Zz 7 ?_;refine c_ (J_ z_ i_ rfl rfl (λv _ h=>az_ (n:=5) Con.cells_len zaj_ zas_ e) zaa_ zah_) rfl ?_;refine c_ (ax_ (ad:=c.ad) (us:=Con.cells o) H_ i_ rfl (λv _ h=>by exact ((Con.mem_iff c v).1 h.1).1) (Con.cells_len _) (t_ Con.cells_len e)) rfl (d_ (eC_ o (Con.ok_part k d) (Con.check_part A d)) rfl e_ (λv _ h=>by exact⟨(Con.mem_part (c:=c) h.1 d),trivial⟩) rfl λ_=>Zz 4 ?_);exact W_ results189 () (cN_ rfl (by unfold Con.firstS;rw[yax_ zaa_,hQ_ (x:=Con.atom o) (by rw[yaD_,e];rfl)])) e_ zt
theorem oG_ {l:List Pc} {u:Value} (h:u∈l.flatMap Pc.cells):u.oneCell'=true:=by
  grind[Pc.cells_one]
theorem Con.rlefts_len (ps:List Con) (i:Nat):(Con.rleft.rlefts (ps.take i)).length<=2*Con.sz.szs ps:=by
  have key:∀ ps:List Con,(Con.rleft.rlefts ps).length<=2*Con.sz.szs ps:=by
    intro ps
    induction ps with
    | nil=>grind[Con.rleft.rlefts]
    | cons p ps ih =>
      have:=Con.rleft_len _ p (yab_ _)
      grind[Con.rleft.rlefts,Con.sz.szs]
  grind[Con.szs_take_le]
theorem Con.andL_get (c:Con):∀ (r:List Con) (j q:Nat) (p:Con),r[q]? = some p->(Con.andL c r j)[q]? = some ⟨2,Con.firstS c (j+q),p.atom,Con.firstS c (j+q+1),[],[],[],0,0,0⟩
  | [],_,_,_,h=>by simp at h
  | x::r,j,0,p,h=>by simp only[ybq_,yai_]at h;subst h;rfl
  | x::r,j,q+1,p,h=>by
    have:=Con.andL_get c r (j+1) q p zap_
    grind[Con.andL]
theorem Con.andL_step (c:Con) {q:Nat} {p:Con} (h:c.parts[(q+1:Nat)]? = some p):(Con.andL c (c.parts.drop 1) 1).take (q+1)=(Con.andL c (c.parts.drop 1) 1).take q++[⟨2,Con.firstS c (q+1),p.atom,Con.firstS c (q+2),[],[],[],0,0,0⟩]:=by
  grind[andL_get,List.take_add_one]
theorem cR_:∀ (m:Nat) (c:Con),c.sz<=m->c.ok->c.check=0->Tri prog 101 #[Con.val c] [] [Con.memF c] (λy:{y:Value×Hp // av_ 80 10 y.1 c.rleft.length (c.rleft.flatMap Pc.cells) y.2}=>y.1.1) (λy=>y.1.2) (λ_=>[]):=by
 intro m
 induction m with
 | zero=>intro c h;have:=c.sz_pos;omega
 | succ m ih =>
   intro c hm G L;have hpl:=Con.ok_len G;have hz:=(Con.check_zero L).2;refine l_ func101 rfl rfl ntmps101 rfl λv_1=>?_;refine aq_ ?_;refine S_ ?_;refine Q_ rfl rfl λH=>?_;refine c_ (X_ rfl) rfl ?_;refine ai_ ?_;refine ac_ rfl ?_;refine aq_ ?_;refine S_ ?_;refine c_ (X_ rfl) rfl ?_;refine ai_ ?_;refine ac_ rfl ?_;refine aq_ ?_;refine aq_ ?_;refine S_ ?_;refine c_ (bl_ ao_ rfl rfl rfl af_) rfl ?_;refine c_ (aK_ 0 aU_ rfl rfl rfl) rfl ?_;refine ai_ ?_;refine ac_ rfl ?_;refine cC_ ?_;refine aq_ ?_;refine S_ ?_;refine A_ (al_ rfl rfl) rfl λb1 F=>?_;refine c_ (X_ rfl) rfl ?_;refine ai_ ?_;refine ac_ rfl ?_;cases b1
   . replace F:=znb F;refine bU_ rfl ?_;refine aq_ ?_;refine S_ ?_;refine A_ (al_ rfl rfl) rfl λS k=>?_;refine c_ (X_ rfl) rfl ?_;refine ai_ ?_;refine ac_ rfl ?_;cases S
     . replace k:=znb k;refine bU_ rfl ?_;refine aq_ ?_;refine S_ ?_;refine A_ (al_ rfl rfl) rfl λT A=>?_;refine c_ (X_ rfl) rfl ?_;refine ai_ ?_;refine ac_ rfl ?_;cases T
       . replace A:=znb A;refine bU_ rfl ?_;refine cQ_ ?_;refine ac_ rfl ?_;refine aq_ ?_;refine S_ ?_;refine c_ (P_ rfl) rfl ?_;refine c_ (X_ rfl) rfl ?_;refine ai_ ?_;refine ac_ rfl ?_;refine dU_ ?_;exact W_ results101 ⟨(.slice none 0 0,[]),by dsimp only;rw[Con.rleft_eq];simp only[*,ycm_];exact av_.nil _ _⟩ rfl e_ zt
       . replace A:=zeb A;refine bT_ rfl ?_;refine aW_ ((H,.cells (Con.cells c).toArray 28 (0,0))::[]) zk ?_;refine C_ 5 [0,1,2,3,4,5,6,7] zk zs ?_;refine G_ rfl (P_ rfl) rfl ?_;refine G_ rfl (bl_ ao_ rfl rfl rfl B_) rfl ?_;refine G_ rfl (aK_ 0 aJ_ rfl rfl rfl) rfl ?_;refine G_ rfl (bl_ ao_ rfl rfl rfl af_) rfl ?_;refine G_ rfl (aK_ 0 aU_ rfl rfl rfl) rfl ?_;refine G_ rfl (bl_ ao_ rfl rfl rfl af_) rfl ?_;refine G_ rfl (aK_ 0 aU_ rfl rfl rfl) rfl ?_;refine G_ rfl (cx_ 0 H_ i_ rfl rfl rfl) rfl ?_;refine bd_ ?_;refine j_ 8 rfl zk ?_;refine d_ (eC_ c G L) rfl e_ zf rfl λ_=>?_;refine ai_ ?_;refine bE_ rfl ?_;refine y_ zs ?_;refine C_ 3 [9] zk zs ?_;refine G_ rfl (x_ ct_ rfl rfl) rfl ?_;refine bd_ ?_;refine j_ 10 rfl zk ?_;refine p_ u_ ab_ N_ rfl rfl rfl rfl rfl rfl λV=>?_;refine ai_ ?_;refine bE_ rfl ?_;refine y_ zs ?_;refine j_ 11 rfl zk ?_;refine am_ (news:=Pc.cells (Pc.mk 9 [] [] (Con.atom c) c.name [] [] c.lo c.hi 0)) hU_ (av_.nil 80 10) rfl rfl e_ rfl (aO_ 0 rfl) (λu R=>dn_ (Pc.cells_one _) u R) zay_ zaa_ rfl λo x F=>?_;refine s_ (@List.perm_append_comm _ _ [_,_]) ?_;have B:av_ 80 10 o (([]:List Pc)++[(Pc.mk 9 [] [] (Con.atom c) c.name [] [] c.lo c.hi 0)]).length ((([]:List Pc)++[(Pc.mk 9 [] [] (Con.atom c) c.name [] [] c.lo c.hi 0)]).flatMap Pc.cells) x:=by rw[yae_,yan_];simpa using F
         refine ai_ ?_;refine bE_ rfl ?_;refine y_ (λ_ a b=>⟨Vw.sat.sub (a.perm (g_ f_)),b⟩) ?_;refine C_ 0 [12] zk (λ_ a b=>⟨Vw.sat.sub (a.perm (g_ f_)),b⟩) ?_;refine G_ rfl (X_ rfl) rfl ?_;refine bd_ ?_;refine fG_ zk ?_;refine ac_ rfl ?_;refine aq_ ?_;refine S_ ?_;refine c_ (P_ rfl) rfl ?_;refine c_ (X_ rfl) rfl ?_;refine ai_ ?_;refine ac_ rfl ?_;refine dU_ ?_;exact W_ results101 ⟨(o,x),by dsimp only;rw[Con.rleft_eq];simp only[*,ycu_,ycm_];first|exact B|(simp[Con.rleft.rlefts,Con.rright.rrighty];simpa using B)⟩ rfl zp zt
     . replace k:=zeb k;have K:=(Con.fields (Con.check_zero L).1).le;have O:=(Con.fields (Con.check_zero L).1).mo;rw[show c.kind=6 by omega]at K O;simp[nd,dC_]at K O
       obtain⟨I,C,e,d⟩:=zge (show 0<c.parts.length by omega);obtain⟨E,a4⟩:=ybb_.1 (show c.parts.length=1 by omega);have W:E=C:=by rw[a4]at e;simpa using e
       subst W;have a7:=Con.rleft_len _ E (yab_ _);have Z:=Con.sz_part d;refine bT_ rfl ?_;refine aW_ ((H,.cells (Con.cells c).toArray 28 (0,0))::[]) zk ?_;refine C_ 7 [0,1,2,3,5,6,7,8,9,10,12] zk zs ?_;refine G_ rfl (bl_ ao_ rfl rfl rfl dk_) rfl ?_;refine G_ rfl (aK_ 0 ew_ rfl rfl rfl) rfl ?_;refine G_ rfl (J_ z_ i_ rfl rfl (λv _ h=>az_ (n:=5) Con.cells_len zaj_ zas_ e) zaa_ zah_) rfl ?_;refine G_ rfl (ax_ (ad:=c.ad) (us:=Con.cells E) H_ i_ rfl (λv _ h=>by exact ((Con.mem_iff c v).1 h.1).1) (Con.cells_len _) (t_ Con.cells_len e)) rfl ?_;refine G_ rfl (bl_ ao_ rfl rfl rfl B_) rfl ?_;refine G_ rfl (aK_ 0 aJ_ rfl rfl rfl) rfl ?_;refine G_ rfl (bl_ ao_ rfl rfl rfl dk_) rfl ?_;refine G_ rfl (aK_ 0 ew_ rfl rfl rfl) rfl ?_;refine G_ rfl (J_ z_ i_ rfl rfl (λv _ h=>az_ (n:=5) Con.cells_len zaj_ zas_ e) zaa_ zah_) rfl ?_;refine G_ rfl (ax_ (ad:=c.ad) (us:=Con.cells E) H_ i_ rfl (λv _ h=>by exact ((Con.mem_iff c v).1 h.1).1) (Con.cells_len _) (t_ Con.cells_len e)) rfl ?_;refine G_ rfl (cx_ 0 H_ i_ rfl rfl rfl) rfl ?_;refine bd_ ?_;refine j_ 4 rfl zk ?_;refine d_ (ih E zaI_ (Con.ok_part G d) (Con.check_part L d)) rfl e_ (λv _ h=>by exact⟨(Con.mem_part (c:=c) h.1 d),trivial⟩) rfl λ⟨⟨X,a3⟩,Y⟩=>?_;dsimp only;refine ai_ ?_;refine bE_ rfl ?_;refine y_ zs ?_;refine j_ 11 rfl zk ?_;refine d_ (eC_ E (Con.ok_part G d) (Con.check_part L d)) rfl e_ (λv _ h=>by exact⟨(Con.mem_part (c:=c) h.1 d),trivial⟩) rfl λ_=>?_;refine s_ zK_ ?_;refine ai_ ?_;refine bE_ rfl ?_;refine y_ zs ?_;refine j_ 13 rfl zk ?_;refine d_ (eC_ c G L) rfl e_ zf rfl λ_=>?_;refine s_ zK_ ?_;refine ai_ ?_;refine bE_ rfl ?_;refine y_ zs ?_;refine C_ 3 [14] zk zs ?_;refine G_ rfl (x_ ct_ rfl rfl) rfl ?_;refine bd_ ?_;refine j_ 15 rfl zk ?_;refine p_ u_ ab_ N_ rfl rfl rfl rfl rfl rfl λV=>?_;refine ai_ ?_;refine bE_ rfl ?_;refine y_ zs ?_;refine j_ 16 rfl zk ?_;refine am_ (news:=Pc.cells (Pc.mk 4 (Con.atom E) [] (Con.atom c) c.name [] [] 0 0 0)) hU_ Y rfl rfl zp rfl (aO_ 0 rfl) (λu R=>dn_ (Pc.cells_one _) u R) zay_ zaa_ rfl λo x k=>?_;refine s_ (@List.perm_append_comm _ _ [_,_]) ?_;have B:av_ 80 10 o ((Con.rleft E)++[(Pc.mk 4 (Con.atom E) [] (Con.atom c) c.name [] [] 0 0 0)]).length (((Con.rleft E)++[(Pc.mk 4 (Con.atom E) [] (Con.atom c) c.name [] [] 0 0 0)]).flatMap Pc.cells) x:=by rw[yae_,yan_];simpa using k
       refine ai_ ?_;refine bE_ rfl ?_;refine y_ (λ_ a b=>⟨Vw.sat.sub (a.perm (g_ f_)),b⟩) ?_;refine C_ 0 [17] zk (λ_ a b=>⟨Vw.sat.sub (a.perm (g_ f_)),b⟩) ?_;refine G_ rfl (X_ rfl) rfl ?_;refine bd_ ?_;refine fG_ zk ?_;refine ac_ rfl ?_;refine aq_ ?_;refine S_ ?_;refine c_ (P_ rfl) rfl ?_;refine c_ (X_ rfl) rfl ?_;refine ai_ ?_;refine ac_ rfl ?_;refine dU_ ?_;exact W_ results101 ⟨(o,x),by dsimp only;rw[Con.rleft_eq];simp only[*,ycu_,ycm_];first|exact B|(simp[Con.rleft.rlefts,Con.rright.rrighty];simpa using B)⟩ rfl zp zt
   . replace F:=zeb F;refine bT_ rfl ?_;refine aq_ ?_;refine aq_ ?_;refine S_ ?_;refine c_ (X_ rfl) rfl ?_;refine ai_ ?_;refine ac_ rfl ?_;refine cC_ ?_;refine bc_ [(1,zp_ H 0),(3,.slice none 0 0),(4,i4_ ((0:Nat):Int))] zl ?_;refine bs_ (ι:={y:Nat×Value×Hp // y.1<=c.parts.length/\av_ 80 10 y.2.1 (Con.rleft.rlefts (c.parts.take y.1)).length ((Con.rleft.rlefts (c.parts.take y.1)).flatMap Pc.cells) y.2.2}) (λy=>[(1,zp_ H 0),(3,y.1.2.1),(4,i4_ y.1.1)]) (λy=>_::y.1.2.2) (λ_=>_) (λy=>c.parts.length - y.1.1) ⟨(0,.slice none 0 0,[]),by simp,av_.nil _ _⟩ ?_;rintro ⟨⟨i,sv,Hr⟩,hi,J⟩;dsimp only at hi J;dsimp only;have a9:=Con.rlefts_len c.parts i;have hsc:=Con.sz_eq c;refine bc_ [(1,zp_ H 0),(3,sv),(4,i4_ i)] zl ?_;refine aq_ ?_;refine aq_ ?_;refine S_ ?_;refine c_ (P_ rfl) rfl ?_;refine c_ (bl_ ao_ rfl rfl rfl dk_) rfl ?_;refine c_ (aK_ 0 ew_ rfl rfl rfl) rfl ?_;refine c_ (dS_ z_ rfl) rfl ?_;refine A_ (dw_ rfl rfl) rfl λS k=>?_;refine ai_ ?_;refine ac_ rfl ?_;cases S
     . replace k:=zdf k;refine bU_ rfl ?_;refine ge_ rfl ?_;refine ac_ rfl ?_;refine aq_ ?_;refine S_ ?_;refine c_ (X_ rfl) rfl ?_;refine ai_ ?_;refine ac_ rfl ?_;refine cC_ ?_;have et:c.parts.take i=c.parts:=yac_ zaa_;rw[et]at J a9;have a8:=Con.andL_len c (c.parts.drop 1) 1;rw[ybD_]at a8;have a1:=(Con.fields (Con.check_zero L).1).le;have a5:=(Con.fields (Con.check_zero L).1).mo;rw[show c.kind=5 by omega]at a1 a5;simp[nd,dC_]at a1 a5
       refine bc_ [(1,zp_ H 0),(3,sv),(5,i4_ ((0+2:Nat):Int))] zl ?_;refine bs_ (ι:={y:Nat×Value×Hp // y.1+1<=c.parts.length/\av_ 80 10 y.2.1 ((Con.rleft.rlefts c.parts)++(Con.andL c (c.parts.drop 1) 1).take y.1).length (((Con.rleft.rlefts c.parts)++(Con.andL c (c.parts.drop 1) 1).take y.1).flatMap Pc.cells) y.2.2}) (λy=>[(1,zp_ H 0),(3,y.1.2.1),(5,i4_ ((y.1.1+2:Nat):Int))]) (λy=>_::y.1.2.2) (λ_=>_) (λy=>c.parts.length - y.1.1) ⟨(0,sv,Hr),by dsimp only;omega,by simpa using J⟩ ?_;rintro ⟨⟨q,sw,Hw⟩,B,M⟩;dsimp only at B M;dsimp only;have hlq:(((Con.rleft.rlefts c.parts)++(Con.andL c (c.parts.drop 1) 1).take q)).length<=2*c.sz+8:=by rw[yae_,yat_];have hmn:=yde_ q (Con.andL c (c.parts.drop 1) 1).length;omega
       refine bc_ [(1,zp_ H 0),(3,sw),(5,i4_ ((q+2:Nat):Int))] zl ?_;refine aq_ ?_;refine aq_ ?_;refine S_ ?_;refine c_ (P_ rfl) rfl ?_;refine c_ (bl_ ao_ rfl rfl rfl dk_) rfl ?_;refine c_ (aK_ 0 ew_ rfl rfl rfl) rfl ?_;refine c_ (dS_ z_ rfl) rfl ?_;refine A_ (dx_ rfl rfl) rfl λT A=>?_;refine ai_ ?_;refine ac_ rfl ?_;cases T
       . replace A:=zdf A;refine bU_ rfl ?_;refine ge_ rfl ?_;refine ac_ rfl ?_;refine aq_ ?_;refine S_ ?_;refine c_ (P_ rfl) rfl ?_;refine c_ (X_ rfl) rfl ?_;refine ai_ ?_;refine ac_ rfl ?_;refine dU_ ?_;exact W_ results101 ⟨(sw,Hw),by dsimp only;rw[Con.rleft_eq];rw[yax_ zaa_];have a6:(Con.andL c (c.parts.drop 1) 1).take q=(Con.andL c (c.parts.drop 1) 1):=yac_ zaa_;rw[a6]at M;exact M⟩ rfl (g_ an_) zt
       . replace A:=zdt A;obtain⟨I,C,e,d⟩:=zge (show (q+1:Nat)<c.parts.length by omega);refine bT_ rfl ?_;refine cQ_ ?_;refine ac_ rfl ?_;refine aq_ ?_;refine cC_ ?_;refine aW_ ((H,.cells (Con.cells c).toArray 28 (0,0))::[]) zk ?_;refine C_ 7 [0,1,2,3,5,6,7,8,9,10,12,13] zk zs ?_;refine G_ rfl (P_ rfl) rfl ?_;refine G_ rfl (cx_ 0 H_ i_ rfl rfl rfl) rfl ?_;refine G_ rfl (P_ rfl) rfl ?_;refine G_ rfl (aD_ (aT_ rfl rfl rfl (bB_ zaa_ zaa_)) (show _=i4_ ((q+1:Nat):Int) by congr 1;omega)) rfl ?_;refine G_ rfl (bl_ ao_ rfl rfl rfl dk_) rfl ?_;refine G_ rfl (aK_ 0 ew_ rfl rfl rfl) rfl ?_;refine G_ rfl (P_ rfl) rfl ?_;refine G_ rfl (aD_ (aT_ rfl rfl rfl (bB_ zaa_ zaa_)) (show _=i4_ ((q+1:Nat):Int) by congr 1;omega)) rfl ?_;refine G_ rfl (J_ z_ i_ rfl rfl (λv _ h=>az_ (n:=5) Con.cells_len zaj_ zas_ e) zaa_ zah_) rfl ?_;refine G_ rfl (ax_ (ad:=c.ad) (us:=Con.cells C) H_ i_ rfl (λv _ h=>by exact ((Con.mem_iff c v).1 h.1).1) (Con.cells_len _) (t_ Con.cells_len e)) rfl ?_;refine G_ rfl (cx_ 0 H_ i_ rfl rfl rfl) rfl ?_;refine G_ rfl (P_ rfl) rfl ?_;refine bd_ ?_;refine j_ 4 rfl zk ?_;refine d_ (tw_ c G L zaa_ (q+1) ⟨by omega,by omega⟩) rfl e_ zf rfl λ_=>?_;refine ai_ ?_;refine bE_ rfl ?_;refine y_ zs ?_;refine j_ 11 rfl zk ?_;refine d_ (eC_ C (Con.ok_part G d) (Con.check_part L d)) rfl e_ (λv _ h=>by exact⟨(Con.mem_part (c:=c) h.1 d),trivial⟩) rfl λ_=>?_;refine ai_ ?_;refine bE_ rfl ?_;refine y_ zs ?_;refine j_ 14 rfl zk ?_;refine d_ (tw_ c G L zaa_ (q+2) ⟨by omega,by omega⟩) rfl e_ zf rfl λ_=>?_;refine ai_ ?_;refine bE_ rfl ?_;refine y_ zs ?_;refine C_ 3 [15] zk zs ?_;refine G_ rfl (x_ ct_ rfl rfl) rfl ?_;refine bd_ ?_;refine j_ 16 rfl zk ?_;refine p_ u_ ab_ N_ rfl rfl rfl rfl rfl rfl λV=>?_;refine ai_ ?_;refine bE_ rfl ?_;refine y_ (λ_ a b=>⟨Vw.sat.sub (a.perm (g_ f_)),b⟩) ?_;refine j_ 17 rfl zk ?_;refine am_ (news:=Pc.cells (Pc.mk 2 (Con.firstS c (q+1)) (Con.atom C) (Con.firstS c (q+2)) [] [] [] 0 0 0)) hU_ M rfl rfl zp rfl (aO_ 0 rfl) (λu R=>dn_ (Pc.cells_one _) u R) zay_ zaa_ rfl λo x a2=>?_;refine s_ (@List.perm_append_comm _ _ [_,_]) ?_;have a0:av_ 80 10 o (((Con.rleft.rlefts c.parts)++(Con.andL c (c.parts.drop 1) 1).take q)++[(Pc.mk 2 (Con.firstS c (q+1)) (Con.atom C) (Con.firstS c (q+2)) [] [] [] 0 0 0)]).length ((((Con.rleft.rlefts c.parts)++(Con.andL c (c.parts.drop 1) 1).take q)++[(Pc.mk 2 (Con.firstS c (q+1)) (Con.atom C) (Con.firstS c (q+2)) [] [] [] 0 0 0)]).flatMap Pc.cells) x:=by rw[yae_,yan_];simpa using a2
         refine ai_ ?_;refine bE_ rfl ?_;refine y_ (λ_ a b=>⟨Vw.sat.sub (a.perm (g_ f_)),b⟩) ?_;refine C_ 0 [18] zk (λ_ a b=>⟨Vw.sat.sub (a.perm (g_ f_)),b⟩) ?_;refine G_ rfl (X_ rfl) rfl ?_;refine bd_ ?_;refine fG_ zk ?_;refine ac_ rfl ?_;refine S_ ?_;refine c_ (P_ rfl) rfl ?_;refine c_ (aT_ rfl rfl rfl (bB_ zaa_ zaa_)) rfl ?_;refine c_ (X_ rfl) rfl ?_;refine ai_ ?_;refine bE_ rfl ?_;have b0:=Con.andL_step c (q:=q) e;exact w_ ⟨(q+1,o,x),by dsimp only;omega,by dsimp only;rw[b0,<-yak_];exact a0⟩ zae_ zl (E_ (g_ f_) (g_ an_)) zh
     . replace k:=zdt k;obtain⟨I,C,e,d⟩:=zge (show i<c.parts.length by omega);have a7:=Con.rleft_len _ C (yab_ _);have Z:=Con.sz_part d;refine bT_ rfl ?_;refine cQ_ ?_;refine ac_ rfl ?_;refine aq_ ?_;refine cC_ ?_;refine S_ ?_;refine c_ (P_ rfl) rfl ?_;refine c_ (bl_ ao_ rfl rfl rfl dk_) rfl ?_;refine c_ (aK_ 0 ew_ rfl rfl rfl) rfl ?_;refine c_ (P_ rfl) rfl ?_;refine c_ (J_ z_ i_ rfl rfl (λv _ h=>az_ (n:=5) Con.cells_len zaj_ zas_ e) zaa_ zah_) rfl ?_;refine c_ (ax_ (ad:=c.ad) (us:=Con.cells C) H_ i_ rfl (λv _ h=>by exact ((Con.mem_iff c v).1 h.1).1) (Con.cells_len _) (t_ Con.cells_len e)) rfl ?_;refine d_ (ih C zaI_ (Con.ok_part G d) (Con.check_part L d)) rfl e_ (λv _ h=>by exact⟨(Con.mem_part (c:=c) h.1 d),trivial⟩) rfl λ⟨⟨X,a3⟩,K⟩=>?_;dsimp only;refine I_ K ag_ λal_1 cl_1 U Q b2 P=>?_;subst U;refine aY_ (news:=List.flatMap Pc.cells (Con.rleft C)) hU_ J rfl rfl P Q zp zaQ_ zf (λu R=>oG_ R) zay_ zaa_ rfl λo x k=>?_;refine s_ (@List.perm_append_comm _ _ [_]) ?_;have B:av_ 80 10 o ((Con.rleft.rlefts (c.parts.take i))++(Con.rleft C)).length (((Con.rleft.rlefts (c.parts.take i))++(Con.rleft C)).flatMap Pc.cells) x:=by rw[yae_,yan_];simpa using k
       refine c_ (X_ rfl) rfl ?_;refine ai_ ?_;refine ac_ rfl ?_;refine S_ ?_;refine c_ (P_ rfl) rfl ?_;refine c_ (aT_ rfl rfl rfl (bB_ zaa_ zaa_)) rfl ?_;refine c_ (X_ rfl) rfl ?_;refine ai_ ?_;refine bE_ rfl ?_;exact w_ ⟨(i+1,o,x),I,by dsimp only;rw[Con.rlefts_step e];exact B⟩ zae_ zl zp (λ_ _ h=>h.2)
theorem Con.rrights_len (a:Str) (ps:List Con) (i:Nat):(Con.rright.rrights a (ps.take i)).length<=2*Con.sz.szs ps:=by
  have key:∀ ps:List Con,(Con.rright.rrights a ps).length<=2*Con.sz.szs ps:=by
    intro ps
    induction ps with
    | nil=>grind[Con.rright.rrights]
    | cons p ps ih =>
      have:=Con.rright_len _ p (yab_ _)
      grind[Con.rright.rrights,Con.sz.szs]
  grind[Con.szs_take_le]
theorem ds_:∀ (m:Nat) (c:Con),c.sz<=m->c.ok->c.check=0->Tri prog 100 #[Con.val c] [] [Con.memF c] (λy:{y:Value×Hp // av_ 80 10 y.1 c.rright.length (c.rright.flatMap Pc.cells) y.2}=>y.1.1) (λy=>y.1.2) (λ_=>[]):=by
 intro m
 induction m with
 | zero=>intro c h;have:=c.sz_pos;omega
 | succ m ih =>
   intro c hm H S;have b1:=Con.ok_len H;have hz:=(Con.check_zero S).2;refine l_ func100 rfl rfl ntmps100 rfl λb2=>?_;refine aq_ ?_;refine S_ ?_;refine Q_ rfl rfl λQ=>?_;refine c_ (X_ rfl) rfl ?_;refine ai_ ?_;refine ac_ rfl ?_;refine aq_ ?_;refine S_ ?_;refine c_ (X_ rfl) rfl ?_;refine ai_ ?_;refine ac_ rfl ?_;refine aq_ ?_;refine aq_ ?_;refine S_ ?_;refine c_ (bl_ ao_ rfl rfl rfl af_) rfl ?_;refine c_ (aK_ 0 aU_ rfl rfl rfl) rfl ?_;refine ai_ ?_;refine ac_ rfl ?_;refine cC_ ?_;refine aq_ ?_;refine S_ ?_;refine A_ (al_ rfl rfl) rfl λa8 F=>?_;refine c_ (X_ rfl) rfl ?_;refine ai_ ?_;refine ac_ rfl ?_;cases a8
   . replace F:=znb F;refine bU_ rfl ?_;refine aq_ ?_;refine S_ ?_;refine A_ (al_ rfl rfl) rfl λV e=>?_;refine c_ (X_ rfl) rfl ?_;refine ai_ ?_;refine ac_ rfl ?_;cases V
     . replace e:=znb e;refine bU_ rfl ?_;refine aq_ ?_;refine S_ ?_;refine A_ (al_ rfl rfl) rfl λa7 A=>?_;refine c_ (X_ rfl) rfl ?_;refine ai_ ?_;refine ac_ rfl ?_;cases a7
       . replace A:=znb A;refine bU_ rfl ?_;refine cQ_ ?_;refine ac_ rfl ?_;refine aq_ ?_;refine S_ ?_;refine c_ (P_ rfl) rfl ?_;refine c_ (X_ rfl) rfl ?_;refine ai_ ?_;refine ac_ rfl ?_;refine dU_ ?_;exact W_ results100 ⟨(.slice none 0 0,[]),by dsimp only;rw[Con.rright_eq];simp only[*,ycm_];exact av_.nil _ _⟩ rfl e_ zt
       . replace A:=zeb A;refine bT_ rfl ?_;refine aW_ ((Q,.cells (Con.cells c).toArray 28 (0,0))::[]) zk ?_;refine C_ 5 [0,1,3,4,5,6,7,8] zk zs ?_;refine G_ rfl (P_ rfl) rfl ?_;refine G_ rfl (cx_ 0 H_ i_ rfl rfl rfl) rfl ?_;refine G_ rfl (bl_ ao_ rfl rfl rfl B_) rfl ?_;refine G_ rfl (aK_ 0 aJ_ rfl rfl rfl) rfl ?_;refine G_ rfl (bl_ ao_ rfl rfl rfl af_) rfl ?_;refine G_ rfl (aK_ 0 aU_ rfl rfl rfl) rfl ?_;refine G_ rfl (bl_ ao_ rfl rfl rfl af_) rfl ?_;refine G_ rfl (aK_ 0 aU_ rfl rfl rfl) rfl ?_;refine bd_ ?_;refine j_ 2 rfl zk ?_;refine d_ (eC_ c H S) rfl e_ zf rfl λ_=>?_;refine ai_ ?_;refine bE_ rfl ?_;refine y_ zs ?_;refine C_ 3 [9] zk zs ?_;refine G_ rfl (x_ ct_ rfl rfl) rfl ?_;refine bd_ ?_;refine j_ 10 rfl zk ?_;refine p_ u_ ab_ N_ rfl rfl rfl rfl rfl rfl λY=>?_;refine ai_ ?_;refine bE_ rfl ?_;refine y_ zs ?_;refine j_ 11 rfl zk ?_;refine am_ (news:=Pc.cells (Pc.mk 8 (Con.atom c) [] [] c.name [] [] c.lo c.hi 0)) hU_ (av_.nil 80 10) rfl rfl e_ rfl (aO_ 0 rfl) (λu T=>dn_ (Pc.cells_one _) u T) zaF_ zad_ rfl λB E F=>?_;refine s_ (@List.perm_append_comm _ _ [_,_]) ?_;have C:av_ 80 10 B (([]:List Pc)++[(Pc.mk 8 (Con.atom c) [] [] c.name [] [] c.lo c.hi 0)]).length ((([]:List Pc)++[(Pc.mk 8 (Con.atom c) [] [] c.name [] [] c.lo c.hi 0)]).flatMap Pc.cells) E:=by rw[yae_,yan_];simpa using F
         refine ai_ ?_;refine bE_ rfl ?_;refine y_ (λ_ a b=>⟨Vw.sat.sub (a.perm (g_ f_)),b⟩) ?_;refine C_ 0 [12] zk (λ_ a b=>⟨Vw.sat.sub (a.perm (g_ f_)),b⟩) ?_;refine G_ rfl (X_ rfl) rfl ?_;refine bd_ ?_;refine fG_ zk ?_;refine ac_ rfl ?_;refine aq_ ?_;refine S_ ?_;refine c_ (P_ rfl) rfl ?_;refine c_ (X_ rfl) rfl ?_;refine ai_ ?_;refine ac_ rfl ?_;refine dU_ ?_;exact W_ results100 ⟨(B,E),by dsimp only;rw[Con.rright_eq];simp only[*,ycu_,ycm_];first|exact C|(simp[Con.rright.rrighty];simpa using C)⟩ rfl zp zt
     . replace e:=zeb e;have O:=(Con.fields (Con.check_zero S).1).le;have U:=(Con.fields (Con.check_zero S).1).mo;rw[show c.kind=6 by omega]at O U;simp[nd,dC_]at O U
       obtain⟨R,o,k,d⟩:=zge (show 0<c.parts.length by omega);obtain⟨x,a5⟩:=ybb_.1 (show c.parts.length=1 by omega);have Z:x=o:=by rw[a5]at k;simpa using k
       subst Z;have a9:=Con.rleft_len _ x (yab_ _);have b3:=Con.rright_len _ x (yab_ _);have X:=Con.sz_part d;refine bT_ rfl ?_;refine aq_ ?_;refine aW_ ((Q,.cells (Con.cells c).toArray 28 (0,0))::[]) zk ?_;refine C_ 6 [0,1,3,4,5,6,7,8] zk zs ?_;refine G_ rfl (P_ rfl) rfl ?_;refine G_ rfl (cx_ 0 H_ i_ rfl rfl rfl) rfl ?_;refine G_ rfl (bl_ ao_ rfl rfl rfl B_) rfl ?_;refine G_ rfl (aK_ 0 aJ_ rfl rfl rfl) rfl ?_;refine G_ rfl (bl_ ao_ rfl rfl rfl dk_) rfl ?_;refine G_ rfl (aK_ 0 ew_ rfl rfl rfl) rfl ?_;refine G_ rfl (J_ z_ i_ rfl rfl (λv _ h=>az_ (n:=5) Con.cells_len zaj_ zas_ k) zaa_ zah_) rfl ?_;refine G_ rfl (ax_ (ad:=c.ad) (us:=Con.cells x) H_ i_ rfl (λv _ h=>by exact ((Con.mem_iff c v).1 h.1).1) (Con.cells_len _) (t_ Con.cells_len k)) rfl ?_;refine bd_ ?_;refine j_ 2 rfl zk ?_;refine d_ (eC_ c H S) rfl e_ zf rfl λ_=>?_;refine ai_ ?_;refine bE_ rfl ?_;refine y_ zs ?_;refine j_ 9 rfl zk ?_;refine d_ (eC_ x (Con.ok_part H d) (Con.check_part S d)) rfl e_ (λv _ h=>by exact⟨(Con.mem_part (c:=c) h.1 d),trivial⟩) rfl λ_=>?_;refine ai_ ?_;refine bE_ rfl ?_;refine y_ zs ?_;refine C_ 3 [10] zk zs ?_;refine G_ rfl (x_ ct_ rfl rfl) rfl ?_;refine bd_ ?_;refine j_ 11 rfl zk ?_;refine p_ u_ ab_ N_ rfl rfl rfl rfl rfl rfl λY=>?_;refine ai_ ?_;refine bE_ rfl ?_;refine y_ zs ?_;refine j_ 12 rfl zk ?_;refine am_ (news:=Pc.cells (Pc.mk 3 (Con.atom c) [] (Con.atom x) c.name [] [] 0 0 0)) hU_ (av_.nil 80 10) rfl rfl e_ rfl (aO_ 0 rfl) (λu T=>dn_ (Pc.cells_one _) u T) zaF_ zad_ rfl λB E e=>?_;refine s_ (@List.perm_append_comm _ _ [_,_]) ?_;have C:av_ 80 10 B (([]:List Pc)++[(Pc.mk 3 (Con.atom c) [] (Con.atom x) c.name [] [] 0 0 0)]).length ((([]:List Pc)++[(Pc.mk 3 (Con.atom c) [] (Con.atom x) c.name [] [] 0 0 0)]).flatMap Pc.cells) E:=by rw[yae_,yan_];simpa using e
       refine ai_ ?_;refine bE_ rfl ?_;refine y_ (λ_ a b=>⟨Vw.sat.sub (a.perm (g_ f_)),b⟩) ?_;refine C_ 0 [13] zk (λ_ a b=>⟨Vw.sat.sub (a.perm (g_ f_)),b⟩) ?_;refine G_ rfl (X_ rfl) rfl ?_;refine bd_ ?_;refine fG_ zk ?_;refine ac_ rfl ?_;refine S_ ?_;refine c_ (P_ rfl) rfl ?_;refine c_ (bl_ ao_ rfl rfl rfl dk_) rfl ?_;refine c_ (aK_ 1 ew_ rfl rfl rfl) rfl ?_;refine c_ (J_ z_ i_ rfl rfl (λv _ h=>az_ (n:=5) Con.cells_len zaj_ zas_ k) zaa_ zah_) rfl ?_;refine c_ (ax_ (ad:=c.ad) (us:=Con.cells x) H_ i_ rfl (λv _ h=>by exact ((Con.mem_iff c v).1 h.1).1) (Con.cells_len _) (t_ Con.cells_len k)) rfl ?_;refine d_ (ih x zaI_ (Con.ok_part H d) (Con.check_part S d)) rfl e_ (λv _ h=>by exact⟨(Con.mem_part (c:=c) h.1 d),trivial⟩) rfl λ⟨⟨a0,a4⟩,a1⟩=>?_;dsimp only;refine I_ a1 ag_ λa3 a2 L K W J=>?_;subst L;refine aY_ (news:=List.flatMap Pc.cells (Con.rright x)) hU_ C rfl rfl J K zp zaQ_ zf (λu T=>oG_ T) zaF_ zad_ rfl λI G A=>?_;refine s_ (@List.perm_append_comm _ _ [_,_]) ?_;have M:av_ 80 10 I ((([]:List Pc)++[(Pc.mk 3 (Con.atom c) [] (Con.atom x) c.name [] [] 0 0 0)])++(Con.rright x)).length (((([]:List Pc)++[(Pc.mk 3 (Con.atom c) [] (Con.atom x) c.name [] [] 0 0 0)])++(Con.rright x)).flatMap Pc.cells) G:=by rw[yae_,yan_];simpa using A
       refine c_ (X_ rfl) rfl ?_;refine ai_ ?_;refine ac_ rfl ?_;refine aq_ ?_;refine S_ ?_;refine c_ (P_ rfl) rfl ?_;refine c_ (X_ rfl) rfl ?_;refine ai_ ?_;refine ac_ rfl ?_;refine dU_ ?_;exact W_ results100 ⟨(I,G),by dsimp only;rw[Con.rright_eq];simp only[*,ycu_,ycm_];first|exact M|(simp[Con.rright.rrighty];simpa using M)⟩ rfl zp zt
   . replace F:=zeb F;refine bT_ rfl ?_;refine aq_ ?_;refine S_ ?_;refine c_ (X_ rfl) rfl ?_;refine ai_ ?_;refine ac_ rfl ?_;refine cC_ ?_;refine bc_ [(1,zp_ Q 0),(3,.slice none 0 0),(4,i4_ ((0:Nat):Int))] zl ?_;refine bs_ (ι:={y:Nat×Value×Hp // y.1<=c.parts.length/\av_ 80 10 y.2.1 (Con.rright.rrights (Con.atom c) (c.parts.take y.1)).length ((Con.rright.rrights (Con.atom c) (c.parts.take y.1)).flatMap Pc.cells) y.2.2}) (λy=>[(1,zp_ Q 0),(3,y.1.2.1),(4,i4_ y.1.1)]) (λy=>_::y.1.2.2) (λ_=>_) (λy=>c.parts.length - y.1.1) ⟨(0,.slice none 0 0,[]),by simp,av_.nil _ _⟩ ?_;rintro ⟨⟨i,sv,Hr⟩,hi,P⟩;dsimp only at hi P;dsimp only;have b0:=Con.rrights_len (Con.atom c) c.parts i;have b4:=Con.sz_eq c;refine bc_ [(1,zp_ Q 0),(3,sv),(4,i4_ i)] zl ?_;refine aq_ ?_;refine aq_ ?_;refine S_ ?_;refine c_ (P_ rfl) rfl ?_;refine c_ (bl_ ao_ rfl rfl rfl dk_) rfl ?_;refine c_ (aK_ 0 ew_ rfl rfl rfl) rfl ?_;refine c_ (dS_ z_ rfl) rfl ?_;refine A_ (dw_ rfl rfl) rfl λV e=>?_;refine ai_ ?_;refine ac_ rfl ?_;cases V
     . replace e:=zdf e;refine bU_ rfl ?_;refine ge_ rfl ?_;refine ac_ rfl ?_;refine aq_ ?_;refine S_ ?_;refine c_ (P_ rfl) rfl ?_;refine c_ (X_ rfl) rfl ?_;refine ai_ ?_;refine ac_ rfl ?_;refine dU_ ?_;exact W_ results100 ⟨(sv,Hr),by dsimp only;rw[Con.rright_eq];rw[yax_ zaa_];have a6:c.parts.take i=c.parts:=yac_ zaa_;rw[a6]at P;exact P⟩ rfl (g_ an_) zt
     . replace e:=zdt e;obtain⟨R,o,k,d⟩:=zge (show i<c.parts.length by omega);have a9:=Con.rright_len _ o (yab_ _);have X:=Con.sz_part d;refine bT_ rfl ?_;refine cQ_ ?_;refine ac_ rfl ?_;refine aq_ ?_;refine cC_ ?_;refine aq_ ?_;refine aW_ ((Q,.cells (Con.cells c).toArray 28 (0,0))::[]) zk ?_;refine C_ 6 [0,1,3,4,5,6,7] zk zs ?_;refine G_ rfl (P_ rfl) rfl ?_;refine G_ rfl (cx_ 0 H_ i_ rfl rfl rfl) rfl ?_;refine G_ rfl (bl_ ao_ rfl rfl rfl dk_) rfl ?_;refine G_ rfl (aK_ 0 ew_ rfl rfl rfl) rfl ?_;refine G_ rfl (P_ rfl) rfl ?_;refine G_ rfl (J_ z_ i_ rfl rfl (λv _ h=>az_ (n:=5) Con.cells_len zaj_ zas_ k) zaa_ zah_) rfl ?_;refine G_ rfl (ax_ (ad:=c.ad) (us:=Con.cells o) H_ i_ rfl (λv _ h=>by exact ((Con.mem_iff c v).1 h.1).1) (Con.cells_len _) (t_ Con.cells_len k)) rfl ?_;refine bd_ ?_;refine j_ 2 rfl zk ?_;refine d_ (eC_ c H S) rfl e_ zf rfl λ_=>?_;refine ai_ ?_;refine bE_ rfl ?_;refine y_ zs ?_;refine j_ 8 rfl zk ?_;refine d_ (eC_ o (Con.ok_part H d) (Con.check_part S d)) rfl e_ (λv _ h=>by exact⟨(Con.mem_part (c:=c) h.1 d),trivial⟩) rfl λ_=>?_;refine ai_ ?_;refine bE_ rfl ?_;refine y_ zs ?_;refine C_ 3 [9] zk zs ?_;refine G_ rfl (x_ ct_ rfl rfl) rfl ?_;refine bd_ ?_;refine j_ 10 rfl zk ?_;refine p_ u_ ab_ N_ rfl rfl rfl rfl rfl rfl λY=>?_;refine ai_ ?_;refine bE_ rfl ?_;refine y_ (λ_ a b=>⟨Vw.sat.sub (a.perm (g_ f_)),b⟩) ?_;refine j_ 11 rfl zk ?_;refine am_ (news:=Pc.cells (Pc.mk 1 (Con.atom c) [] (Con.atom o) [] [] [] 0 0 0)) hU_ P rfl rfl zp rfl (aO_ 0 rfl) (λu T=>dn_ (Pc.cells_one _) u T) zaF_ zad_ rfl λB E e=>?_;refine s_ (@List.perm_append_comm _ _ [_,_]) ?_;have C:av_ 80 10 B ((Con.rright.rrights (Con.atom c) (c.parts.take i))++[(Pc.mk 1 (Con.atom c) [] (Con.atom o) [] [] [] 0 0 0)]).length (((Con.rright.rrights (Con.atom c) (c.parts.take i))++[(Pc.mk 1 (Con.atom c) [] (Con.atom o) [] [] [] 0 0 0)]).flatMap Pc.cells) E:=by rw[yae_,yan_];simpa using e
       refine ai_ ?_;refine bE_ rfl ?_;refine y_ (λ_ a b=>⟨Vw.sat.sub (a.perm (g_ f_)),b⟩) ?_;refine C_ 0 [12] zk (λ_ a b=>⟨Vw.sat.sub (a.perm (g_ f_)),b⟩) ?_;refine G_ rfl (X_ rfl) rfl ?_;refine bd_ ?_;refine fG_ zk ?_;refine ac_ rfl ?_;refine S_ ?_;refine c_ (P_ rfl) rfl ?_;refine c_ (bl_ ao_ rfl rfl rfl dk_) rfl ?_;refine c_ (aK_ 1 ew_ rfl rfl rfl) rfl ?_;refine c_ (P_ rfl) rfl ?_;refine c_ (J_ z_ i_ rfl rfl (λv _ h=>az_ (n:=5) Con.cells_len zaj_ zas_ k) zaa_ zah_) rfl ?_;refine c_ (ax_ (ad:=c.ad) (us:=Con.cells o) H_ i_ rfl (λv _ h=>by exact ((Con.mem_iff c v).1 h.1).1) (Con.cells_len _) (t_ Con.cells_len k)) rfl ?_;refine d_ (ih o zaI_ (Con.ok_part H d) (Con.check_part S d)) rfl e_ (λv _ h=>by exact⟨(Con.mem_part (c:=c) h.1 d),trivial⟩) rfl λ⟨⟨a0,a4⟩,O⟩=>?_;dsimp only;refine I_ O ag_ λa3 a2 L K W J=>?_;subst L;refine aY_ (news:=List.flatMap Pc.cells (Con.rright o)) hU_ C rfl rfl J K zp zaQ_ zf (λu T=>oG_ T) zaF_ zad_ rfl λI G A=>?_;refine s_ (@List.perm_append_comm _ _ [_,_]) ?_;have M:av_ 80 10 I (((Con.rright.rrights (Con.atom c) (c.parts.take i))++[(Pc.mk 1 (Con.atom c) [] (Con.atom o) [] [] [] 0 0 0)])++(Con.rright o)).length ((((Con.rright.rrights (Con.atom c) (c.parts.take i))++[(Pc.mk 1 (Con.atom c) [] (Con.atom o) [] [] [] 0 0 0)])++(Con.rright o)).flatMap Pc.cells) G:=by rw[yae_,yan_];simpa using A
       refine c_ (X_ rfl) rfl ?_;refine ai_ ?_;refine ac_ rfl ?_;refine S_ ?_;refine c_ (P_ rfl) rfl ?_;refine c_ (aT_ rfl rfl rfl (bB_ zaa_ zaa_)) rfl ?_;refine c_ (X_ rfl) rfl ?_;refine ai_ ?_;refine bE_ rfl ?_;exact w_ ⟨(i+1,I,G),R,by dsimp only;rw[Con.rrights_step _ k];exact M⟩ zae_ zl (E_ (g_ f_) (g_ an_)) (λ_ _ h=>h.2)
theorem jB_ (a c:Str):Tri prog 103 #[str a,str c] [] [] (λb:Nat=>.slice (some ⟨b,0,none⟩) 1 1) (λ_=>[]) (λb=>[O_ (some ⟨b,0,none⟩) (List.flatMap Pc.cells [(Pc.mk 1 a [] c [] [] [] 0 0 0)])]):=by
  refine l_ func103 rfl rfl ntmps103 rfl λe=>?_;refine Zz 9 ?_;refine c_ (x_ ct_ rfl rfl) rfl (p_ u_ ab_ N_ rfl rfl rfl rfl rfl rfl λd=>?_);refine R_ (List.flatMap Pc.cells [(Pc.mk 1 a [] c [] [] [] 0 0 0)]) f_ rfl ?_;refine Zz 4 ?_;exact W_ results103 d rfl e_ zf
theorem el_ (a:Str) (e:a.length<=140737488351232):Fn0 prog 104 #[str a] (str ([123]++a++[125])):=by
  refine l_ func104 rfl rfl ntmps104 rfl λd=>?_;refine Zz 8 ?_;refine c_ (bn_ rfl rfl zad_) rfl ?_;refine c_ (bn_ rfl rfl zad_) rfl ?_;refine Zz 4 ?_;exact W_ results104 () rfl e_ zt
end Go.Proofs.YtbffkokbdeppaaaGreatDoor
