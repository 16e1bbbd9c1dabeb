/-
  Lemmas for the law TopChanges (no condition).
-/
import Derived.Test.YtfjcabalehamcaaGreatDoorQTopChanges13
import Derived.Shelf.SlSortCmp.NoneTotal
import Derived.Test.YtfjcabalehamcaaGreatDoorProg
import Derived.Test.YtfjcabalehamcaaGreatDoorRows
set_option linter.unusedVariables false
set_option linter.unusedSimpArgs false
set_option linter.unusedSectionVars false
set_option maxHeartbeats 1000000
namespace Go.Proofs.YtfjcabalehamcaaGreatDoor
open Go Go.Sx Go.Proofs Tryz
attribute [local irreducible] Code.wp wpList wpAnyH
open Go.Vs
theorem qA_ {a b:Str} (h:str a=str b):a=b:=by
  have d:=yah_ (λz:ByteArray=>z.data.toList) (Value.string.inj h);simpa using d
def uw_ (P:Program) (gf:FuncId) (caps:List Value) (Hc:Hp) (Rc:List Str->Prop):Prop:=∀ {σ:Type} (l:Nat) (Gj:σ->Hp) (lst:σ->List Str),(∀ s x,(lst s).length<100000000->kB_ P l (str x) (Gj s) [] (λ_:{s':σ // lst s'=lst s++[x]}=>.bool true) (λs'=>Gj s'.1) (λ_=>[]))->∀ s0,lst s0=[]->
  Tri P gf (.func (.yield l) #[] #[]::caps).toArray (Hc++Gj s0) [] (λ_:{s':σ // Rc (lst s')}=>.tuple #[]) (λs'=>Hc++Gj s'.1) (λ_=>[])
theorem zC_ {C Q:Hp} {c d e:Nat×Obj}:(C++(c::Q)++[d,e]).Perm (e::(C++(c::(Q++[d])))):=by
  have m:C++(c::Q)++[d,e]=(C++(c::(Q++[d])))++[e]:=by simp
  rw[m];exact yax_
theorem pf_D10 {C Q:Hp} {c d:Nat×Obj}:(C++(c::(Q++[d]))).Perm ((C++Q)++[c,d]):=by
  have m:(C++Q)++[c,d]=C++((Q++[c])++[d]):=by simp
  rw[m];exact ybE_ C (ycT_ [d] (show ([c]++Q).Perm _ from yax_))
theorem uI_ {L q:List Str} (h:L.Perm q) (v:q.Nodup):eH_ L=eH_ q:=by
 have strict:∀ l:List Str,l.Nodup->SrS (eH_ l):=λl hl=>by
   have m:=qF_ l;have d:(eH_ l).Nodup:=(List.mergeSort_perm _ _).nodup_iff.2 hl;unfold List.Nodup at d;refine ycW_ (fun {a b} hab=>?_) (m.and d)
   by_cases g:a<b
   . exact g
   . exact absurd (ydb_ hab.1 (yds_.1 g)) hab.2
 exact tP_ (strict L (h.nodup_iff.2 v)) (strict q v) λx=>by rw[ycD_,ycD_,h.mem_iff]
theorem xA_ {σ:Type} {l:Nat} {I:σ->Hp} {lst:σ->List Str} (T:∀ s x,(lst s).length<100000000->kB_ prog l (str x) (I s) [] (λ_:{A:σ // lst A=lst s++[x]}=>.bool true) (λA=>I A.1) (λ_=>[])) (O:σ) (N:lst O=[]) (C G c:Nat) (es:Array MapEntry) (q:List Str) (hE:KeyE str es q) (hB:Born es c) (X:q.length<=100000000):Tri prog 259 #[.func (.yield l) #[] #[],zp_ G 0] ((G,.cells #[.map (some C)] 228 (0,0))::(C,.map es c)::I O) [] (λ_:{A:σ // (lst A).Perm q}=>.tuple #[]) (λA=>(G,.cells #[.map (some C)] 228 (0,0))::(C,.map es c)::I A.1) (λ_=>[]):=by
 refine g_ func259 rfl rfl ntmps259 rfl λU=>?_;refine Zz 3 ?_;refine vj_ 1 underlying228 rfl rfl rfl λK=>Zz 3 ?_
 refine I_ (ι:={y:List Str×Array Nat×Nat×σ // ItS str es y.2.1 y.1/\c<=y.2.2.1/\lst y.2.2.2=y.1/\(∀ z∈y.1,z∈q)}) (λy=>[(0,.func (.yield l) #[] #[]),(1,zp_ G 0),(5,zp_ K 0)]) (λy=>((K,.mapIter (some C) c y.1.2.1 y.1.2.2.1)::((G,.cells #[.map (some C)] 228 (0,0))::((C,.map es c)::(I y.1.2.2.2))))) (λy=>[]) (λy=>q.length - y.1.1.length) ⟨([],#[],c,O),ItS.nil,yae_ _,N,by simp⟩ zl zp zt ?_;rintro ⟨⟨done,F,V,s⟩,P,J,E,v⟩;dsimp only at P J E v ⊢;refine Zz 2 ?_;refine xd_ 0 2 rfl rfl rfl hB.lt J rfl (λR=>?_) (λe W=>?_)
 .refine Zz 7 ?_
  exact bK_ results259 ⟨s,by rw[E];exact P.endK (λ_ _=>qA_) hE R⟩ rfl zp zt
 obtain⟨k,H,S,Q,M,B⟩:=P.stepK (λ_ _=>qA_) hE hB W;refine Zz 10 ?_;refine e_ (aj_ (uy_ 0 2 rfl rfl rfl M hB) (show _=Value.tuple #[str k,e.val] by rw[Q])) rfl (Zz 5 ?_);refine jT_ (ι:={A:σ // lst A=lst s++[k]}) (λ_=>[(0,.func (.yield l) #[] #[]),(1,zp_ G 0),(5,zp_ K 0),(13,.bool false)]) (λz=>((K,.mapIter (some C) c (F.push e.born) c)::((G,.cells #[.map (some C)] 228 (0,0))::((C,.map es c)::(I z.1))))) (λ_=>[]) ?_ ?_
 .refine bz_ ?_
  refine bk_ cl_ (aV_ rfl) rfl rfl ?_;refine bk_ cl_ (aV_ rfl) rfl rfl ?_;refine hw_ (T s k (by rw[E];have:=ez_ B.nd (m:=q) (λz d=>by rcases yag_.1 d with d|d;exact v z d;rw[yak_]at d;exact d▸H);rw[yaj_,ybO_]at this;omega)) rfl rfl (c_ (c_ E_)) zt rfl λz=>?_;refine bk_ cl_ (aH_ rfl) rfl rfl ?_;refine cA_ ?_;refine du_ rfl ?_;exact eo_ z zl zp zh
 rintro ⟨A,L⟩;dsimp only;refine Zz 4 ?_;exact C_ ⟨(done++[k],F.push e.born,c,A),B,yae_ _,by rw[L,E],λz d=>by rcases yag_.1 d with d|d;exact v z d;rw[yak_]at d;exact d▸H⟩ (by have:=ez_ B.nd (m:=q) (λz d=>by rcases yag_.1 d with d|d;exact v z d;rw[yak_]at d;exact d▸H);rw[yaj_,ybO_]at this;dsimp only;rw[yaj_,ybO_];omega) zl (m_ d_ (m_ d_ (m_ d_ af_))) zt
theorem zW_ (v m c:Nat) (es:Array MapEntry) (q:List Str) (hE:KeyE str es q) (hB:Born es c) (x:q.length<=100000000):uw_ prog 259 [zp_ m 0] [(m,.cells #[.map (some v)] 228 (0,0)),(v,.map es c)] (λL=>L.Perm q) :=
  λl B lst A y d=>xA_ A y d v m c es q hE hB x
theorem zR_ (m:Nat):Tri prog 208 #[.map (some m)] [] [] (λd:Nat=>.func (.func 259) #[] #[zp_ d 0]) (λd=>[(d,.cells #[.map (some m)] 228 (0,0))]) (λ_=>[]):=by
  refine g_ func208 rfl rfl ntmps208 rfl λx=>?_;refine Zz 2 ?_;refine F_ rfl rfl λv=>Zz 5 ?_
  refine e_ (aR_ rfl rfl) rfl (Zz 4 ?_);exact ac_ results208 v rfl (F:=[]) (.refl _) zt
theorem wX_ {C Q G:Hp} {c:Nat×Obj}:(C++(c::Q)++G).Perm (c::(C++(Q++G))):=by
  have d:C++(c::Q)++G=C++([c]++(Q++G)):=by simp
  rw[d,<-yap_];exact ycT_ (Q++G) (yax_ (l₁:=C) (l₂:=[c])) |>.trans zai_
theorem vP_ (S:FuncId) (caps:List Value) (Hc:Hp) (Rc:List Str->Prop) (R:uw_ prog S caps Hc Rc):Tri prog 297 #[.slice none 0 0,.func (.func S) #[] caps.toArray] Hc [] (λy:{y:Value×Hp×List Str // ad_ 9 1 y.1 y.2.2.length (y.2.2.flatMap ar_) y.2.1/\Rc y.2.2}=>y.1.1) (λy=>Hc++y.1.2.1) (λ_=>[]):=by
 refine fA_ func297 rfl rfl ntmps297 rfl λH=>?_;refine Zz 2 ?_;refine F_ rfl rfl λd=>Zz 10 ?_
 refine bh_ [(2,zp_ d 0),(6,.func (.func S) #[] caps.toArray)] zl ?_;refine mU_ (σ:={y:Value×Hp×List Str // ad_ 9 1 y.1 y.2.2.length (y.2.2.flatMap ar_) y.2.1}) (α:=Str) (xv:=λx=>str x) (good:=λs _=>s.1.2.2.length<100000000) (nx:=λx s N=>N.1.2.2=s.1.2.2++[x]) (Rc:=λs=>Rc s.1.2.2) (Γi:=[]) (Hj:=λy=>(d,.cells #[y.1.1] 34 (0,0))::y.1.2.1) (Hc:=Hc) (caps:=caps) ⟨(.slice none 0 0,[],[]),ad_.nil _ _⟩ rfl (@List.perm_append_comm _ [_] _) zt ?_ ?_ ?_
 .rintro l D rec V P O Y J B ⟨⟨sv,m,L⟩,C⟩ x I
  dsimp only at C I ⊢;refine lG_ (ι:=Unit) (Hj:=λy:{y:Value×Hp×List Str // ad_ 9 1 y.1 y.2.2.length (y.2.2.flatMap ar_) y.2.1}=>(d,.cells #[y.1.1] 34 (0,0))::y.1.2.1) (s:=⟨(sv,m,L),C⟩) (ok:=λN=>N.1.2.2=L++[x]) (Γ:=[]) (λ_=>[(2,zp_ d 0),(5,str x)]) (λ_=>(d,.cells #[sv] 34 (0,0))::m) V P O Y rfl ?_ ?_
  .intro n H Q T
   rw[J];dsimp only;refine ey_.2 (t_ (H':=(d,.cells #[sv] 34 (0,0))::(m++T)) zai_ (ey_.1 ?_));refine bz_ ?_;refine bk_ (bo_ _) (bs_ rfl) rfl rfl ?_;refine cA_ ?_;refine du_ rfl ?_;exact eo_ () zl (F:=[]) zaC_ zh
  intro n H Q T _;rw[B];refine ey_.2 (t_ (H':=(d,.cells #[sv] 34 (0,0))::(m++T)) zai_ (ey_.1 ?_));refine ht_ ?_;refine bz_ ?_;refine bk_ (bo_ _) (cc_ 0 isAgg34 rfl rfl rfl) rfl rfl ?_;refine bk_ (bo_ _) (aV_ rfl) rfl rfl ?_;refine oF_ (bo_ _) B_ U_ at_ rfl rfl rfl rfl rfl rfl λX=>?_;refine lM_ (bo_ _) (news:=List.flatMap ar_ [x]) eC_ C rfl rfl zp rfl (ba_ 0 rfl) (λu hu=>aG_ dE_ hu) zaj_ zaa_ rfl λE K M=>?_;have A:=zsa M;refine rj_ (X_ (j_ d_) (be_ (j_ d_))) ?_;refine jf_ (bo_ _) 1 A ft_ rfl rfl rfl rfl ?_;refine cA_ ?_;refine du_ rfl ?_;exact mX_ ⟨(E,K,(L++[x])),A⟩ rfl (pf_as3 (m_ (c_ d_) (G_ (c_ x_) (G_ E_ d_))))
 .intro l Z hY
  exact R l Z (λy=>y.1.2.2) (λs x h=>hY s x h) ⟨(.slice none 0 0,[],[]),ad_.nil _ _⟩ rfl
 rintro ⟨⟨sv,m,L⟩,C⟩ W D l r;dsimp only at W C ⊢;refine ke_ (H':=(d,.cells #[sv] 34 (0,0))::(Hc++(m++HLp l D r))) (F:=[]) (by rw[yaL_];exact wX_) zh ?_;refine dQ_ rfl ?_;refine gQ_ ?_;refine bz_ ?_;refine bk_ cl_ (cc_ 0 isAgg34 rfl rfl rfl) rfl rfl ?_;refine bk_ cl_ (bs_ rfl) rfl rfl ?_;refine cA_ ?_;refine dQ_ rfl ?_;refine jW_ ?_;exact wI_ (G:=Hc++((d,.cells #[sv] 34 (0,0))::(m++[(l,.loop r)]))) ⟨(sv,m,L),C,W⟩ (λa v U h_2=>by have e:=U.val 4 sv rfl;simp[results,results297,e]) (wX_.symm.trans (by unfold HLp;exact zC_)) ⟨_,pf_D10⟩ rfl
theorem ti_ (B:FuncId) (caps:List Value) (Hc:Hp) (Rc:List Str->Prop) (C:uw_ prog B caps Hc Rc):Tri prog 258 #[.func (.func B) #[] caps.toArray] Hc [] (λy:{y:Value×Hp×List Str // ad_ 9 1 y.1 y.2.2.length (y.2.2.flatMap ar_) y.2.1/\Rc y.2.2}=>y.1.1) (λy=>Hc++y.1.2.1) (λ_=>[]):=by
  refine g_ func258 rfl rfl ntmps258 rfl λE=>?_;refine Zz 8 ?_;refine f_ (vP_ B caps Hc Rc C) rfl af_ zt rfl λ⟨⟨x,v,A⟩,m,d⟩=>?_;dsimp only;dsimp only at m d ⊢;simp only[yap_,yaL_];refine Zz 4 ?_;exact ac_ results258 ⟨(x,v,A),m,d⟩ rfl zp zt
theorem uL_ (M:FuncId) (caps:List Value) (Hc:Hp) (q:List Str) (K:q.Nodup) (Q:q.length<=100000000) (N:uw_ prog M caps Hc (λL=>L.Perm q)):Tri prog 207 #[.func (.func M) #[] caps.toArray] Hc [] (λy:{y:Ao×Nat // (eH_ q).length<=y.2/\y.2<=maxLen/\(y.1=none->y.2=0)}=>.slice y.1.1 (eH_ q).length y.1.2) (λ_=>Hc) (λy=>[L_ y.1.1 ((eH_ q).flatMap ar_)]):=by
  refine g_ func207 rfl rfl ntmps207 rfl λP=>?_;refine Zz 8 ?_;refine f_ (ti_ M caps Hc (λL=>L.Perm q) N) rfl af_ zt rfl λ⟨⟨F,O,C⟩,A,d⟩=>?_;dsimp only;dsimp only at A d ⊢;simp only[yap_,yaL_];refine Zz 6 ?_;refine f_ (pm_ A (by have:=d.length_eq;omega)) rfl bg_ zt rfl λ⟨I,H⟩=>?_;dsimp only;have J:ad_ 9 1 F (eH_ q).length (List.flatMap ar_ (eH_ q)) I:=by rw[<-uI_ d K,show (eH_ C).length=C.length from ybz_ _];exact H
  refine Zz 9 ?_;refine aZ_ J x_ λE G B m x v=>?_;exact ac_ results207 ⟨(E,G),m,x,v⟩ (fE_ rfl B) af_ zf
theorem tN_:fH_ prog 109 [(0,16)] [i4_ 0,.bool false,i4_ 0,str [],i4_ 0,i4_ 0,.slice none 0 0,i4_ 0,str [],i4_ 0,i4_ 0,.slice none 0 0,.slice none 0 0,str [],str [],str []]:=⟨_,zeroValue109,runUnderlying109,λw=>by simp[ab_]⟩
def pln (x:Ax):Prop:=x.kind=1/\x.left.kind=3/\x.right.kind=3
theorem pe_ {x:Ax} (d:x.ok) (m:x.check=0):Tri prog 18 #[x.val] [] [x.memF,bB_] (λ_:Unit=>i4_ 0) (λ_=>[]) (λ_=>[]):=by
  have h:=fF_ x d;rw[m]at h;exact h
theorem tI_ (c:Con) (F:c.kind=3):Tri prog 86 #[Con.val c] [] [] (λ_:Unit=>.tuple #[c.val,i4_ 0]) (λ_=>[]) (λ_=>[]):=by
 refine g_ func86 rfl rfl ntmps86 rfl λA=>?_;refine Zz 2 ?_;refine F_ rfl rfl λB=>u_ bP_ rfl λC=>Zi 13 (λd=>?_) λd=>?_
 .refine Zi 6 (λm=>?_) λm=>?_
  .refine Zz 9 ?_
   refine n_ 0 D_ rfl rfl rfl rfl rfl rfl (Zz 4 ?_);exact dI_ () (λE v x y=>dS_ (us:=Con.cells c) 0 results86 aq_ D_ rfl rfl rfl rfl E v x y) i_ zt
  exfalso;omega
 exfalso;omega
theorem iK_ (x:Ax) (C:x.ok) (G:x.check=0) (d:pln x):Tri prog 38 #[Ax.val x] [] [Ax.memF x,bB_] (λ_:Unit=>.tuple #[x.val,i4_ 0]) (λ_=>[]) (λ_=>[]):=by
 refine g_ func38 rfl rfl ntmps38 rfl λF=>?_;have E:=d.1;refine Zz 2 ?_;refine F_ rfl rfl λJ=>u_ aK_ rfl λH=>Zz 7 ?_
 refine f_ (pe_ C G) rfl i_ zf rfl λ_=>Zz 6 ?_
 refine e_ (aj_ (aM_ rfl rfl) (show _=Value.bool false from yah_ Value.bool zac_)) rfl (Zz 9 ?_);refine e_ (dk_ runUnderlying130 dG_ rfl rfl (by show (0:Int)<=x.kind;omega) (by show x.kind<(10:Int);omega)) rfl ?_;refine e_ (ah_ (ad:=some ⟨0,0,none⟩) (us:=Use.cells ⟨true,true,false,false,false,0,0⟩) isAgg129 dG_ rfl (λv _ h=>h.2.1.2.1) (Use.cells_len _) (y_ Use.cells_len (show uD_[x.kind.toNat]? = some _ from by rw[d.1];rfl))) rfl ?_;refine u_ zeroValue129 rfl λK=>n_ 0 dG_ rfl rfl rfl rfl rfl rfl (Zz 5 ?_)
 refine n_ 1 ab_ rfl rfl rfl rfl rfl rfl (Zz 14 ?_);refine f_ (tI_ x.left d.2.1) rfl i_ zt rfl λ_=>Zz 4 ?_
 refine n_ 1 D_ rfl rfl rfl rfl rfl rfl (Zz 6 ?_);refine e_ (aj_ (aM_ rfl rfl) (show _=Value.bool false from yah_ Value.bool zac_)) rfl (Zz 17 ?_);refine f_ (tI_ x.right d.2.2) rfl i_ zt rfl λ_=>Zz 4 ?_
 refine n_ 1 D_ rfl rfl rfl rfl rfl rfl (Zz 6 ?_);refine e_ (aj_ (aM_ rfl rfl) (show _=Value.bool false from yah_ Value.bool zac_)) rfl (Zi 10 (λy=>?_) λy=>?_)
 .refine Zi 6 (λm=>?_) λm=>?_
  .refine Zz 17 ?_
   refine n_ 1 ab_ rfl rfl rfl rfl rfl rfl (Zz 4 ?_);exact dI_ () (λI v B A=>dS_ (us:=Ax.cells x) 1 results38 ed_ ab_ rfl rfl rfl rfl I v B A) i_ zt
  exfalso;have:=d.1;omega
 exfalso;have:=d.1;omega
theorem uu_ (x y:Ax) (C:x.ok) (d:y.ok) (v:x.left.sz<=1000000) (A:x.right.sz<=1000000) (B:y.left.sz<=1000000) (m:y.right.sz<=1000000):Tri prog 41 #[.agg #[i4_ x.kind,.bool x.opn,i4_ x.left.kind,str x.left.name,i4_ x.left.lo,i4_ x.left.hi,.slice x.left.ad x.left.parts.length x.left.cap,i4_ x.right.kind,str x.right.name,i4_ x.right.lo,i4_ x.right.hi,.slice x.right.ad x.right.parts.length x.right.cap,.slice x.ad x.roles.length x.cap,str x.role,str x.a,str x.b],Ax.val y] [] [Ax.memF x,Ax.memF y] (λ_:Unit=>.bool (Ax.cmp x y==0)) (λ_=>[]) (λ_=>[]):=by
  refine g_ func41 rfl rfl ntmps41 rfl λI=>?_;refine Zz 2 ?_;refine F_ rfl rfl λF=>F_ rfl rfl λH=>Zz 8 ?_
  refine f_ (qa_ x y C d v A B m) rfl i_ zf rfl λ_=>P_ (by_ rfl rfl) rfl λG E=>Zz 4 ?_
  exact ac_ results41 () (p_ rfl (by rw[<-E])) i_ zt
theorem Ao_ (x y:Ax) (F:x.ok) (m:y.ok) (A:x.left.sz<=1000000) (C:x.right.sz<=1000000) (E:y.left.sz<=1000000) (v:y.right.sz<=1000000):Tri prog 91 #[.agg #[i4_ x.kind,.bool x.opn,i4_ x.left.kind,str x.left.name,i4_ x.left.lo,i4_ x.left.hi,.slice x.left.ad x.left.parts.length x.left.cap,i4_ x.right.kind,str x.right.name,i4_ x.right.lo,i4_ x.right.hi,.slice x.right.ad x.right.parts.length x.right.cap,.slice x.ad x.roles.length x.cap,str x.role,str x.a,str x.b],Ax.val y] [] [Ax.memF x,Ax.memF y] (λ_:Unit=>.bool ((x.opn==y.opn)&&(Ax.cmp x y==0))) (λ_=>[]) (λ_=>[]):=by
 refine g_ func91 rfl rfl ntmps91 rfl λH=>?_;refine Zz 2 ?_;refine F_ rfl rfl λJ=>F_ rfl rfl λK=>Zz 10 ?_
 refine P_ (vY_ underlying4 rfl rfl) rfl λG d=>Zz 1 ?_
 cases G
 .refine Zz 8 ?_
  exact ac_ results91 () (p_ rfl zaK_) i_ zt
 refine Zz 5 ?_;refine aa_ (uu_ x y F m A C E v) rfl i_ zf rfl λI B=>Zz 5 ?_
 exact ac_ results91 () (p_ rfl (by rw[<-B];simp[d])) i_ zt
def tQ_ (x:Ax):Bool:=(x.kind==5)||(x.kind==6)||(x.kind==7)
theorem id_ {G:Prop} (h:G:=by
 exact ac_ results92 () (p_ rfl (by unfold tQ_;simp_all)) i_ zt):G:=h
theorem tq_ (x:Ax):Fn0 prog 92 #[Ax.val x] (.bool (tQ_ x)):=by
 refine g_ func92 rfl rfl ntmps92 rfl λy=>?_;refine Zz 2 ?_;refine F_ rfl rfl λA=>Zi 7 (λd=>?_) λd=>?_
 .refine Zi 6 (λm=>?_) λm=>?_
  .refine Zz 7 ?_
   refine P_ (by_ rfl rfl) rfl λB v=>Zz 5 ?_
   exact id_
  refine Zz 10 ?_;exact id_
 refine Zz 14 ?_;exact id_
theorem sr_ (l:List Ax) (ad:Ao) (cap:Nat) (E:∀ x∈l,x.ok) (H:∀ x∈l,x.check=0) (K:∀ x∈l,pln x) (I:l.length<=1000):Tri prog 144 #[.slice ad l.length cap] [] [cI_ ad l,bB_] (λ_:Unit=>i4_ 0) (λ_=>[]) (λ_=>[]):=by
 refine g_ func144 rfl rfl ntmps144 rfl λG=>?_;refine Zz 14 ?_;refine I_ (ι:={y:Nat // y<=List.length l}) (λy=>[(2,i4_ 0),(6,.slice ad l.length cap),(7,i4_ (List.length l:Int)),(8,i4_ y.1)]) (λy=>([])) (λy=>[cI_ ad l,bB_]) (λy=>l.length - y.1) ⟨(0:Nat),by simp⟩ zl i_ zh ?_;rintro ⟨i,C⟩;dsimp only at C ⊢;refine Zi 2 (λB=>?_) λB=>?_
 .refine Zz 12 ?_
  exact ac_ results144 () rfl i_ zt
 obtain⟨A,m,F,d⟩:=zge (show i<l.length by omega);have J:=K m d;refine Zz 12 ?_;refine u_ aK_ rfl λL=>n_ 0 ab_ rfl rfl rfl rfl rfl rfl (Zz 5 ?_)
 refine f_ (pe_ (E m d) (H m d)) rfl i_ (λv _ h=>by exact⟨(h.1.2 m d),h.2.1,trivial⟩) rfl λ_=>Zz 6 ?_
 refine e_ (aj_ (aM_ rfl rfl) (show _=Value.bool false from yah_ Value.bool zac_)) rfl (Zz 10 ?_);exact C_ ⟨i+1,A⟩ zab_ zl i_ zh
theorem wp_ (l:List Ax) (ad:Ao) (cap:Nat) (M:∀ x∈l,x.ok) (P:∀ x∈l,x.check=0) (N:∀ x∈l,pln x) (L:l.length<=1000):Tri prog 146 #[.slice ad l.length cap] [] [cI_ ad l] (λb:Nat=>.map (some b)) (λb=>[(b,.map #[] 0)]) (λ_=>[]):=by
 refine g_ func146 rfl rfl ntmps146 rfl λK=>?_;refine Zz 7 ?_;refine aX_ rfl λv=>u_ zeroValue228 rfl λd=>n_ 0 sizeOf228 rfl rfl rfl rfl rfl rfl (Zz 4 ?_)
 refine e_ (aR_ rfl rfl) rfl (Zz 12 ?_);refine I_ (ι:={y:Nat // y<=List.length l}) (λy=>[(2,.map none),(3,zp_ d 0),(4,.func (.func 211) #[] #[zp_ d 0]),(11,.slice ad l.length cap),(12,i4_ (List.length l:Int)),(13,i4_ y.1)]) (λy=>((d,.cells #[.map (some v)] 228 (0,0))::((v,.map #[] 0)::[]))) (λy=>[cI_ ad l]) (λy=>l.length - y.1) ⟨(0:Nat),by simp⟩ zl zp zh ?_;rintro ⟨i,F⟩;dsimp only at F ⊢;refine Zi 2 (λE=>?_) λE=>?_
 .refine Zz 13 ?_
  exact ac_ results146 v rfl zp zt
 obtain⟨A,H,J,m⟩:=zge (show i<l.length by omega);have G:=N H m;have I:=G.1;refine Zz 12 ?_;refine u_ aK_ rfl λO=>n_ 0 ab_ rfl rfl rfl rfl rfl rfl (Zi 11 (λC=>?_) λC=>?_)
 .refine Zi 6 (λB=>?_) λB=>?_
  .refine Zz 11 ?_
   exact C_ ⟨i+1,A⟩ zab_ zl (m_ (c_ d_) (c_ d_)) zh
  exfalso;omega
 exfalso;omega
theorem rn_ (x:Nat):Tri prog 145 #[.map (some x)] [(x,.map #[] 0)] [] (λy:Ao×Nat=>.agg #[.slice y.1 (eH_ []).length y.2,.slice none 0 0]) (λ_=>[]) (λy=>[L_ y.1 (List.flatMap ar_ (eH_ []))]):=by
 refine g_ func145 rfl rfl ntmps145 rfl λL=>?_;refine Zz 2 ?_;refine u_ zeroValue226 rfl λB=>Zz 5 ?_
 refine f_ (zR_ x) rfl i_ zt rfl λF=>f_ (uL_ 259 [zp_ F 0] [(F,.cells #[.map (some x)] 228 (0,0)),(x,.map #[] 0)] [] ybZ_ zai_ (zW_ x F 0 #[] [] KeyE.nil (Born.nil 0) zai_)) rfl zp zt rfl λ⟨⟨d,m⟩,K,I,J⟩=>?_;dsimp only;have A:eH_ []=[]:=List.mergeSort_nil;refine Zz 1 ?_;refine n_ 2 ft_ rfl rfl rfl rfl rfl rfl (Zz 12 ?_);refine I_ (ι:={y:Nat // y<=List.length (eH_ [])}) (λy=>[(0,.map (some x)),(2,zp_ B 0),(15,.slice d (eH_ []).length m),(16,i4_ (List.length (eH_ []):Int)),(17,i4_ y.1)]) (λy=>((B,.cells #[.slice d (eH_ []).length m,.slice none 0 0] 226 (0,0))::[])) (λy=>[L_ d (List.flatMap ar_ (eH_ []))]) (λy=>List.length (eH_ []) - y.1) ⟨(0:Nat),by simp⟩ zl (c_ (c_ d_)) zh ?_;rintro ⟨i,E⟩;dsimp only at E ⊢;refine Zi 2 (λC=>?_) λC=>?_
 .refine Zz 9 ?_
  refine n_ 0 sizeOf226 rfl rfl rfl rfl rfl rfl (Zz 3 ?_);exact dI_ ⟨d,m⟩ (λM v H G=>cu_ (us:=[.slice d (eH_ []).length m,.slice none 0 0]) 0 results145 isAgg226 sizeOf226 rfl rfl rfl M v H G) i_ zf
 exfalso;rw[A]at *;simp only[yaB_]at *;omega
theorem ss_ (l:List Ax) (ad:Ao) (cap:Nat) (C:∀ x∈l,x.ok) (I:∀ x∈l,x.check=0) (J:∀ x∈l,pln x) (B:l.length<=1000):Tri prog 93 #[.slice ad l.length cap] [] [cI_ ad l,bB_] (λ_:Unit=>.tuple #[.slice none 0 0,i4_ 0]) (λ_=>[]) (λ_=>[]):=by
 refine g_ func93 rfl rfl ntmps93 rfl λK=>?_;refine Zz 10 ?_;refine f_ (sr_ l ad cap C I J B) rfl i_ zf rfl λ_=>Zz 6 ?_
 refine e_ (aj_ (aM_ rfl rfl) (show _=Value.bool false from yah_ Value.bool zac_)) rfl (Zz 8 ?_);refine f_ (wp_ l ad cap C I J B) rfl i_ zf rfl λL=>f_ (rn_ L) rfl d_ zt rfl λ⟨d,A⟩=>?_;dsimp only;have v:eH_ []=[]:=List.mergeSort_nil;have H:List.length (eH_ [])=0:=by rw[v];rfl
 refine u_ zeroValue226 rfl λE=>n_ 0 sizeOf226 rfl rfl rfl rfl rfl rfl (Zz 26 ?_)
 refine I_ (ι:={y:Nat // y<=List.length (eH_ [])}) (λy=>[(2,.slice none 0 0),(3,i4_ 0),(5,zp_ E 0),(6,i4_ ((List.length (eH_ []):Int)+1)),(7,.slice none 0 0),(26,i4_ (List.length (eH_ []):Int)),(27,i4_ y.1)]) (λy=>((E,.cells #[.slice d (eH_ []).length A,.slice none 0 0] 226 (0,0))::[])) (λy=>[L_ d (List.flatMap ar_ (eH_ [])),cI_ ad l,bB_]) (λy=>List.length (eH_ []) - y.1) ⟨(0:Nat),by simp⟩ zl d_ zh ?_;rintro ⟨i,G⟩;dsimp only at G ⊢;refine Zi 2 (λF=>?_) λF=>?_
 .refine Zz 10 ?_
  refine e_ (aj_ (mA_ (ad:=none) (m:=0) (c:=0) ok_ rfl rfl) (show _=Value.bool true from rfl)) rfl (Zz 10 ?_);exact hQ_ results93 () rfl rfl rfl i_ zt
 exfalso;rw[v]at *;simp only[yaB_]at *;omega
theorem kx_ (l:List Ax) (ad:Ao) (cap:Nat) (G:∀ x∈l,x.ok) (hC:∀ x∈l,x.check=0) (Z:∀ x∈l,pln x) (a0:l.length<=1000) (K:∀ x∈l,x.left.sz<=1000000/\x.right.sz<=1000000) (hS:∀ (i:Nat) x y,l[i]? = some x->l[i+1]? = some y->Ax.cmp x y=-1):Tri prog 42 #[.agg #[.slice ad l.length cap]] [] [cI_ ad l,bB_] (λ_:Unit=>i4_ 0) (λ_=>[]) (λ_=>[]):=by
 refine g_ func42 rfl rfl ntmps42 rfl λv_1=>?_;refine Zz 2 ?_;refine F_ rfl rfl λH=>Zz 13 ?_
 let Pu:Hp:=((H,.cells #[.slice ad l.length cap] 57 (0,0))::[]);refine I_ (ι:={y:Nat // y<=List.length l}) (λy=>[(1,zp_ H 0),(2,i4_ 0),(11,.slice ad l.length cap),(12,i4_ (List.length l:Int)),(13,i4_ y.1)]) (λy=>Pu) (λy=>[cI_ ad l,bB_]) (λy=>l.length - y.1) ⟨(0:Nat),by simp⟩ zl d_ zh ?_;rintro ⟨i,V⟩;dsimp only at V ⊢;refine Zi 2 (λY=>?_) λY=>?_
 .refine Zz 13 ?_
  refine I_ (ι:={y:Nat // 1<=y}) (λy=>[(1,zp_ H 0),(2,i4_ 0),(7,i4_ y.1)]) (λy=>Pu) (λy=>[cI_ ad l,bB_]) (λy=>l.length - y.1) ⟨(1:Nat),by simp⟩ zl d_ zh ?_;rintro ⟨W,U⟩;dsimp only at U ⊢;refine Zi 7 (λE=>?_) λE=>?_
  .refine Zi 11 (λF=>?_) λF=>?_
   .refine Zz 15 ?_
    refine I_ (ι:={y:Nat // y<=List.length l}) (λy=>[(1,zp_ H 0),(2,i4_ 0),(56,.slice ad l.length cap),(57,i4_ (List.length l:Int)),(58,i4_ y.1)]) (λy=>Pu) (λy=>[cI_ ad l,bB_]) (λy=>l.length - y.1) ⟨(0:Nat),by simp⟩ zl d_ zh ?_;rintro ⟨j,X⟩;dsimp only at X ⊢;refine Zi 2 (λT=>?_) λT=>?_
    .refine Zz 10 ?_
     refine f_ (ss_ l ad cap G hC Z a0) rfl i_ zf rfl λ_=>Zz 13 ?_
     exact ac_ results42 () rfl i_ zt
    have J:j<l.length:=by omega
    obtain⟨O,S⟩:∃ N,l[j]? = some N:=⟨_,yaa_ J⟩;have Q:O∈l:=yac_ S;have a2:=(Z O Q).1;refine Zz 12 ?_;refine u_ aK_ rfl λa1=>n_ 0 ab_ rfl rfl rfl rfl rfl rfl (Zz 5 ?_)
    refine aa_ (tq_ O) rfl i_ zt rfl λP hr_5=>Zz 1 ?_
    cases P
    .refine Zz 14 ?_
     exact C_ ⟨j+1,J⟩ zab_ zl (c_ d_) zh
    exfalso;simp[tQ_,a2]at *
   exfalso;omega
  obtain⟨B,rfl⟩:∃ B,W=B+1:=⟨W - 1,by omega⟩;obtain⟨I,m,L,d⟩:=zge (show B<l.length by omega);have R:(B+1:Nat)<l.length:=by omega
  obtain⟨C,M⟩:∃ N,l[(B+1:Nat)]? = some N:=⟨_,yaa_ R⟩;have A:C∈l:=yac_ M;refine Zz 9 ?_;refine s_ 2 [0,1,2,3,4,5,6,7,8,9,10] zk zs (Zz 3 ?_);refine S_ rfl (aj_ (bf_ rfl rfl rfl (bW_ zaa_ zaa_)) (show _=i4_ B from yah_ _ zaa_)) rfl (Zz 8 ?_);refine l_ 11 rfl zk (f_ (qa_ m C (G m d) (G C A) (K m d).1 (K m d).2 (K C A).1 (K C A).2) rfl i_ (λv _ h=>by exact⟨(h.1.2 m d),(h.1.2 C A),trivial⟩) rfl λ_=>Zz 3 ?_);refine s_ 0 [12] zk zs ?_;refine Zi 0 (λF=>?_) λF=>?_
  .refine Zz 8 ?_
   refine e_ (aj_ (bf_ rfl rfl rfl (bW_ zaa_ zaa_)) (show _=i4_ ((B+1+1:Nat):Int) from yah_ _ zaa_)) rfl (Zz 3 ?_);exact C_ ⟨B+1+1,by omega⟩ zab_ zl d_ zh
  exfalso;exact F (hS B m C L M)
 obtain⟨I,m,L,d⟩:=zge (show i<l.length by omega);have hkx:=Z m d;refine Zz 12 ?_;refine u_ aK_ rfl λa1=>n_ 0 ab_ rfl rfl rfl rfl rfl rfl (Zz 5 ?_)
 refine f_ (iK_ m (G m d) (hC m d) (Z m d)) rfl i_ (λv _ h=>by exact⟨(h.1.2 m d),h.2.1,trivial⟩) rfl λ_=>Zz 3 ?_
 refine u_ aK_ rfl λb_3=>n_ 0 ab_ rfl rfl rfl rfl rfl rfl (Zz 7 ?_)
 refine e_ (aj_ (aM_ rfl rfl) (show _=Value.bool false from yah_ Value.bool zac_)) rfl (Zz 8 ?_);refine e_ (w_ tN_ rfl rfl) rfl (Zz 1 ?_);refine aa_ (Ao_ m m (G m d) (G m d) (K m d).1 (K m d).2 (K m d).1 (K m d).2) rfl i_ (λv _ h=>by exact⟨(h.1.2 m d),(h.1.2 m d),trivial⟩) rfl λP E=>e_ (aH_ rfl) rfl (Zz 2 ?_)
 cases P
 .exfalso;rw[Ax.cmp_self]at E;simp at E
 refine Zz 8 ?_;exact C_ ⟨i+1,I⟩ zab_ zl (c_ (c_ d_)) zh
structure PL where
  l:List Pc
  ad:Ao
  cap:Nat
def PL.cells (x:PL):List Value:=[.slice x.ad x.l.length x.cap]
theorem PL.cells_len (x:PL):x.cells.length=1:=rfl
structure PL.ok (x:PL):Prop where
  le:x.l.length<=x.cap
  nz:x.ad=none->x.cap=0
  sh:x.l.length<=100000
def plF (xs:List PL):Fct where
  p v:=∀ x∈xs,bl_ v x.ad (x.l.flatMap Pc.cells)
  mono:=λv v' h hp x hx=>(L_ x.ad (x.l.flatMap Pc.cells)).mono v v' h (hp x hx)
def eI_ (xs:List PL):List Pc:=List.flatMap PL.l xs
theorem sA_ {xs:List PL} {i:Nat} {x:PL} (h:xs[i]? = some x):eI_ (xs.take (i+1))=eI_ (xs.take i)++x.l:=by unfold eI_;rw[yao_,h];simp
theorem vc_ {xs:List PL} (h:∀ x∈xs,x.ok) (i:Nat):(eI_ (xs.take i)).length<=min i xs.length*100000:=by
  have:=AR_ (g:=PL.l) (n:=100000) (xs.take i) λx d=>(h x (ybs_ d)).sh
  rwa [yat_]at this
theorem Ac_ (n:Nat) (C:n<=1000000000):Tri prog 61 #[.slice none 0 0,i4_ n] [] [] (λy:{y:Value×Hp // ad_ 32 10 y.1 0 [] y.2}=>y.1.1) (λy=>y.1.2) (λ_=>[]):=by
 refine g_ func61 rfl rfl ntmps61 rfl λB=>?_;refine Zi 9 (λm=>?_) λm=>?_
 .refine Zz 10 ?_
  refine e_ (qq_ z_ rfl) rfl (Zz 3 ?_);refine e_ (aj_ (bf_ rfl rfl rfl (bW_ zaa_ zaa_)) (show i4_ ((n:Int) - (0 - 0))=i4_ n from yah_ _ zaa_)) rfl (Zi 6 (λd=>?_) λd=>?_)
  .refine Zz 12 ?_
   exact ac_ results61 ⟨(.slice none 0 0,[]),ad_.nil _ _⟩ rfl i_ zt
  refine Zz 6 ?_;refine e_ (qq_ z_ rfl) rfl (e_ (aj_ (di_ (i:=0) (j:=0) (kl:=.i64) (kh:=.i64) z_ A_ rfl rfl rfl zaa_ zaa_) (show _=Value.slice none 0 0 from rfl)) rfl (Zz 1 ?_));refine rh_ (n:=n) iA_ o_ rfl rfl zaa_ zaa_ zaj_ rfl λx v A=>?_;refine Zz 2 ?_;refine e_ (aj_ (di_ (i:=0) (j:=0) (kl:=.i64) (kh:=.i64) z_ A_ rfl rfl rfl zaa_ zaa_) (show _=Value.slice (some ⟨v,0,none⟩) 0 x.1 by simp[qH_])) rfl (Zz 10 ?_);exact ac_ results61 ⟨(.slice (some ⟨v,0,none⟩) 0 x.1,[(v,.cells x.2 32 (0,0))]),uJ_ A.2.1 A.2.2⟩ rfl d_ zt
 exfalso;omega
theorem nN_ (xs:List PL) (E:Ao) (C:Nat) (B:∀ x∈xs,x.ok) (hl:xs.length<=100):Tri prog 27 #[.slice E xs.length C] [] [L_ E (xs.flatMap PL.cells),plF xs] (λy:{y:Ao×Nat // ((eI_ xs)).length<=y.2/\y.2<=maxLen/\(y.1=none->y.2=0)}=>.slice y.1.1 ((eI_ xs)).length y.1.2) (λ_=>[]) (λy=>[L_ y.1.1 (((eI_ xs)).flatMap Pc.cells)]):=by
 refine g_ func27 rfl rfl ntmps27 rfl λv_1=>?_;refine Zz 19 ?_;refine I_ (ι:={y:Nat×Nat // y.1<=List.length xs/\y.2<=y.1*100000}) (λy=>[(0,.slice E xs.length C),(3,i4_ y.1.2),(9,.slice E xs.length C),(10,i4_ (List.length xs:Int)),(11,i4_ y.1.1)]) (λy=>([])) (λy=>[L_ E (xs.flatMap PL.cells),plF xs]) (λy=>xs.length - y.1.1) ⟨((0:Nat),(0:Nat)),by simp,by simp⟩ zl i_ zh ?_;rintro ⟨⟨i,w⟩,hi,hw⟩;dsimp only at hi hw ⊢;refine Zi 2 (λH=>?_) λH=>?_
 .refine Zz 9 ?_
  refine f_ (Ac_ w zaa_) rfl i_ zt rfl λ⟨⟨G,M⟩,N⟩=>?_;dsimp only;dsimp only at N;refine t_ fc_ ?_;have U:ad_ 32 10 G (eI_ (xs.take 0)).length (List.flatMap Pc.cells (eI_ (xs.take 0))) M:=by exact N
  refine Zz 12 ?_;refine I_ (ι:={y:Nat×Value×Hp // y.1<=List.length xs/\zR 32 10 Pc.cells y.2.1 (eI_ (xs.take y.1)) y.2.2}) (λy=>[(0,.slice E xs.length C),(6,y.1.2.1),(25,.slice E xs.length C),(26,i4_ (List.length xs:Int)),(27,i4_ y.1.1)]) (λy=>(y.1.2.2)) (λy=>[L_ E (xs.flatMap PL.cells),plF xs]) (λy=>xs.length - y.1.1) ⟨((0:Nat),G,M),by simp,U⟩ zl af_ zh ?_;rintro ⟨⟨j,X,Y⟩,hj,A⟩;dsimp only at hj A ⊢;have Z:=vc_ B j;refine Zi 2 (λI=>?_) λI=>?_
  .rw[yad_ zaa_]at A
   refine Zz 13 ?_;refine aZ_ A af_ λR V Q K J L=>?_;exact ac_ results27 ⟨(R,V),K,J,L⟩ (fE_ rfl Q) i_ zf
  obtain⟨F,m,O,d⟩:=zge (show j<xs.length by omega);have P:=(B m d).sh;refine Zz 18 ?_;refine cS_ (news:=List.flatMap Pc.cells (PL.l m)) iA_ A rfl rfl (B m d).nz (B m d).le af_ zaD_ (λv _ h=>by exact (h.2.1 m d)) (λu hu=>aG_ Pc.cells_one hu) (by simp only[maxLen];(have:=(B m d).sh;omega)) (by (have:=(B m d).sh;omega)) rfl λS W H=>?_;refine t_ yax_ ?_;have T:=zsa H;refine Zz 8 ?_;exact C_ ⟨(j+1,S,W),F,(by rw[sA_ O];exact T)⟩ zab_ zl af_ zh
 obtain⟨F,m,O,d⟩:=zge (show i<xs.length by omega);have P:=(B m d).sh;refine Zi 27 (λI=>?_) λI=>?_
 .refine Zz 10 ?_
  exact C_ ⟨(i+1,w+List.length (PL.l m)),F,by have:=(B m d).sh;dsimp only;omega⟩ zab_ ⟨rfl,(bd_ rfl (by push_cast;rfl)),rfl,rfl,rfl,trivial⟩ i_ zh
 exfalso;omega
structure Grw where
  st:List (Nat×Bool)
  ad:Ao
  cap:Nat
def Grw.cells (x:Grw):List Value:=[.slice x.ad x.st.length x.cap]
section
variable {P:Program} {N:Nf} {fr:Fr} {H:Hp} {Γ:List Fct} {ty:TypeId}
end
end Go.Proofs.YtfjcabalehamcaaGreatDoor
namespace Go.Proofs.YtfjcabalehamcaaGreatDoor
open Go Go.Sx Go.Proofs Tryz
attribute [local irreducible] Code.wp wpList wpAnyH
open Go.Vs
def vU_ (G:List (List (Nat×Bool))) (i most:Nat) (L:List Int) (ad:Ao) (cap:Nat):Prop :=
  (L=[]/\ad=none/\cap=0/\most=G.length+1/\∀ (n:Nat) (f:Nat->Nat) (c:Nat->Bool),Clw (gE G) n f c->f 0<i->most<=n)\/
  (ad≠none/\most<=2*G.length+1/\(∃ n,Clo (gE G) n)/\(∀ x∈L,0<=x/\x<(G.length:Int))/\L.length<=2*G.length+1)
theorem vU_.none {G:List (List (Nat×Bool))} {most:Nat} {L:List Int} {cap:Nat} (h:vU_ G G.length most L none cap):∀ n,¬ Clo (gE G) n:=by
 rcases h with⟨_,_,_,x,m⟩|⟨h,_⟩
 .exact yl_ λn f c v d=>by have:=m n f c v d;omega
 exact absurd rfl h
theorem vU_.some {G:List (List (Nat×Bool))} {i most:Nat} {L:List Int} {ad:Ao} {cap:Nat} (h:vU_ G i most L ad cap) (y:ad≠Option.none):(∃ n,Clo (gE G) n)/\(∀ x∈L,0<=x/\x<(G.length:Int))/\L.length<=2*G.length+1:=by
 rcases h with⟨_,h,_⟩|⟨_,_,m,d,v⟩
 .exact absurd h y
 exact⟨m,d,v⟩
theorem vU_.most {G:List (List (Nat×Bool))} {i most:Nat} {L:List Int} {ad:Ao} {cap:Nat} (h:vU_ G i most L ad cap):most<=2*G.length+1:=by
  rcases h with⟨_,_,_,h,_⟩|⟨_,h,_⟩<;>omega
def RlR (l:List Ax) (e:Int):Prop:=(e=0/\¬ Circ (wo_ l))\/(e=60/\Circ (wo_ l))
def TGood (t:Tre):Prop:=t.wf/\t.con.sz<=1000000
end Go.Proofs.YtfjcabalehamcaaGreatDoor
namespace Go.Proofs.YtfjcabalehamcaaGreatDoor
open Go Go.Sx Go.Proofs Tryz
attribute [local irreducible] Code.wp wpList wpAnyH
open Go.Vs Go.Shelf Go.RowKit
def TdR (c:Con) (y:Con×Int):Prop:=y.2=c.tdy.2/\(y.2=0->y.1.core=c.tdy.1.core/\y.1.ok)
structure McI (ps:List Con) (i:Nat) (ts:List Tre):Prop where
  core:(ts.map Tre.con).map Con.core=(((ps.map Con.tdy).take i).flatMap λz=>Con.flat1 z.1).map Con.core
  er:Con.erF ((ps.map Con.tdy).take i)=0
  good:∀ t∈ts,TGood t/\t.con.ok
theorem uG_ {a b:List Con} (h:a.map Con.core=b.map Con.core):Con.sz.szs a=Con.sz.szs b:=Con.szs_core a b (by rw[Con.cores_map,Con.cores_map];exact h)
theorem wj_:∀ ps:List Con,Con.sz.szs ((ps.map Con.tdy).flatMap λz=>Con.flat1 z.1)<=Con.sz.szs ps:=λps=>by
  have:=Con.tdys_sz ps;rwa [Con.tdys_map]at this
theorem McI.size {ps:List Con} {i:Nat} {d:List Tre} (h:McI ps i d):Con.sz.szs (d.map Tre.con)<=Con.sz.szs (ps.take i):=by
  rw[uG_ h.core,<-ydr_];exact wj_ (ps.take i)
theorem McI.len {ps:List Con} {i:Nat} {d:List Tre} (h:McI ps i d):d.length<=Con.sz.szs (ps.take i):=by
  have m:=szs_len (d.map Tre.con);rw[yaO_]at m;have:=h.size;omega
def SdF (u:Bool) (c q:Con):Prop:=(u=true->TdR c (q,0))/\(u=false->q=c)
theorem SdF.ok {u:Bool} {c q:Con} (h:SdF u c q) (d:c.ok):q.ok:=by
  cases u with
  | true=>exact ((h.1 rfl).2 rfl).2
  | false=>rw[h.2 rfl];exact d
def yp_ (x:Ax):Prop:=x.left.core=(if x.swp then x.tdyR.core else x.tdyL.core)/\x.right.core=if x.swp then x.tdyL.core else x.tdyR.core
instance (x:Ax):Decidable (yp_ x):=decidable_of_iff (Con.cmp x.left (if x.swp then x.tdyR else x.tdyL)=0/\Con.cmp x.right (if x.swp then x.tdyL else x.tdyR)=0) (by
 rw[Con.cmp_zero,Con.cmp_zero];unfold yp_
 by_cases h:x.swp
 .simp only[yaq_ h]
 simp only[yaf_ h])
def tidE (x:Ax):Int:=if x.tdyE≠0 then x.tdyE else if yp_ x then 0 else 22
def axE:List Ax->Int
  | []=>0
  | x::l=>if tidE x≠0 then tidE x else axE l
def vT_ (l:List Ax):Prop:=∀ (i:Nat) (x y:Ax),l[i]? = some x->l[i+1]? = some y->Ax.cmp x y=-1
def AU_ (x:Ax):Prop:=tQ_ x=true/\x.opn=false
def BCk (l:List Ax) (e:Int):Prop :=
  (axE l≠0/\e=axE l)\/(axE l=0/\¬ vT_ l/\e=70)\/(axE l=0/\vT_ l/\1024<l.length/\e=2)\/(axE l=0/\vT_ l/\l.length<=1024/\(∃ x∈l,AU_ x)/\e=71)\/
    (axE l=0/\vT_ l/\l.length<=1024/\(∀ x∈l,¬ AU_ x)/\RlR l e)
theorem vT_.all {l:List Ax} {k:Nat} (h:∀ (i:Nat) (x y:Ax),i+1<k->l[i]? = some x->l[i+1]? = some y->Ax.cmp x y=-1) (v:l.length<=k):vT_ l:=λi x y m d=>h i x y zaI_ m d
def MpR (l:List Ax) (P:List Pc) (e:Int):Prop:=∃ e0,BCk l e0/\((e0≠0/\e=e0/\P=[])\/(e0=0/\e=(aI_ l).2/\P=(aI_ l).1))
def ExR (l:List Ax) (S:List Str) (X:List Ax) (e:Int):Prop:=∃ e0,BCk l e0/\((e0≠0/\e=e0/\X=[])\/(e0=0/\(aI_ l).2≠0/\e=(aI_ l).2/\X=[])\/(e0=0/\(aI_ l).2=0/\si_ S=false/\e=1/\X=[])\/
    (e0=0/\(aI_ l).2=0/\si_ S=true/\e=0/\X=AN_ l (zK_ l (aI_ l).1 S l.length)))
theorem MpR.ok {l:List Ax} {P:List Pc} {e:Int} (h:MpR l P e) (d:e=0):BCk l 0/\(aI_ l).2=0/\P=(aI_ l).1:=by
 obtain⟨v,m,h|h⟩:=h
 .exact absurd (h.2.1.symm.trans d) h.1
 exact⟨h.1▸m,h.2.1.symm.trans d,h.2.2⟩
theorem ExR.ok {l:List Ax} {S:List Str} {P:List Pc} {e:Int} (h:MpR l P e) (d:e=0) (m:si_ S=true):ExR l S (AN_ l (zK_ l P S l.length)) 0:=by
  obtain⟨x,v,y⟩:=h.ok d;exact⟨0,x,.inr (.inr (.inr ⟨rfl,v,m,rfl,by rw[y]⟩))⟩
theorem ExR.len {l X:List Ax} {S:List Str} {e:Int} (h:ExR l S X e):X.length<=l.length:=by
 obtain⟨d,m,h|h|h|h⟩:=h
 .rw[h.2.2];simp
 .rw[h.2.2.2];simp
 .rw[h.2.2.2.2];simp
 rw[h.2.2.2.2];exact ybv_ (List.length_filterMap_le _ _) (xs_ _)
end Go.Proofs.YtfjcabalehamcaaGreatDoor
namespace Go.Sx
open Go Go.Vs
structure StM where
  es:Array MapEntry
  c:Nat
  ks:List Str
  hE:SetE str es ks
  hB:Born es c
def StM.add (s:StM) (k:Str):StM:=if h:k∈s.ks then s else ⟨s.es.push ⟨str k,.bool true,s.c⟩,s.c+1,s.ks++[k],s.hE.push h s.c,s.hB.push _ _⟩
theorem StM.len {s:StM} {k:Str}:(s.add k).ks.length<=s.ks.length+1:=by
  unfold StM.add
  split<;>simp
section
variable {P:Program} {N:Nat} {v0:Vw} {H0:Hp} {R:Exit->Act->World->Prop} {Kk:List Kt} {fr:Fr} {H:Hp} {Γ:List Fct}
variable {ops:Array Oper} {lo:List Oper} {d:Nat} {ty:TypeId} {ps:String} {af:Array Edge}
theorem sf_ {t kt K:TypeId} {x y:Operand} {b c i:Nat} {es:Array MapEntry} {m u:Value} (F:∀ w,(underlying t).run P w=.ok (.map kt K) w) (I:Fr.ev fr x=some (.map (some b))) (C:Fr.ev fr y=some m) (n:Nat)
    (hi:H[n]? = some (b,.map es c)) (J:hP_ P kt m) (B:dh_ P kt m es.toList (some (i,u))):Yld P N fr H Γ (.lookup t x y true) ty (.tuple #[u,.bool true]) :=
  λa v A E L _ _ _=>by
    have G:=MapKept.run_getObj_map (P:=P) (E.own _ (yac_ hi)).1;simp[execOp,A.ev I,A.ev C,Instr.lookup,F,G,J _ _,B _]
end
end Go.Sx
namespace Go.Vs
open Go Go.Sx
structure W2I (l:List Str) (s:Str) (i:Nat) (R:List Str) (dn:Bool):Prop where
  no:dn=false->R=l.take i/\∀ x∈l.take i,x<s
  yes:dn=true->R++l.drop i=we_ l s
theorem tk1 {α:Type} {l:List α} {i:Nat} {x:α} (h:l[i]? = some x):l.take (i+1)=l.take i++[x]:=by rw[yao_,h];rfl
theorem ul_ {α:Type} {l:List α} {i:Nat} {x:α} (h:l[i]? = some x):l.drop i=x::l.drop (i+1):=by
  obtain⟨hi,rfl⟩:=yab_.1 h;exact yaZ_ hi
theorem W2I.t {l:List Str} {s x:Str} {i:Nat} {R:List Str} (h:W2I l s i R true) (d:l[i]? = some x):W2I l s (i+1) (R++[x]) true :=
  ⟨λq=>(by cases q),λ_=>by have:=h.yes rfl;rw[ul_ d]at this;rw[yap_];exact this⟩
theorem W2I.lt {l:List Str} {s x:Str} {i:Nat} {R:List Str} (h:W2I l s i R false) (hl:SrS l) (C:s≠[]) (d:l[i]? = some x) (e:s<x):W2I l s (i+1) ((R++[s])++[x]) true:=by
 obtain⟨G,A⟩:=h.no rfl;refine⟨λq=>(by cases q),λ_=>?_⟩;have hi:=(yab_.1 d).1
 have F:kS l s=i:=AP_ zaa_ A λz B=>by
   rw[d,yam_]at B;subst B;exact λq=>ycA_ _ (ycq_ q e)
 have E:s ∉ l:=λy=>by
   have v:s∈l.take i\/s∈l.drop i:=by rw[<-yag_,ybA_];exact y
   rcases v with q|q
   . exact ycA_ _ (A s q)
   . rw[ul_ d]at q
     rcases yan_.1 q with rfl|q
     . exact ycA_ _ e
     . have m:SrS (l.drop i):=hl.sublist (List.drop_sublist _ _)
       rw[ul_ d]at m;exact ycA_ _ (ycq_ ((ycr_.1 m).1 s q) e)
 rw[uA_ C E,F,G,ul_ d];simp
end Go.Vs
namespace Go.Proofs.YtfjcabalehamcaaGreatDoor
open Go Go.Sx Go.Proofs Tryz
attribute [local irreducible] Code.wp wpList wpAnyH
open Go.Vs
def tr_ (l:List Ax):Fct:=⟨λv=>∀ x∈l,x.mem v,λv v' hl h x hx=>x.memF.mono v v' hl (h x hx)⟩
theorem lj_ {G:Prop} (h:G:=by
 refine e_ (aj_ (bf_ rfl rfl rfl (bW_ zaa_ zaa_)) (show _=i4_ ((m+1+1:Nat):Int) from yah_ _ zaa_)) rfl (Zz 3 ?_);exact C_ ⟨(m+1+1,H,I),by omega,F,d⟩ zab_ zl af_ zh):G:=h
theorem ins0_c {sv:Value} {A:List Ax} {Hr:Hp} (h:zR 51 16 Ax.cells sv A Hr) (hl:A.length<=10) (P:∀ x∈A,x.ok) (T:∀ x∈A,x.left.sz<=1000000/\x.right.sz<=1000000) (hS:∀ (i:Nat) x y,A[i]? = some x->A[i+1]? = some y->Ax.cmp x y=-1):Tri prog 140 #[sv,i4_ 0,i4_ (List.length A:Int),.func (.func 40) #[] #[]] Hr [tr_ A] (λ_:{y:Hp // zR 51 16 Ax.cells sv A y}=>.tuple #[]) (λy=>y.1) (λ_=>[]):=by
 refine g_ func140 rfl rfl ntmps140 rfl λW=>?_;refine Zz 8 ?_;refine I_ (ι:={y:Nat×Value×Hp // 1<=y.1/\y.2.1=sv/\zR 51 16 Ax.cells y.2.1 A y.2.2}) (λy=>[(0,y.1.2.1),(1,i4_ 0),(2,i4_ (List.length A:Int)),(3,.func (.func 40) #[] #[]),(8,i4_ y.1.1)]) (λy=>(y.1.2.2)) (λy=>[tr_ A]) (λy=>A.length - y.1.1) ⟨((1:Nat),sv,Hr),by simp,rfl,h⟩ zl af_ zh ?_;rintro ⟨⟨O,H,I⟩,N,L,d⟩;dsimp only at N L d ⊢;refine Zi 5 (λR=>?_) λR=>?_
 .refine Zz 5 ?_
  exact bK_ results140 ⟨I,(L▸d)⟩ rfl af_ zt
 obtain⟨m,rfl⟩:∃ m,O=m+1:=⟨O - 1,by omega⟩;obtain⟨V,G,K,C⟩:=zge (show m<A.length by omega);have M:(m+1:Nat)<A.length:=by omega
 obtain⟨E,J⟩:∃ U,A[(m+1:Nat)]? = some U:=⟨_,yaa_ M⟩;have B:E∈A:=yac_ J;refine Zz 14 ?_;refine I_ (ι:={y:Value×Hp // y.1=sv/\zR 51 16 Ax.cells y.1 A y.2}) (λy=>[(0,y.1.1),(1,i4_ 0),(2,i4_ (List.length A:Int)),(3,.func (.func 40) #[] #[]),(8,i4_ ((m+1:Nat):Int)),(9,i4_ ((m+1:Nat):Int))]) (λy=>(y.1.2)) (λy=>[tr_ A]) (λy=>0) ⟨(H,I),L,d⟩ zl af_ zh ?_;rintro ⟨⟨H,I⟩,F,d⟩;dsimp only at F d ⊢;refine Zz 2 ?_;refine V_ (I) zk ?_;refine s_ 13 [0,1,2,3] zk zs (Zi 2 (λS=>?_) λS=>?_)
 .refine Zz 2 ?_
  refine s_ 0 [4,5,6,7,8,9,10,11,12,13,14,15,16] zk zs (Zz 21 ?_);exact lj_
 refine Zz 2 ?_;refine s_ 3 [4,5,6,7,8,9,10,11,12,13] zk zs (Zz 3 ?_);refine cY_ rfl rfl rfl (aE_ d as_ ab_ rfl rfl zaa_ zaa_) rfl (cY_ rfl rfl rfl (gK_ d af_ ed_ ab_ rfl (Ax.cells_len _) zac_ (y_ Ax.cells_len J)) rfl (Zz 2 ?_));refine cY_ rfl rfl rfl (aj_ (bf_ rfl rfl rfl (bW_ zaa_ zaa_)) (show _=i4_ m from yah_ _ zaa_)) rfl (cY_ rfl rfl rfl (aE_ d as_ ab_ rfl rfl zaa_ zaa_) rfl (cY_ rfl rfl rfl (gK_ d af_ ed_ ab_ rfl (Ax.cells_len _) zac_ (y_ Ax.cells_len K)) rfl (bt_ (l_ 14 rfl zk (aP_ rfl rfl (T_ (qa_ E G (P E B) (P G C) (T E B).1 (T E B).2 (T G C).1 (T G C).2) rfl rfl i_ (λv _ h=>by exact⟨(h.1 E B),(h.1 G C),trivial⟩) rfl λ_=>Zz 3 ?_))))));refine s_ 0 [15,16] zk zs ?_;refine Zi 0 (λQ=>?_) λQ=>?_
 .refine Zz 9 ?_
  exact lj_
 exfalso;have Y:=Ax.cmp_anti G E;have X:=hS m G E K J;omega
theorem uH_ {sv:Value} {m:List Ax} {Hr:Hp} (h:zR 51 16 Ax.cells sv m Hr) (hl:m.length<=10) (H:∀ x∈m,x.ok) (J:∀ x∈m,x.left.sz<=1000000/\x.right.sz<=1000000) (hS:∀ (i:Nat) x y,m[i]? = some x->m[i+1]? = some y->Ax.cmp x y=-1):Tri prog 88 #[sv,i4_ (List.length m:Int),.func (.func 40) #[] #[]] Hr [tr_ m] (λ_:{y:Hp // zR 51 16 Ax.cells sv m y}=>.tuple #[]) (λy=>y.1) (λ_=>[]):=by
 refine g_ func88 rfl rfl ntmps88 rfl λI=>?_;refine Zz 14 ?_;refine I_ (ι:={y:Value×Hp // y.1=sv/\zR 51 16 Ax.cells y.1 m y.2}) (λy=>[(0,y.1.1),(1,i4_ (List.length m:Int)),(2,.func (.func 40) #[] #[]),(6,i4_ 20),(7,i4_ 0),(8,i4_ 20)]) (λy=>(y.1.2)) (λy=>[tr_ m]) (λy=>0) ⟨(sv,Hr),rfl,h⟩ zl af_ zh ?_;rintro ⟨⟨B,C⟩,v,d⟩;dsimp only at v d ⊢;refine Zi 5 (λF=>?_) λF=>?_
 .refine Zz 11 ?_
  refine f_ (ins0_c d hl H J hS) rfl af_ zf rfl λ⟨G,A⟩=>?_;dsimp only;try dsimp only at A
  try simp only[yaL_]
  refine Zz 3 ?_;refine I_ (ι:={y:Value×Hp // y.1=sv/\zR 51 16 Ax.cells y.1 m y.2}) (λy=>[(0,y.1.1),(1,i4_ (List.length m:Int)),(2,.func (.func 40) #[] #[]),(6,i4_ 20),(7,i4_ 0),(8,i4_ 20)]) (λy=>(y.1.2)) (λy=>[tr_ m]) (λy=>0) ⟨(B,G),v,A⟩ zl af_ zh ?_;rintro ⟨⟨B,C⟩,v,d⟩;dsimp only at v d ⊢;refine Zi 5 (λE=>?_) λE=>?_
  .refine Zz 5 ?_
   exact bK_ results88 ⟨C,(v▸d)⟩ rfl af_ zt
  exfalso;omega
 exfalso;omega
theorem zh_ {sv:Value} {d:List Ax} {Hr:Hp} (h:zR 51 16 Ax.cells sv d Hr) (hl:d.length<=10) (A:∀ x∈d,x.ok) (C:∀ x∈d,x.left.sz<=1000000/\x.right.sz<=1000000) (hS:∀ (i:Nat) x y,d[i]? = some x->d[i+1]? = some y->Ax.cmp x y=-1):Tri prog 39 #[sv,.func (.func 40) #[] #[]] Hr [tr_ d] (λ_:{y:Hp // zR 51 16 Ax.cells sv d y}=>.tuple #[]) (λy=>y.1) (λ_=>[]):=by
  refine g_ func39 rfl rfl ntmps39 rfl λB=>?_;refine Zz 3 ?_;refine e_ (bU_ h as_ rfl) rfl (Zz 1 ?_);refine f_ (uH_ h hl A C hS) rfl af_ zf rfl λ⟨v,m⟩=>?_;dsimp only;try dsimp only at m
  try simp only[yaL_]
  refine Zz 2 ?_;exact bK_ results39 ⟨v,m⟩ rfl af_ zt
theorem li_ {G:Prop} (h:G:=by
 refine Zz 1 ?_;refine dm_ 2 B sizeOf22 rfl rfl rfl rfl (Zz 7 ?_);exact C_ ⟨(j+1,F,H),E,(by have q:=B;rw[<-tk1 G]at q;exact q)⟩ zab_ zl (m_ (c_ (c_ d_)) (c_ E_)) zh):G:=h
set_option maxHeartbeats 1000000 in
theorem sG_ (l:List Ax) (ad:Ao) (cap:Nat) (L:∀ x∈l,x.ok) (hC:∀ x∈l,x.check=0) (hP:∀ x∈l,pln x) (hll:l.length<=10) (Y:∀ x∈l,x.left.sz<=1000000/\x.right.sz<=1000000) (hS:∀ (i:Nat) x y,l[i]? = some x->l[i+1]? = some y->Ax.cmp x y=-1):Tri prog 13 #[.slice ad l.length cap] [] [cI_ ad l,bB_] (λy:{y:Ao×Nat // l.length<=y.2/\y.2<=maxLen/\(y.1=none->y.2=0)}=>.tuple #[.agg #[.slice y.1.1 l.length y.1.2],i4_ 0]) (λ_=>[]) (λy=>[cI_ y.1.1 l]):=by
 refine g_ func13 rfl rfl ntmps13 rfl λv_1=>?_;refine Zz 2 ?_;refine u_ zeroValue57 rfl λP=>Zz 17 ?_
 refine I_ (ι:={y:Nat×Value×Hp // y.1<=List.length l/\zR 51 16 Ax.cells y.2.1 (l.take y.1) y.2.2}) (λy=>[(2,zp_ P 0),(3,i4_ 0),(4,y.1.2.1),(13,.slice ad l.length cap),(14,i4_ (List.length l:Int)),(15,i4_ y.1.1)]) (λy=>((P,.cells #[.slice none 0 0] 57 (0,0))::y.1.2.2)) (λy=>[cI_ ad l,bB_]) (λy=>l.length - y.1.1) ⟨((0:Nat),(.slice none 0 0),[]),by simp,(ad_.nil _ _)⟩ zl d_ zh ?_;rintro ⟨⟨i,sv_A,H_A⟩,hi_i,N⟩;dsimp only at hi_i N ⊢;refine Zi 2 (λhr_1=>?_) λhr_1=>?_
 .refine Zz 7 ?_
  have e9i:List.take i l=l:=yad_ zaa_;have I:ad_ 51 16 sv_A l.length (l.flatMap Ax.cells) H_A:=by have q:=N;rwa [e9i]at q
  refine Zz 2 ?_;refine f_ (zh_ I hll L Y hS) rfl E_ (λv _ h=>by exact⟨λx hx=>(h.1).2 x hx,trivial⟩) rfl λ⟨Hs_1,S⟩=>?_;dsimp only;try dsimp only at S
  try simp only[yaL_]
  refine Zz 3 ?_;refine t_ (be_ bg_) (bb_ (aZ_ S E_ λaad acap haad hcaad hmaad hzaad=>?_));subst haad;refine Zz 7 ?_;refine I_ (ι:={y:Nat×Value×Hp // y.1<=List.length l/\zR 51 16 Ax.cells y.2.1 (l.take y.1) y.2.2}) (λy=>[(2,zp_ P 0),(3,i4_ 0),(4,.slice aad l.length acap),(13,.slice ad l.length cap),(14,i4_ (List.length l:Int)),(15,i4_ i),(35,.slice aad l.length acap),(36,i4_ (List.length l:Int)),(37,i4_ y.1.1)]) (λy=>((P,.cells #[y.1.2.1] 57 (0,0))::y.1.2.2)) (λy=>[L_ aad (l.flatMap Ax.cells),cI_ ad l,bB_]) (λy=>l.length - y.1.1) ⟨((0:Nat),(.slice none 0 0),[]),by simp,(ad_.nil _ _)⟩ zl d_ zh ?_;rintro ⟨⟨j,a0,H_X⟩,hi_j,A⟩;dsimp only at hi_j A ⊢;have hXl:List.length (l.take j)=j:=by rw[yat_];omega
  refine Zi 2 (λO=>?_) λO=>?_
  .refine Zz 8 ?_
   have e9j:List.take j l=l:=yad_ zaa_;have hw_2:ad_ 51 16 a0 l.length (l.flatMap Ax.cells) H_X:=by have q:=A;rwa [e9j]at q
   refine aZ_ hw_2 E_ λQ R Z X V T=>?_;subst Z;refine gS_ (Γ':=cI_ Q l::[L_ Q (l.flatMap Ax.cells),L_ aad (l.flatMap Ax.cells),cI_ ad l,bB_]) (λv _ h=>⟨⟨h.1,(h.2.2.1).2⟩,h⟩) ?_;refine Zz 2 ?_;refine f_ (kx_ l Q R L hC hP zaa_ Y hS) rfl i_ zf rfl λ_=>Zz 6 ?_
   refine e_ (aj_ (aM_ rfl rfl) (show _=Value.bool false from yah_ Value.bool zac_)) rfl (Zz 8 ?_);refine n_ 0 sizeOf57 rfl rfl rfl rfl rfl rfl (Zz 4 ?_);exact retG ⟨(Q,R),X,V,T⟩ (λaa v h_1 h_2 _=>dS_ 0 results13 isAgg57 sizeOf57 rfl rfl rfl rfl aa v h_1 h_2) i_ zf
  obtain⟨E,m,G,d⟩:=zge (show j<l.length by omega);refine Zz 12 ?_;refine u_ aK_ rfl λb_2=>n_ 0 ab_ rfl rfl rfl rfl rfl rfl (Zz 6 ?_)
  refine e_ (bU_ A as_ rfl) rfl (Zz 5 ?_);refine s_ 10 [0,1,2] zk zs (Zi 1 (λM=>?_) λM=>?_)
  .refine Zz 2 ?_
   refine s_ 0 [3,4,5,6,7,8,9,10,11,12] zk zs (Zz 18 ?_);refine M_ as_ ab_ aK_ rfl rfl rfl rfl rfl rfl λb_3=>?_;refine am_ (news:=List.flatMap Ax.cells [m]) pV_ A rfl rfl (c_ (c_ E_)) rfl (ba_ 0 rfl) (λu hu=>aG_ Ax.cells_one hu) zaw_ zay_ rfl λF H M=>?_;refine t_ yax_ ?_;have B:=zsa M;exact li_
  have U:(Int.toNat ((List.length (l.take j):Int) - 1))<List.length (l.take j):=by omega
  obtain⟨C,I⟩:∃ e_1,(l.take j)[(Int.toNat ((List.length (l.take j):Int) - 1))]? = some e_1:=⟨_,yaa_ U⟩;have W:C∈(l.take j):=yac_ I;have K:C∈l:=ybs_ W;have hwl:l[j - 1]? = some C:=by have q:=I;rw[show (Int.toNat ((List.length (l.take j):Int) - 1))=j - 1 by omega,yaM_ zaa_]at q;exact q
  have hcw:Ax.cmp C m=-1:=hS (j - 1) C m hwl (by rw[show j - 1+1=j by omega];exact G);refine Zz 2 ?_;refine s_ 2 [3,4,5,6,7,8,9,10] zk zs (Zz 4 ?_);refine cY_ rfl rfl rfl (aE_ A as_ ab_ rfl rfl zaa_ zaa_) rfl (cY_ rfl rfl rfl (gK_ A (c_ E_) ed_ ab_ rfl (Ax.cells_len _) zac_ (y_ Ax.cells_len I)) rfl (cY_ rfl rfl rfl (w_ tN_ rfl rfl) rfl (Zz 2 ?_)));refine l_ 11 rfl zk (aP_ rfl rfl (aa_ (uu_ C m (L C K) (L m d) (Y C K).1 (Y C K).2 (Y m d).1 (Y m d).2) rfl i_ (λv _ h=>by exact⟨(h.2.1).2 C K,(h.2.1).2 m d,trivial⟩) rfl λr_1 J=>Zz 3 ?_));refine s_ 0 [12] zk zs (Zz 4 ?_);cases r_1
  .refine Zz 5 ?_
   refine M_ as_ ab_ aK_ rfl rfl rfl rfl rfl rfl λb_3=>?_;refine am_ (news:=List.flatMap Ax.cells [m]) pV_ A rfl rfl (c_ (c_ E_)) rfl (ba_ 0 rfl) (λu hu=>aG_ Ax.cells_one hu) zaw_ zay_ rfl λF H J=>?_;refine t_ yax_ ?_;have B:=zsa J;exact li_
  exfalso;rw[hcw]at J;exact absurd J zac_
 obtain⟨E,m,G,d⟩:=zge (show i<l.length by omega);refine Zz 12 ?_;refine u_ aK_ rfl λb_2=>n_ 0 ab_ rfl rfl rfl rfl rfl rfl (Zz 5 ?_)
 refine f_ (iK_ m (L m d) (hC m d) (hP m d)) rfl i_ (λv _ h=>by exact⟨(h.1.2 m d),h.2.1,trivial⟩) rfl λ_=>Zz 3 ?_
 refine u_ aK_ rfl λb_3=>n_ 0 ab_ rfl rfl rfl rfl rfl rfl (Zz 7 ?_)
 refine e_ (aj_ (aM_ rfl rfl) (show _=Value.bool false from yah_ Value.bool zac_)) rfl (Zz 8 ?_);refine M_ as_ ab_ aK_ rfl rfl rfl rfl rfl rfl λb_4=>?_;refine am_ (news:=List.flatMap Ax.cells [m]) pV_ N rfl rfl (c_ (c_ (c_ E_))) rfl (ba_ 0 rfl) (λu hu=>aG_ Ax.cells_one hu) zaw_ zay_ rfl λF H O=>?_;refine t_ yax_ ?_;have B:=zsa O;refine Zz 8 ?_;exact C_ ⟨(i+1,F,H),E,(by have q:=B;rw[<-tk1 G]at q;exact q)⟩ zab_ zl (m_ (c_ (c_ (c_ d_))) (c_ (c_ E_))) zh
theorem zb_:fH_ prog 125 [(0,1),(1,1),(2,1)] [i4_ 0,i4_ 0,.slice none 0 0]:=⟨_,zeroValue125,runUnderlying125,λw=>by simp[K_,ft_]⟩
theorem mh_ (s:Str) (l:List Str) (b:Nat) (n r:Int) (sv:Value) (Hr:Hp) (K:zR 9 1 ar_ sv l Hr) (hl:l.length<=1000000):Tri prog 51 #[zp_ b 0,str s] ((b,.cells #[i4_ n,i4_ r,sv] 125 (0,0))::Hr) [] (λy:{y:List Str×Value×Hp // zR 9 1 ar_ y.2.1 y.1 y.2.2/\y.1.length<=l.length+1}=>.tuple #[]) (λy=>(b,.cells #[i4_ n,i4_ r,y.1.2.1] 125 (0,0))::y.1.2.2) (λ_=>[]):=by
 refine g_ func51 rfl rfl ntmps51 rfl λJ=>?_;refine Zz 7 ?_;refine I_ (ι:={y:Nat×Value×Hp // y.1<=List.length l/\zR 9 1 ar_ y.2.1 l y.2.2}) (λy=>[(0,zp_ b 0),(1,str s),(4,i4_ y.1.1)]) (λy=>((b,.cells #[i4_ n,i4_ r,y.1.2.1] 125 (0,0))::y.1.2.2)) (λy=>[]) (λy=>l.length - y.1.1) ⟨((0:Nat),sv,Hr),by simp,K⟩ zl zp zt ?_;rintro ⟨⟨i,x,E⟩,H,d⟩;dsimp only at H d ⊢;refine Zz 8 ?_;refine e_ (bU_ d B_ rfl) rfl ?_;refine Zi 0 (λv=>?_) λv=>?_
 .refine Zz 12 ?_
  refine M_ B_ U_ at_ rfl rfl rfl rfl rfl rfl λN=>?_;refine am_ (news:=List.flatMap ar_ [s]) eC_ d rfl rfl zp rfl (ba_ 0 rfl) (λu L=>aG_ dE_ L) zaj_ zaa_ rfl λC F v=>?_;refine t_ yax_ ?_;have A:=zsa v;refine Zz 2 ?_;refine dm_ 1 A ft_ rfl rfl rfl rfl (Zz 2 ?_);exact bK_ results51 ⟨((l++[s]),C,F),A,by first|omega|(simp only[yaj_,yai_,yaB_];omega)⟩ rfl (m_ (c_ d_) E_) zt
 have m:i<l.length:=by omega
 obtain⟨M,B⟩:∃ I,l[i]? = some I:=⟨_,yaa_ m⟩;refine Zz 14 ?_;refine e_ (aE_ d B_ U_ rfl rfl zaa_ zaa_) rfl (e_ (bA_ d E_ ae_ rfl (y_ aO_ B 0 _ rfl)) rfl (Zi 1 (λG=>?_) λG=>?_))
 .refine Zz 11 ?_
  exact C_ ⟨(i+1,x,E),m,d⟩ zab_ zl zp zt
 refine Zz 4 ?_;exact ret0 results51 ⟨(l,x,E),d,by first|omega|(simp only[yaj_,yai_,yaB_];omega)⟩ rfl zp zt
theorem szs_take_le:∀ (l:List Con) (i:Nat),Con.sz.szs (l.take i)<=Con.sz.szs l
  | [],i=>by simp
  | c::l,0=>by simp[Con.sz.szs]
  | c::l,i+1=>by
    have:=szs_take_le l i;simp only[ybd_,Con.sz.szs];omega
theorem mF_:∀ (m:Nat) (c:Con),c.sz<=m->c.ok->∀ (b:Nat) (n r:Int) (l:List Str) (sv:Value) (Hr:Hp),zR 9 1 ar_ sv l Hr->(0<=n/\0<=r/\n+c.sz<=100000/\r+c.sz<=100000/\l.length+c.sz<=100000)->Tri prog 50 #[zp_ b 0,Con.val c] ((b,.cells #[i4_ n,i4_ r,sv] 125 (0,0))::Hr) [Con.memF c] (λy:{y:Int×Int×List Str×Value×Hp // zR 9 1 ar_ y.2.2.2.1 y.2.2.1 y.2.2.2.2/\(n<=y.1/\y.1<=n+c.sz)/\(r<=y.2.1/\y.2.1+n<=r+y.1)/\y.2.2.1.length<=l.length+c.sz}=>.tuple #[]) (λy=>(b,.cells #[i4_ y.1.1,i4_ y.1.2.1,y.1.2.2.2.1] 125 (0,0))::y.1.2.2.2.2) (λ_=>[]):=by
 intro m
 induction m with
 | zero=>intro c h;have:=c.sz_pos;omega
 | succ m ih =>
   intro c hm a1 b n r l sv Hr hr hbd;have hpl:=Con.ok_len a1;have hsp:=c.sz_pos;have hse:=Con.sz_eq c;refine g_ func50 rfl rfl ntmps50 rfl λv_1=>?_;refine Zz 2 ?_;refine F_ rfl rfl λF=>Zz 7 ?_
   refine P_ (by_ rfl rfl) rfl λb7 x=>Zz 1 ?_
   refine ao_ 5 ((c.kind==0)&&((List.length c.parts:Int)==0)) (λr=>[(0,zp_ b 0),(3,zp_ F 0),(13,.bool r)]) ?_ λM E=>?_
   . cases b7
     . have d:=x;replace x:=znb x;refine Zz 7 ?_;exact met ⟨rfl,rfl,(p_ rfl (jaf d)),trivial⟩
     . have d:=x;replace x:=zeb x;refine Zz 7 ?_;refine P_ (by_ rfl rfl) rfl λO I=>Zz 3 ?_
       exact met ⟨rfl,rfl,(p_ rfl (jat d I)),trivial⟩
   . refine Zz 1 ?_;refine ao_ 4 ((((c.kind==0)&&((List.length c.parts:Int)==0)))&&(c.name==[])) (λr=>[(0,zp_ b 0),(3,zp_ F 0),(18,.bool r)]) ?_ λO I=>?_
     . cases M
       . have d:=E;simp at E
         refine Zz 6 ?_;exact met ⟨rfl,rfl,(p_ rfl (jaf d)),trivial⟩
       . have d:=E;simp at E
         refine Zz 5 ?_;refine P_ (dp_ rfl rfl) rfl λa7 C=>Zz 3 ?_
         exact met ⟨rfl,rfl,(p_ rfl (jat d C)),trivial⟩
     . refine Zz 2 ?_;cases O
       . simp at I
         refine Zz 13 ?_;refine n_ 1 K_ rfl rfl rfl rfl rfl rfl (Zz 7 ?_);refine P_ (by_ rfl rfl) rfl λa7 C=>Zz 2 ?_
         let Pu:Nat×Obj:=(F,.cells (Con.cells c).toArray 49 (0,0));refine eg_ (ι:={y:Int // (r<=y/\y<=r+1)}) (λy=>[(0,zp_ b 0),(3,zp_ F 0)]) (λy=>(Pu::((b,.cells #[i4_ (n+1),i4_ y.1,sv] 125 (0,0))::Hr))) (λy=>[Con.memF c]) ?_ ?_
         . cases a7
           . replace C:=znb C;refine Zz 3 ?_;exact bS_ ⟨r,zat_⟩ zl zp zf
           . replace C:=zeb C;refine Zz 10 ?_;refine n_ 1 K_ rfl rfl rfl rfl rfl rfl (Zz 2 ?_);exact bS_ ⟨(r+1),zat_⟩ zl zp zf
         . rintro ⟨M,E⟩;dsimp only at E ⊢;refine Zz 6 ?_;refine P_ (by_ rfl rfl) rfl λb6 J=>Zz 2 ?_
           refine eg_ (ι:={y:List Str×Value×Hp // y.1.length<=l.length+1/\zR 9 1 ar_ y.2.1 y.1 y.2.2}) (λy=>[(0,zp_ b 0),(3,zp_ F 0)]) (λy=>(Pu::((b,.cells #[i4_ (n+1),i4_ M,y.1.2.1] 125 (0,0))::y.1.2.2))) (λy=>[Con.memF c]) ?_ ?_
           . cases b6
             . replace J:=znb J;refine Zz 3 ?_;exact bS_ ⟨(l,sv,Hr),zat_,hr⟩ zl zp zf
             . replace J:=zeb J;refine Zz 5 ?_;refine f_ (mh_ c.name l b (n+1) M sv Hr hr zaa_) rfl zp zt rfl λ⟨⟨a2,U,L⟩,R,W⟩=>?_;dsimp only;dsimp only at R W;refine Zz 2 ?_;exact bS_ ⟨(a2,U,L),zat_,R⟩ zl zp zf
           . rintro ⟨⟨b1,K,N⟩,b0,B⟩;dsimp only at b0 B ⊢;refine Zz 7 ?_;refine I_ (ι:={y:Nat×Int×Int×List Str×Value×Hp // y.1<=List.length c.parts/\(n<=y.2.1/\y.2.1<=n+((1+Con.sz.szs (c.parts.take y.1):Nat):Int)/\r<=y.2.2.1/\y.2.2.1+n<=r+y.2.1/\y.2.2.2.1.length<=l.length+(1+Con.sz.szs (c.parts.take y.1)))/\zR 9 1 ar_ y.2.2.2.2.1 y.2.2.2.1 y.2.2.2.2.2}) (λy=>[(0,zp_ b 0),(3,zp_ F 0),(4,i4_ y.1.1)]) (λy=>(Pu::((b,.cells #[i4_ y.1.2.1,i4_ y.1.2.2.1,y.1.2.2.2.2.1] 125 (0,0))::y.1.2.2.2.2.2))) (λy=>[Con.memF c]) (λy=>c.parts.length - y.1.1) ⟨((0:Nat),(n+1),M,b1,K,N),by simp,(by simp only[ycu_,Con.sz.szs];omega),B⟩ zl zp zh ?_;rintro ⟨⟨i,T,Y,a3,K,N⟩,a6,Z,B⟩;dsimp only at a6 Z B ⊢;refine Zz 7 ?_;refine P_ (cB_ rfl rfl) rfl λb4 A=>Zz 1 ?_
             refine ao_ 6 ((decide ((i:Int)<(List.length c.parts:Int)))&&(decide (T<=1000))) (λr=>[(0,zp_ b 0),(3,zp_ F 0),(4,i4_ i),(56,.bool r)]) ?_ λr_8 P=>?_
             . cases b4
               . have d:=A;replace A:=zdf A;refine Zz 8 ?_;exact met ⟨rfl,rfl,rfl,(p_ rfl (jaf d)),trivial⟩
               . have d:=A;replace A:=zdt A;refine Zz 9 ?_;refine P_ (dj_ rfl rfl) rfl λr_9 V=>Zz 3 ?_
                 exact met ⟨rfl,rfl,rfl,(p_ rfl (jat d V)),trivial⟩
             . refine Zz 2 ?_;cases r_8
               . simp at P
                 refine Zz 3 ?_;exact bK_ results50 ⟨(T,Y,a3,K,N),B,by dsimp only;have:=Con.sz_eq c;have a4:=szs_take_le c.parts i;omega⟩ rfl (m_ (c_ d_) E_) zt
               . simp at P
                 obtain⟨S,a9,H,G⟩:=zge (show i<c.parts.length by omega);refine Zz 10 ?_;refine e_ (Y_ al_ D_ rfl rfl (λv _ h=>az_ (n:=5) Con.cells_len zac_ (by exact ((Con.mem_iff c v).1 h.1).1) H) zaa_ zak_) rfl ?_;refine e_ (ah_ (ad:=c.ad) (us:=Con.cells a9) aq_ D_ rfl (λv _ h=>by exact ((Con.mem_iff c v).1 h.1).1) (Con.cells_len _) (y_ Con.cells_len H)) rfl (f_ (ih a9 (by have:=Con.sz_part G;omega) (Con.ok_part a1 G) b T Y a3 K N B (by have b5:=Con.szs_step H;have a4:=szs_take_le c.parts (i+1);omega)) rfl (m_ (c_ d_) E_) (λv _ h=>by exact⟨(Con.mem_part (c:=c) h.1 G),trivial⟩) rfl λ⟨⟨b3,O,b2,X,L⟩,Q,a5,a8,a0⟩=>?_);dsimp only;dsimp only at Q a5 a8 a0;refine Zz 2 ?_;refine t_ (X_ d_ (be_ bg_)) (Zz 6 ?_);exact C_ ⟨(i+1,b3,O,b2,X,L),S,(by have b5:=Con.szs_step H;dsimp only;omega),Q⟩ zab_ zl (m_ (c_ d_) (m_ d_ af_)) zh
       . simp at I
         refine Zz 2 ?_;exact ret0 results50 ⟨(n,r,l,sv,Hr),hr,by dsimp only;have:=Con.sz_eq c;have a4:=szs_take_le c.parts 0;omega⟩ rfl (m_ (c_ d_) E_) zt
structure AL where
  l:List Ax
  ad:Ao
  cap:Nat
def AL.cells (x:AL):List Value:=[.slice x.ad x.l.length x.cap]
theorem AL.cells_len (x:AL):x.cells.length=1:=rfl
structure AL.ok (x:AL):Prop where
  len:x.l.length<=2199023255488
  ok:∀ a∈x.l,a.ok
def alF (xs:List AL):Fct where
  p v:=∀ x∈xs,(cI_ x.ad x.l).p v
  mono:=λv v' h hp x hx=>(cI_ x.ad x.l).mono v v' h (hp x hx)
theorem em_ {G:Prop} (h:G:=by
 exact ac_ results17 false rfl i_ zt):G:=h
theorem kZ_ {G:Prop} (h:G:=by
 rintro ⟨⟨a5,C,J⟩,U,d⟩;dsimp only at U d ⊢;refine Zz 7 ?_;exact C_ ⟨(j+1,a5,(bg++[46])++Q,C,J),a9,zab_,(by have:=N.roles Q T;simp only[yaj_,yai_,yaB_];omega),d⟩ zab_ zl (m_ d_ (m_ d_ af_)) zh):G:=h
theorem xt_ (xs:List AL) (E:Ao) (I:Nat) (e6:∀ x∈xs,AL.ok x) (hl:xs.length<=1000):Tri prog 17 #[.slice E xs.length I,i4_ 40] [] [L_ E (xs.flatMap AL.cells),alF xs] (λb:Bool=>.bool b) (λ_=>[]) (λ_=>[]):=by
 refine g_ func17 rfl rfl ntmps17 rfl λv_1=>?_;refine Zz 7 ?_;refine e_ (w_ zb_ rfl rfl) rfl (F_ rfl rfl λB=>Zz 10 ?_);refine I_ (ι:={y:Nat×Int×Int×List Str×Value×Hp // y.1<=List.length xs/\(0<=y.2.1/\0<=y.2.2.1/\y.2.2.1<=y.2.1/\y.2.1<=1000/\y.2.2.2.1.length<=1000)/\zR 9 1 ar_ y.2.2.2.2.1 y.2.2.2.1 y.2.2.2.2.2}) (λy=>[(0,.slice E xs.length I),(1,i4_ 40),(4,.bool false),(5,zp_ B 0),(6,i4_ y.1.1)]) (λy=>((B,.cells #[i4_ y.1.2.1,i4_ y.1.2.2.1,y.1.2.2.2.2.1] 125 (0,0))::y.1.2.2.2.2.2)) (λy=>[L_ E (xs.flatMap AL.cells),alF xs]) (λy=>xs.length - y.1.1) ⟨((0:Nat),0,0,([]:List Str),(.slice none 0 0),[]),by simp,(by first|exact a7|simp),(ad_.nil _ _)⟩ zl d_ zh ?_;rintro ⟨⟨i,n_1,r_1,l_1,C,J⟩,f6,a7,d⟩;dsimp only at f6 a7 d ⊢;refine Zi 6 (λf0=>?_) λf0=>?_
 .refine Zi 12 (λb1=>?_) λb1=>?_
  .refine Zz 19 ?_
   exact em_
  refine Zi 10 (λa6=>?_) λa6=>?_
  .refine Zz 13 ?_
   exact em_
  refine Zz 11 ?_;refine e_ (bU_ d B_ rfl) rfl (aP_ rfl rfl (P_ (dj_ rfl rfl) rfl λb2 b5=>Zz 5 ?_));exact ac_ results17 b2 rfl i_ zt
 obtain⟨b9,H,hx_1,A⟩:=zge (show i<xs.length by omega);have hal:=(e6 H A).len;refine Zz 13 ?_;refine I_ (ι:={y:Nat×Int×Int×List Str×Value×Hp // y.1<=List.length (AL.l H)/\(0<=y.2.1/\0<=y.2.2.1/\y.2.2.1<=y.2.1/\y.2.1<=1000/\y.2.2.2.1.length<=1000)/\zR 9 1 ar_ y.2.2.2.2.1 y.2.2.2.1 y.2.2.2.2.2}) (λy=>[(0,.slice E xs.length I),(1,i4_ 40),(4,.bool false),(5,zp_ B 0),(6,i4_ i),(7,i4_ y.1.1)]) (λy=>((B,.cells #[i4_ y.1.2.1,i4_ y.1.2.2.1,y.1.2.2.2.2.1] 125 (0,0))::y.1.2.2.2.2.2)) (λy=>[L_ E (xs.flatMap AL.cells),alF xs]) (λy=>List.length (AL.l H) - y.1.1) ⟨((0:Nat),n_1,r_1,l_1,C,J),by simp,(by first|exact a7|simp),d⟩ zl zp zh ?_;rintro ⟨⟨k,e2,b2,f1,C,J⟩,d8,b0,d⟩;dsimp only at d8 b0 d ⊢;refine Zi 9 (λb1=>?_) λb1=>?_
 .refine Zz 11 ?_
  exact C_ ⟨(i+1,e2,b2,f1,C,J),b9,(by first|exact b0|(dsimp only;omega)),d⟩ zab_ zl zp zh
 obtain⟨c2,m,b4,F⟩:=zge (show k<List.length (AL.l H) by omega);have N:=(e6 H A).ok m F;have hrc_1:=N.cap;refine Zz 14 ?_;refine e_ (Y_ as_ ab_ rfl rfl (λv _ h=>az_ (n:=16) Ax.cells_len zac_ (by exact (h.2.1 H A).1) b4) zaa_ zak_) rfl ?_;refine e_ (ah_ (ad:=(AL.ad H)) (us:=Ax.cells m) ed_ ab_ rfl (λv _ h=>by exact (h.2.1 H A).1) (Ax.cells_len _) (y_ Ax.cells_len b4)) rfl (u_ aK_ rfl λL=>n_ 0 ab_ rfl rfl rfl rfl rfl rfl (Zi 10 (λa6=>?_) λa6=>?_))
 .refine Zz 10 ?_
  refine e_ (bU_ d B_ rfl) rfl (aP_ rfl rfl ?_);refine Zi 0 (λb5=>?_) λb5=>?_
  .refine Zi 9 (λf5=>?_) λf5=>?_
   .refine Zz 5 ?_
    refine f_ (rL_ m N) rfl i_ (λv _ h=>by exact⟨((h.2.1 H A).2 m F),trivial⟩) rfl λ⟨bf,hbf⟩=>?_;dsimp only;refine aP_ rfl rfl (e_ (aH_ rfl) rfl (Zz 3 ?_));cases bf
    .refine Zz 7 ?_
     exact em_
    have a3:=hbf rfl;have hfl:=a3.left;have hfr:=a3.right;refine Zz 8 ?_;refine f_ (mF_ _ m.left (yae_ _) N.left B e2 b2 f1 C J d (by have:=a3.left;have:=a3.right;omega)) rfl (m_ (c_ d_) E_) (λv _ h=>by exact⟨((h.2.1 H A).2 m F).1,trivial⟩) rfl λ⟨⟨e1,d7,e9,d3,f3⟩,b6,e4,hy1c,e5⟩=>?_;dsimp only;dsimp only at b6 e4 hy1c e5;refine Zz 2 ?_;refine t_ (X_ d_ (be_ bg_)) (Zz 5 ?_);refine f_ (mF_ _ m.right (yae_ _) N.right B e1 d7 e9 d3 f3 b6 (by have:=a3.left;have:=a3.right;omega)) rfl (m_ d_ E_) (λv _ h=>by exact⟨((h.2.1 H A).2 m F).2.1,trivial⟩) rfl λ⟨⟨X,G,a8,P,a1⟩,a4,e7,hy2c,f4⟩=>?_;dsimp only;dsimp only at a4 e7 hy2c f4;refine Zz 3 ?_;refine t_ (X_ d_ (be_ bg_)) (Zz 4 ?_);refine P_ (dD_ rfl rfl) rfl λr_3 a0=>Zz 2 ?_
    let Pu:Fr:=[(0,.slice E xs.length I),(1,i4_ 40),(4,.bool false),(5,zp_ B 0),(6,i4_ i),(7,i4_ k),(8,zp_ L 0)];let Qu:Nat×Obj:=(L,.cells (Ax.cells m).toArray 51 (0,0));refine eg_ (ι:={y:Int // (X<=y/\y<=X+1)}) (λy=>Pu) (λy=>(Qu::((B,.cells #[i4_ y.1,i4_ G,P] 125 (0,0))::a1))) (λy=>[L_ E (xs.flatMap AL.cells),alF xs]) ?_ ?_
    .cases r_3
     .replace a0:=eY_ a0
      refine Zz 3 ?_;exact bS_ ⟨X,zat_⟩ zl zp zf
     replace a0:=eV_ a0;refine Zz 10 ?_;refine n_ 0 K_ rfl rfl rfl rfl rfl rfl (Zz 2 ?_);exact bS_ ⟨(X+1),zat_⟩ zl (m_ (c_ d_) (m_ d_ af_)) zf
    rintro ⟨Z,c0⟩;dsimp only at c0 ⊢;refine Zz 6 ?_;refine P_ (dD_ rfl rfl) rfl λr_4 W=>Zz 2 ?_
    refine eg_ (ι:={y:Int // (Z<=y/\y<=Z+1)}) (λy=>Pu) (λy=>(Qu::((B,.cells #[i4_ y.1,i4_ G,P] 125 (0,0))::a1))) (λy=>[L_ E (xs.flatMap AL.cells),alF xs]) ?_ ?_
    .cases r_4
     .replace W:=eY_ W
      refine Zz 3 ?_;exact bS_ ⟨Z,zat_⟩ zl zp zf
     replace W:=eV_ W;refine Zz 10 ?_;refine n_ 1 K_ rfl rfl rfl rfl rfl rfl (Zz 2 ?_);exact bS_ ⟨(Z+1),zat_⟩ zl zp zf
    rintro ⟨K,d0⟩;dsimp only at d0 ⊢;refine Zz 6 ?_;refine P_ (dD_ rfl rfl) rfl λr_5 V=>Zz 2 ?_
    refine eg_ (ι:={y:List Str×Value×Hp // y.1.length<=a8.length+1/\zR 9 1 ar_ y.2.1 y.1 y.2.2}) (λy=>Pu) (λy=>(Qu::((B,.cells #[i4_ K,i4_ G,y.1.2.1] 125 (0,0))::y.1.2.2))) (λy=>[L_ E (xs.flatMap AL.cells),alF xs]) ?_ ?_
    .cases r_5
     .replace V:=eY_ V
      refine Zz 3 ?_;exact bS_ ⟨(a8,P,a1),zat_,a4⟩ zl zp zf
     replace V:=eV_ V;refine Zz 5 ?_;refine f_ (mh_ m.role a8 B K G P a1 a4 zaa_) rfl zp zt rfl λ⟨⟨O,M,S⟩,b3,e0⟩=>?_;dsimp only;dsimp only at b3 e0;refine Zz 2 ?_;exact bS_ ⟨(O,M,S),zat_,b3⟩ zl zp zf
    rintro ⟨⟨b7,C,J⟩,d2,d⟩;dsimp only at d2 d ⊢;refine Zz 12 ?_;refine I_ (ι:={y:Nat×List Str×Str×Value×Hp // y.1<=List.length m.roles/\y.2.1.length<=b7.length+2*y.1/\y.2.2.1.length<=140737488351300*y.1/\zR 9 1 ar_ y.2.2.2.1 y.2.1 y.2.2.2.2}) (λy=>[(0,.slice E xs.length I),(1,i4_ 40),(4,.bool false),(5,zp_ B 0),(6,i4_ i),(7,i4_ k),(8,zp_ L 0),(9,str y.1.2.2.1),(10,i4_ y.1.1)]) (λy=>(Qu::((B,.cells #[i4_ K,i4_ G,y.1.2.2.2.1] 125 (0,0))::y.1.2.2.2.2))) (λy=>[L_ E (xs.flatMap AL.cells),alF xs]) (λy=>m.roles.length - y.1.1) ⟨((0:Nat),b7,([]:Str),C,J),by simp,zai_,zai_,d⟩ zl zp zh ?_;rintro ⟨⟨j,d9,bg,C,J⟩,e8,hl_1,hbg,d⟩;dsimp only at e8 hl_1 hbg d ⊢;refine Zi 7 (λd4=>?_) λd4=>?_
    .refine Zz 11 ?_
     exact C_ ⟨(k+1,K,G,d9,C,J),c2,(by first|exact b0|(dsimp only;omega)),d⟩ zab_ zl zp zh
    obtain⟨a9,Q,Y,T⟩:=zge (show j<m.roles.length by omega);have hrl_1:=N.roles Q T;refine Zz 13 ?_;refine e_ (Y_ B_ U_ rfl rfl (λv _ h=>az_ (n:=1) aO_ zac_ (by exact ((h.2.1 H A).2 m F).2.2) Y) zaa_ zak_) rfl ?_;refine e_ (bN_ (ad:=m.ad) ae_ rfl (λv _ h=>by exact ((h.2.1 H A).2 m F).2.2) (y_ aO_ Y 0 _ rfl)) rfl (f_ (mh_ Q d9 B K G C J d zaa_) rfl zp zt rfl λ⟨⟨O,M,S⟩,a2,d6⟩=>?_);dsimp only;dsimp only at a2 d6;refine Zz 2 ?_;refine t_ (X_ d_ (be_ bg_)) (Zz 3 ?_);refine e_ (ct_ rfl rfl zah_) rfl ?_;refine Zz 3 ?_;refine e_ (Y_ B_ U_ rfl rfl (λv _ h=>az_ (n:=1) aO_ zac_ (by exact ((h.2.1 H A).2 m F).2.2) Y) zaa_ zak_) rfl ?_;refine e_ (bN_ (ad:=m.ad) ae_ rfl (λv _ h=>by exact ((h.2.1 H A).2 m F).2.2) (y_ aO_ Y 0 _ rfl)) rfl (e_ (ct_ rfl rfl zah_) rfl ?_);refine Zi 6 (λc1=>?_) λc1=>?_
    .refine Zz 10 ?_
     refine eg_ (ι:={y:List Str×Value×Hp // y.1.length<=O.length+1/\zR 9 1 ar_ y.2.1 y.1 y.2.2}) (λy=>[(0,.slice E xs.length I),(1,i4_ 40),(4,.bool false),(5,zp_ B 0),(6,i4_ i),(7,i4_ k),(8,zp_ L 0),(9,str ((bg++[46])++Q)),(10,i4_ j)]) (λy=>(Qu::((B,.cells #[i4_ K,i4_ G,y.1.2.1] 125 (0,0))::y.1.2.2))) (λy=>[L_ E (xs.flatMap AL.cells),alF xs]) ?_ ?_
     .refine Zz 3 ?_
      exact bS_ ⟨(O,M,S),zat_,a2⟩ zl zp zf
     exact kZ_
    refine Zz 12 ?_;refine P_ (cB_ rfl rfl) rfl λr_6 R=>Zz 3 ?_
    refine eg_ (ι:={y:List Str×Value×Hp // y.1.length<=O.length+1/\zR 9 1 ar_ y.2.1 y.1 y.2.2}) (λy=>[(0,.slice E xs.length I),(1,i4_ 40),(4,.bool false),(5,zp_ B 0),(6,i4_ i),(7,i4_ k),(8,zp_ L 0),(9,str ((bg++[46])++Q)),(10,i4_ j)]) (λy=>(Qu::((B,.cells #[i4_ K,i4_ G,y.1.2.1] 125 (0,0))::y.1.2.2))) (λy=>[L_ E (xs.flatMap AL.cells),alF xs]) ?_ ?_
    .cases r_6
     .replace R:=zdf R
      refine Zz 3 ?_;exact bS_ ⟨(O,M,S),zat_,a2⟩ zl zp zf
     replace R:=zdt R;refine Zz 4 ?_;refine f_ (mh_ ((bg++[46])++Q) O B K G M S a2 zaa_) rfl zp zt rfl λ⟨⟨d5,d1,f2⟩,b8,e3⟩=>?_;dsimp only;dsimp only at b8 e3;refine Zz 2 ?_;exact bS_ ⟨(d5,d1,f2),zat_,b8⟩ zl zp zf
    exact kZ_
   refine Zz 15 ?_;exact em_
  refine Zz 21 ?_;exact em_
 refine Zz 28 ?_;exact em_
theorem AH_ (xs:List AL) (m:Ao) (d:Nat) (v:∀ x∈xs,AL.ok x) (hl:xs.length<=1000):Tri prog 5 #[.slice m xs.length d] [] [L_ m (xs.flatMap AL.cells),alF xs] (λb:Bool=>.bool b) (λ_=>[]) (λ_=>[]):=by
  refine g_ func5 rfl rfl ntmps5 rfl λA=>?_;refine Zz 8 ?_;refine f_ (xt_ xs m d v hl) rfl i_ zf rfl λy=>Zz 4 ?_
  exact ac_ results5 y rfl i_ zt
theorem al_one {x:AL} {v:Vw} (h:(cI_ x.ad x.l).p v):(alF [x]).p v:=λy d=>by rw[yak_.1 d];exact h
theorem vS_ {x:AL} (h:x.ok):∀ y∈[x],AL.ok y:=λy d=>by rw[yak_.1 d];exact h
theorem oB_ (l:List Ax) (ad:Ao) (cap:Nat) (m:l.length<=12) (d:∀ x∈l,x.ok) (v:∀ x∈l,x.check=0) :
    Tri prog 6 #[.slice ad l.length cap] [] [cI_ ad l,bB_] (λy:{y:Ao×Nat // (bE_ 0 l).length<=y.2/\y.2<=maxLen/\(y.1=none->y.2=0)}=>.tuple #[.slice y.1.1 (bE_ 0 l).length y.1.2,i4_ 0]) (λ_=>[]) (λy=>[L_ y.1.1 ((bE_ 0 l).flatMap Pc.cells)]):=by
  have h:=kO_ l ad cap zaa_ d;rw[jt_ m v]at h;exact h
theorem sQ_ (l:List Ax) (ad:Ao) (cap:Nat) (K:∀ x∈l,x.ok) (N:∀ x∈l,x.check=0) (P:l.length<=12) (q:List Pc) (m:Ao) (d:Nat) (G:q.length<=d) (L:m=none->d=0) (hql:q.length<=100000) (U:∀ z∈q,z.sm):Tri prog 213 #[.agg #[.slice ad l.length cap],.slice m q.length d] [] [cI_ ad l,L_ m (q.flatMap Pc.cells),bB_,dA_] (λy:{y:Cl×Int // cC_ (bE_ 0 l++q) 1073741824 y.1 y.2}=>.tuple #[y.1.1.val,i4_ y.1.2]) (λ_=>[]) (λy=>y.1.1.row):=by
  refine g_ func213 rfl rfl ntmps213 rfl λY=>?_;refine Zz 2 ?_;refine F_ rfl rfl λb_1=>u_ gk_ rfl λX=>Zz 7 ?_
  refine f_ (oB_ l ad cap P K N) rfl i_ zf rfl λ⟨⟨pad,pcap⟩,B,F,A⟩=>?_;dsimp only;try dsimp only at B F A
  have Z:=iw_ 0 l N;refine Zz 11 ?_;refine e_ (aj_ (aM_ rfl rfl) (show _=Value.bool false from yah_ Value.bool zac_)) rfl (Zz 9 ?_);refine M_ fX_ cj_ bu_ rfl rfl rfl rfl rfl rfl λW=>?_;refine aL_ (List.flatMap PL.cells [(PL.mk (bE_ 0 l) pad pcap),(PL.mk q m d)]) d_ rfl ?_;refine f_ ((show Tri prog 27 _ [] _ (λy:{y:Ao×Nat // (bE_ 0 l++q).length<=y.2/\y.2<=maxLen/\(y.1=none->y.2=0)}=>.slice y.1.1 (bE_ 0 l++q).length y.1.2) (λ_=>[]) (λy=>[L_ y.1.1 ((bE_ 0 l++q).flatMap Pc.cells)]) from by have h:=nN_ [(PL.mk (bE_ 0 l) pad pcap),(PL.mk q m d)] (some ⟨W,0,none⟩) 2 (λy I=>by simp only[yan_,yaJ_,ybG_]at I;rcases I with rfl|rfl;exact⟨B,A,by dsimp only;omega⟩;exact⟨G,L,by dsimp only;omega⟩) zai_;have eC:(eI_ [(PL.mk (bE_ 0 l) pad pcap),(PL.mk q m d)])=bE_ 0 l++q:=(by simp[eI_]);rw[eC]at h;exact h)) rfl i_ (λv _ h=>by refine⟨h.1,λy I=>?_,trivial⟩;simp only[yan_,yaJ_,ybG_]at I;rcases I with rfl|rfl;exact h.2.1;exact h.2.2.2.1) rfl λ⟨⟨H,E⟩,Q,T,O⟩=>?_;dsimp only;refine f_ (us_ ((bE_ 0 l)++q) H E 1073741824 (λz R=>(yag_.1 R).elim (λR=>(ix_ l 0 zaa_ K N z R).2.2.1) (U z)) zbt_) rfl i_ zf rfl λ⟨⟨J,M⟩,C⟩=>?_;dsimp only;try dsimp only at C
  refine Zz 2 ?_;refine n_ 0 aW_ rfl rfl rfl rfl rfl rfl (Zz 4 ?_);exact dI_ ⟨(J,M),C⟩ (λaa v V S=>dS_ (us:=Cl.cells J) 0 results213 gl_ aW_ rfl rfl rfl rfl aa v V S) i_ zf
def FaR (l:List Ax) (x:Ax) (ok:Bool) (e:Int):Prop:=∃ c e2,cC_ (bE_ 0 l++x.goalP.1) 1073741824 c e2/\((e2≠0/\ok=false/\e=e2)\/(e2=0/\e=0/\ok=x.goalP.2.1.all (ob_ c.facts)))
theorem xD_ (l:List Ax) (ad:Ao) (cap:Nat) (hok:∀ x∈l,x.ok) (hC:∀ x∈l,x.check=0) (X:l.length<=12) (x:Ax) (hox:x.ok) (q:List Pc) (F:List Fc) (hG:x.goalP=(q,F,0)) (hql:q.length<=100000) (Z:∀ z∈q,z.sm) (hFl:F.length<=100000) (T:GlT x q F 0):Tri prog 148 #[.agg #[.slice ad l.length cap],Ax.val x] [] [cI_ ad l,Ax.memF x,bB_,dA_] (λy:{y:Bool×Int // FaR l x y.1 y.2}=>.tuple #[.bool y.1.1,i4_ y.1.2]) (λ_=>[]) (λ_=>[]):=by
 refine g_ func148 rfl rfl ntmps148 rfl λv_1=>?_;refine Zz 2 ?_;refine F_ rfl rfl λb_1=>F_ rfl rfl λU=>Zz 7 ?_
 refine f_ (T) rfl i_ zf rfl λ⟨⟨Q,N,fad,fcap⟩,E,J,L,K,C⟩=>?_;dsimp only;try dsimp only at E J L K C
 refine Zz 13 ?_;refine e_ (aj_ (aM_ rfl rfl) (show _=Value.bool false from yah_ Value.bool zac_)) rfl (Zz 9 ?_);refine f_ (sQ_ l ad cap hok hC X q Q N E C hql Z) rfl i_ zf rfl λ⟨⟨d,A⟩,m⟩=>?_;dsimp only;try dsimp only at m
 have hAl:=cC_.len m;refine Zz 3 ?_;refine u_ gk_ rfl λR=>n_ 0 aW_ rfl rfl rfl rfl rfl rfl (Zi 7 (λv=>?_) λv=>?_)
 .refine Zz 14 ?_
  refine I_ (ι:={y:Nat // y<=List.length F/\(∀ z∈List.take y F,ob_ d.facts z=true)}) (λy=>[(4,.bool false),(5,i4_ A),(8,zp_ R 0),(29,.slice fad F.length fcap),(30,i4_ (List.length F:Int)),(31,i4_ y.1)]) (λy=>((R,.cells #[.slice d.aad d.atoms.length d.acap,.slice d.fad d.facts.length d.fcap] 37 (0,0))::((U,.cells (Ax.cells x).toArray 51 (0,0))::((b_1,.cells #[.slice ad l.length cap] 162 (0,0))::[])))) (λy=>[L_ d.aad (d.atoms.flatMap ar_),L_ d.fad (d.facts.flatMap Fc.cells),L_ Q (q.flatMap Pc.cells),L_ fad (F.flatMap Fc.cells),cI_ ad l,Ax.memF x,bB_,dA_]) (λy=>F.length - y.1) ⟨(0:Nat),by simp,zai_⟩ zl zp zh ?_;rintro ⟨i,P,V⟩;dsimp only at P V ⊢;refine Zi 2 (λO=>?_) λO=>?_
  .refine Zz 13 ?_
   exact hQ_ results148 ⟨(true,0),by unfold FaR;rw[hG];exact⟨d,A,m,.inr ⟨by simpa using v,rfl,(yaQ_.2 λz S=>V z (by rw[yad_ zaa_];exact S)).symm⟩⟩⟩ rfl rfl rfl i_ zt
  have B:i<F.length:=by omega
  obtain⟨M,G⟩:∃ W,F[i]? = some W:=⟨_,yaa_ B⟩;have I:M∈F:=yac_ G;refine Zz 12 ?_;refine u_ W_ rfl λb_4=>n_ 0 N_ rfl rfl rfl rfl rfl rfl (Zz 6 ?_)
  refine aa_ (AS_ d M zaa_) rfl i_ zf rfl λY H=>e_ (aH_ rfl) rfl (Zz 2 ?_)
  cases Y
  .refine Zz 8 ?_
   exact hQ_ results148 ⟨(false,0),by unfold FaR;rw[hG];exact⟨d,A,m,.inr ⟨by simpa using v,rfl,(ycX_.2 ⟨M,I,by simpa using H⟩).symm⟩⟩⟩ rfl rfl rfl i_ zt
  refine Zz 8 ?_;exact C_ ⟨i+1,B,(λz S=>by rw[tk1 G,yag_,yak_]at S;exact S.elim (V z) λq=>by rw[q];simpa using H)⟩ zab_ zl (m_ (c_ d_) (m_ (c_ d_) (c_ d_))) zh
 refine Zz 11 ?_;exact hQ_ results148 ⟨(false,A),by unfold FaR;rw[hG];exact⟨d,A,m,.inl ⟨by simpa using v,rfl,rfl⟩⟩⟩ rfl rfl rfl i_ zt
theorem sP_ (l:List Ax) (ad:Ao) (cap:Nat) (A:∀ x∈l,x.ok) (H:∀ x∈l,x.check=0) (C:l.length<=12) (x:Ax) (B:x.ok) (q:List Pc) (F:List Fc) (J:x.goalP=(q,F,0)) (E:q.length<=100000) (v:∀ z∈q,z.sm) (m:F.length<=100000) (d:GlT x q F 0) (K:(x.kind=1)):Tri prog 94 #[.agg #[.slice ad l.length cap],Ax.val x] [] [cI_ ad l,Ax.memF x,bB_,dA_] (λy:{y:Bool×Int // FaR l x y.1 y.2}=>.tuple #[.bool y.1.1,i4_ y.1.2]) (λ_=>[]) (λ_=>[]):=by
 refine g_ func94 rfl rfl ntmps94 rfl λG=>?_;refine Zz 2 ?_;refine F_ rfl rfl λL=>F_ rfl rfl λI=>Zz 6 ?_
 refine aX_ rfl λN=>Zz 1 ?_
 refine e_ (aR_ rfl rfl) rfl (aF_ 0 (.inl rfl) bR_ rfl rfl rfl rfl (aU_ o_) (ax_ o_ rfl) (Zz 1 ?_));refine e_ (aR_ rfl rfl) rfl (aF_ 0 (.inl rfl) bR_ rfl rfl rfl rfl (aU_ o_) (ax_ o_ rfl) (Zz 1 ?_));refine e_ (aR_ rfl rfl) rfl (aF_ 0 (.inl rfl) bR_ rfl rfl rfl rfl (aU_ o_) (ax_ o_ rfl) (Zz 1 ?_));refine e_ (aR_ rfl rfl) rfl (aF_ 0 (.inl rfl) bR_ rfl rfl rfl rfl (aU_ o_) (ax_ o_ rfl) (Zz 1 ?_));refine e_ (aR_ rfl rfl) rfl (aF_ 0 (.inl rfl) bR_ rfl rfl rfl rfl (aU_ o_) (ax_ o_ rfl) (Zz 1 ?_));refine e_ (aR_ rfl rfl) rfl (aF_ 0 (.inl rfl) bR_ rfl rfl rfl rfl (aU_ o_) (ax_ o_ rfl) (Zz 1 ?_));refine e_ (aR_ rfl rfl) rfl (aF_ 0 (.inl rfl) bR_ rfl rfl rfl rfl (aU_ o_) (ax_ o_ rfl) (Zz 1 ?_));refine e_ (aR_ rfl rfl) rfl (aF_ 0 (.inl rfl) bR_ rfl rfl rfl rfl (aU_ o_) (ax_ o_ rfl) (Zz 1 ?_));refine e_ (aR_ rfl rfl) rfl (aF_ 0 (.inl rfl) bR_ rfl rfl rfl rfl (aU_ o_) (ax_ o_ rfl) (Zz 9 ?_));refine e_ (sf_ (i:=0) (u:=(.func (.func 148) #[.agg #[.slice ad l.length cap]] #[])) bR_ rfl rfl 0 rfl (aU_ o_) (ax_ o_ (by rw[K];rfl))) rfl ?_;refine Zz 11 ?_;refine e_ (aH_ rfl) rfl (Zz 9 ?_);refine T_ (first:=[(.agg #[.slice ad l.length cap])]) (vs:=[Ax.val x]) (cap:=[]) (xD_ l ad cap A H C x B q F J E v m d) rfl rfl i_ zf rfl λ⟨⟨fb,M⟩,hF⟩=>?_;try dsimp only at hF
 simp only[ybC_];refine Zz 7 ?_;exact hQ_ results94 ⟨(fb,M),hF⟩ rfl rfl rfl i_ zt
theorem far_t {l:List Ax} {x:Ax} {q:List Pc} {F:List Fc} {ok:Bool} {e:Int} (G:x.goalP=(q,F,0)) (h:FaR l x ok e) {E:Bool} (H:∀ c e,cC_ (bE_ 0 l++q) 1073741824 c e->e=0/\F.all (ob_ c.facts)=E):ok=E/\e=0:=by
 obtain⟨c,v,m,d⟩:=h;rw[G]at m d;obtain⟨rfl,y⟩:=H c v m;rcases d with⟨A,_⟩|⟨_,B,C⟩
 .exact absurd rfl A
 exact⟨C.trans y,B⟩
theorem ve_ {X:List Pf} {y:Pf} {v:Vw} (h:(sC_ X).p v) (m:bl_ v y.ad (y.l.flatMap Stp.cells)/\(bY_ y.l).p v):(sC_ (X++[y])).p v:=λz d=>by
  rw[yag_,yak_]at d;exact d.elim (h z) λe=>e▸m
theorem wL_ {P:Fc->Pf->Prop} {F:List Fc} {X:List Pf} {i:Nat} {f:Fc} {y:Pf} (h:∀ (j:Nat) g z,F[j]? = some g->X[j]? = some z->P g z) (hl:X.length=i) (v:F[i]? = some f) (x:P f y):∀ (j:Nat) g z,F[j]? = some g->(X++[y])[j]? = some z->P g z:=λj g z m d=>by
 by_cases e:j<X.length
 .rw[yaK_ e]at d;exact h j g z m d
 rw[yaG_ zaa_]at d
 by_cases A:j=X.length
 .subst A
  rw[hl,v]at m;simp at d
  cases m;cases d;exact x
 rw[show j - X.length=(j - X.length - 1)+1 by omega]at d;simp at d
theorem za_:fH_ prog 162 [(0,1)] [.slice none 0 0]:=⟨_,zeroValue162,runUnderlying162,λw=>by simp[sizeOf22]⟩
theorem elt_pf:Elt prog 61 119 1 24:=gA_ underlying61 (z:=.agg #[.slice none 0 0]) zad_ rfl zac_
theorem Pf.cells_one (y:Pf):y.cells.all Value.oneCell'=true:=rfl
theorem nL_ (l:List Ax) (ad:Ao) (cap:Nat) (A:∀ x∈l,x.ok) (L:∀ x∈l,x.check=0) (P:∀ x∈l,pln x) (I:l.length<=12) (S:∀ x∈l,x.left.sz<=1000000/\x.right.sz<=1000000) (hS:∀ (i:Nat) x y,l[i]? = some x->l[i+1]? = some y->Ax.cmp x y=-1) (a:Ax) (d:a.ok) (v:a.check=0) (m:pln a) (q:List Pc) (F:List Fc) (G:a.goalP=(q,F,0)) (K:q.length<=100000) (E:∀ z∈q,z.sm) (C:F.length<=100000) {M:Bool} (J:∀ c e,cC_ (bE_ 0 l++q) 1073741824 c e->e=0/\F.all (ob_ c.facts)=M):Tri prog 44 #[.agg #[.slice ad l.length cap],Ax.val a] [] [cI_ ad l,Ax.memF a,bB_,dA_] (λ_:Unit=>.tuple #[.bool M,i4_ 0]) (λ_=>[]) (λ_=>[]):=by
  refine g_ func44 rfl rfl ntmps44 rfl λN=>?_;refine Zz 2 ?_;refine F_ rfl rfl λQ=>F_ rfl rfl λO=>Zz 8 ?_
  refine f_ (kx_ l ad cap A L P zaa_ S hS) rfl i_ zf rfl λ_=>Zz 6 ?_
  refine e_ (aj_ (aM_ rfl rfl) (show _=Value.bool false from yah_ Value.bool zac_)) rfl (Zz 8 ?_);refine f_ (iK_ a d v m) rfl i_ zf rfl λ_=>Zz 3 ?_
  refine u_ aK_ rfl λR=>n_ 0 ab_ rfl rfl rfl rfl rfl rfl (Zz 7 ?_)
  refine e_ (aj_ (aM_ rfl rfl) (show _=Value.bool false from yah_ Value.bool zac_)) rfl (Zz 9 ?_);refine e_ (w_ za_ rfl rfl) rfl (Zz 1 ?_);refine f_ (sP_ l ad cap A L I a d q F G K E C (ug_ d v m.1 G) m.1) rfl i_ zf rfl λ⟨⟨fb,T⟩,hF⟩=>?_;dsimp only;dsimp only at hF;obtain⟨B,H⟩:=far_t G hF J;subst B H;refine Zz 7 ?_;exact hQ_ results44 () rfl rfl rfl i_ zt
theorem yy_ (a:Ax) (d:pln a):Fn0 prog 45 #[Ax.val a] (.bool false):=by
 refine g_ func45 rfl rfl ntmps45 rfl λA=>?_;refine Zz 2 ?_;refine F_ rfl rfl λB=>Zi 7 (λv=>?_) λv=>?_
 .refine Zi 6 (λx=>?_) λx=>?_
  .refine Zz 7 ?_
   refine P_ (by_ rfl rfl) rfl λC m=>Zz 5 ?_
   exact ac_ results45 () (p_ rfl (by rw[<-m];have y:=d.1;simp[y])) i_ zt
  exfalso;have y:=d.1;omega
 exfalso;have y:=d.1;omega
theorem uW_ (l:List Ax) (ad:Ao) (cap:Nat) (B:∀ x∈l,x.ok) (J:∀ x∈l,x.check=0) (M:∀ x∈l,pln x) (C:l.length<=12) (O:∀ x∈l,x.left.sz<=1000000/\x.right.sz<=1000000) (hS:∀ (i:Nat) x y,l[i]? = some x->l[i+1]? = some y->Ax.cmp x y=-1) (a:Ax) (d:a.ok) (m:a.check=0) (G:pln a) (q:List Pc) (F:List Fc) (L:a.goalP=(q,F,0)) (H:q.length<=100000) (A:∀ z∈q,z.sm) (v:F.length<=100000) (E:∀ c e,cC_ (bE_ 0 l++q) 1073741824 c e->e=0/\F.all (ob_ c.facts)=false):Tri prog 15 #[.agg #[.slice ad l.length cap],Ax.val a] [] [cI_ ad l,Ax.memF a,bB_,dA_] (λ_:Unit=>.tuple #[.slice none 0 0,i4_ 110]) (λ_=>[]) (λ_=>[]):=by
  refine g_ func15 rfl rfl ntmps15 rfl λI=>?_;refine Zz 2 ?_;refine F_ rfl rfl λN=>F_ rfl rfl λK=>Zz 8 ?_
  refine f_ (nL_ l ad cap B J M C O hS a d m G q F L H A v E) rfl i_ zf rfl λ_=>Zz 11 ?_
  refine e_ (aj_ (aM_ rfl rfl) (show _=Value.bool false from yah_ Value.bool zac_)) rfl (Zz 9 ?_);refine e_ (aH_ rfl) rfl (Zz 10 ?_);exact hQ_ results15 () rfl rfl rfl i_ zt
set_option maxHeartbeats 1000000 in
theorem uV_ (l:List Ax) (ad:Ao) (cap:Nat) (b5:∀ x∈l,x.ok) (hC:∀ x∈l,x.check=0) (hP:∀ x∈l,pln x) (b3:l.length<=12) (hz:∀ x∈l,x.left.sz<=1000000/\x.right.sz<=1000000) (hS:∀ (i:Nat) x y,l[i]? = some x->l[i+1]? = some y->Ax.cmp x y=-1) (a:Ax) (a1:a.ok) (a2:a.check=0) (Q:pln a) (q:List Pc) (F:List Fc) (hG:a.goalP=(q,F,0)) (hql:q.length<=100000) (hqs:∀ z∈q,z.sm) (hFl:F.length<=100000) (a8:∀ c e,cC_ (bE_ 0 l++q) 1073741824 c e->e=0/\F.all (ob_ c.facts)=true) (hsm:∀ x∈(bE_ 0 l++q),x.sm) (h14:(bE_ 0 l++q).length<=14) (hk1:∀ x∈(bE_ 0 l++q),x.kind=1) (hc1:∀ x∈(bE_ 0 l++q),x.c∈atS (bE_ 0 l++q)) (P:∀ f∈F,f=Q_ f.a f.b/\f.a≠[]/\f.b≠[]/\∀ S:Fc->Prop,(∀ a∈atS (bE_ 0 l++q),S (Q_ a a))->(∀ x∈(bE_ 0 l++q),∀ a,S (Q_ a x.a)->S (Q_ a x.c))->S f):Tri prog 15 #[.agg #[.slice ad l.length cap],Ax.val a] [] [cI_ ad l,Ax.memF a,bB_,dA_] (λy:{y:List Pf×Ao×Nat // y.1.length=F.length/\(∀ (i9:Nat) f9 y9,F[i9]? = some f9->y.1[i9]? = some y9->PrfL (bE_ 0 l++q) (atS (bE_ 0 l++q)) f9 (Pf.l y9)/\(Pf.l y9).length<=65536)/\y.1.length<=y.2.2/\y.2.2<=maxLen/\(y.2.1=none->y.2.2=0)}=>.tuple #[.slice y.1.2.1 y.1.1.length y.1.2.2,i4_ 0]) (λ_=>[]) (λy=>[L_ y.1.2.1 (y.1.1.flatMap Pf.cells),sC_ y.1.1]):=by
 refine g_ func15 rfl rfl ntmps15 rfl λv_1=>?_;refine Zz 2 ?_;refine F_ rfl rfl λb_1=>F_ rfl rfl λb_2=>Zz 8 ?_
 refine f_ (nL_ l ad cap b5 hC hP b3 hz hS a a1 a2 Q q F hG hql hqs hFl a8) rfl i_ zf rfl λ_=>Zz 11 ?_
 refine e_ (aj_ (aM_ rfl rfl) (show _=Value.bool false from yah_ Value.bool zac_)) rfl (Zz 9 ?_);refine e_ (aH_ rfl) rfl (Zz 8 ?_);refine f_ (iK_ a a1 a2 Q) rfl i_ zf rfl λ_=>Zz 3 ?_
 refine n_ 0 ab_ rfl rfl rfl rfl rfl rfl (Zz 7 ?_);refine e_ (aj_ (aM_ rfl rfl) (show _=Value.bool false from yah_ Value.bool zac_)) rfl (Zz 4 ?_);refine f_ (yy_ a Q) rfl i_ zt rfl λ_=>Zz 10 ?_
 refine f_ (oB_ l ad cap b3 b5 hC) rfl i_ zf rfl λ⟨⟨pad,pcap⟩,M,b0,I⟩=>?_;dsimp only;try dsimp only at M b0 I
 have hfl:=iw_ 0 l hC;refine Zz 11 ?_;refine e_ (aj_ (aM_ rfl rfl) (show _=Value.bool false from yah_ Value.bool zac_)) rfl (Zz 8 ?_);refine f_ ((ug_ a1 a2 Q.1 hG)) rfl i_ zf rfl λ⟨⟨N,A,fad,fcap⟩,K,a7,b1,Z,C⟩=>?_;dsimp only;try dsimp only at K a7 b1 Z C
 refine Zz 13 ?_;refine e_ (aj_ (aM_ rfl rfl) (show _=Value.bool false from yah_ Value.bool zac_)) rfl (Zz 9 ?_);refine M_ fX_ cj_ bu_ rfl rfl rfl rfl rfl rfl λb_3=>?_;refine aL_ (List.flatMap PL.cells [(PL.mk (bE_ 0 l) pad pcap),(PL.mk q N A)]) d_ rfl ?_;refine f_ ((show Tri prog 27 _ [] _ (λy:{y:Ao×Nat // (bE_ 0 l++q).length<=y.2/\y.2<=maxLen/\(y.1=none->y.2=0)}=>.slice y.1.1 (bE_ 0 l++q).length y.1.2) (λ_=>[]) (λy=>[L_ y.1.1 ((bE_ 0 l++q).flatMap Pc.cells)]) from by have h:=nN_ [(PL.mk (bE_ 0 l) pad pcap),(PL.mk q N A)] (some ⟨b_3,0,none⟩) 2 (λy hy=>by simp only[yan_,yaJ_,ybG_]at hy;rcases hy with rfl|rfl;exact⟨M,I,by dsimp only;omega⟩;exact⟨K,C,by dsimp only;omega⟩) zai_;have eC:(eI_ [(PL.mk (bE_ 0 l) pad pcap),(PL.mk q N A)])=bE_ 0 l++q:=(by simp[eI_]);rw[eC]at h;exact h)) rfl i_ (λv _ h=>by refine⟨h.1,λy hy=>?_,trivial⟩;simp only[yan_,yaJ_,ybG_]at hy;rcases hy with rfl|rfl;exact h.2.2.2.1;exact h.2.1) rfl λ⟨⟨L,H⟩,hcc_1,hcc_2,hcc_3⟩=>?_;dsimp only;refine Zz 12 ?_;refine I_ (ι:={y:Nat×List Pf×Value×Hp // y.1<=List.length F/\y.2.1.length=y.1/\(∀ (a3:Nat) a4 O,F[a3]? = some a4->y.2.1[a3]? = some O->PrfL (bE_ 0 l++q) (atS (bE_ 0 l++q)) a4 (Pf.l O)/\(Pf.l O).length<=65536)/\zR 119 1 Pf.cells y.2.2.1 y.2.1 y.2.2.2}) (λy=>[(4,y.1.2.2.1),(5,i4_ 0),(10,.slice L ((bE_ 0 l)++q).length H),(60,.slice fad F.length fcap),(61,i4_ (List.length F:Int)),(62,i4_ y.1.1)]) (λy=>(y.1.2.2.2)) (λy=>[sC_ y.1.2.1,L_ L (List.flatMap Pc.cells ((bE_ 0 l)++q)),L_ (some ⟨b_3,0,none⟩) (List.flatMap PL.cells [(PL.mk (bE_ 0 l) pad pcap),(PL.mk q N A)]),L_ N (q.flatMap Pc.cells),L_ fad (F.flatMap Fc.cells),L_ pad (List.flatMap Pc.cells (bE_ 0 l)),cI_ ad l,Ax.memF a,bB_,dA_]) (λy=>F.length - y.1.1) ⟨((0:Nat),([]:List Pf),(.slice none 0 0),[]),by simp,rfl,(λa3 a4 O h_1 h_2=>by cases h_2),(ad_.nil _ _)⟩ zl i_ (λv _ h=>by exact⟨(show (sC_ ([]:List Pf)).p v from λz hz=>by cases hz),h.1,h.2.1,h.2.2.1,h.2.2.2.1,h.2.2.2.2.1,h.2.2.2.2.2.1,h.2.2.2.2.2.2.1,h.2.2.2.2.2.2.2.1,h.2.2.2.2.2.2.2.2.1,trivial⟩) ?_;rintro ⟨⟨i,X,sv_Q,H_Q⟩,b9,a6,W,J⟩;dsimp only at b9 a6 W J ⊢;refine Zi 2 (λG=>?_) λG=>?_
 .refine Zz 7 ?_
  refine aZ_ J af_ λxad b6 b4 a9 a0 V=>?_;subst b4;refine Zz 7 ?_;exact hQ_ results15 ⟨(X,xad,b6),by dsimp only;omega,W,a9,a0,V⟩ rfl rfl rfl i_ zf
 have B:i<F.length:=by omega
 obtain⟨m,T⟩:∃ e_1,F[i]? = some e_1:=⟨_,yaa_ B⟩;have d:m∈F:=yac_ T;refine Zz 12 ?_;refine u_ W_ rfl λb_4=>n_ 0 N_ rfl rfl rfl rfl rfl rfl (Zz 6 ?_)
 refine f_ (Ak_ (bE_ 0 l++q) L H m 1073741824 hsm h14 hk1 hc1 (P m d).1 (P m d).2.1 (P m d).2.2.1 (λc e h=>⟨(a8 c e h).1,yaQ_.1 (a8 c e h).2 m d⟩) (P m d).2.2.2) rfl i_ zf rfl λ⟨⟨Y,a5,E⟩,R,U,hYc,hYm,hYz⟩=>?_;dsimp only;dsimp only at R U hYc hYm hYz;refine Zz 3 ?_;refine u_ oe_ rfl λb_5=>n_ 0 eu_ rfl rfl rfl rfl rfl rfl (Zz 7 ?_)
 refine e_ (aj_ (aM_ rfl rfl) (show _=Value.bool false from yah_ Value.bool zac_)) rfl (Zz 8 ?_);refine M_ runUnderlying61 eu_ oe_ rfl rfl rfl rfl rfl rfl λb_6=>?_;refine am_ (news:=List.flatMap Pf.cells [(Pf.mk Y a5 E)]) elt_pf J rfl rfl (c_ (c_ E_)) rfl (ba_ 0 rfl) (λu hu=>aG_ Pf.cells_one hu) zan_ zar_ rfl λb2 b7 G=>?_;refine t_ yax_ ?_;have b8:=zsa G;refine Zz 8 ?_;exact C_ ⟨(i+1,(X++[(Pf.mk Y a5 E)]),b2,b7),B,(by rw[yaj_,a6];rfl),(wL_ W a6 T ⟨R,U⟩),b8⟩ zab_ zl zp (λv _ h=>by exact⟨(ve_ (y:=(Pf.mk Y a5 E)) h.2.2.1 ⟨h.1,h.2.1⟩),h.2.2.2.1,h.2.2.2.2.1,h.2.2.2.2.2.1,h.2.2.2.2.2.2.1,h.2.2.2.2.2.2.2.1,h.2.2.2.2.2.2.2.2.1,h.2.2.2.2.2.2.2.2.2.1,h.2.2.2.2.2.2.2.2.2.2.1,h.2.2.2.2.2.2.2.2.2.2.2.1,trivial⟩)
end Go.Proofs.YtfjcabalehamcaaGreatDoor
namespace Go.Proofs.YtfjcabalehamcaaGreatDoor
open Go Go.Sx Go.Proofs Tryz
attribute [local irreducible] Code.wp wpList wpAnyH
open Go.Vs Go.ChangeShapes Go.WideShapes Go.ChangeAt Go.RowKit
theorem own:ownKnob Tryz.prog.godebug=none:=by kernel_rfl
def gx_ : List (String × DataW Unit) := [("math/bits.deBruijn32tab", Rows.laid_math_bits_deBruijn32tab), ("math/bits.deBruijn64tab", Rows.laid_math_bits_deBruijn64tab), ("internal/strconv.uint64pow10", Rows.laid_internal_strconv_uint64pow10), ("unicode/utf8.acceptRanges", Rows.laid_unicode_utf8_acceptRanges), ("veilstone/terms.needs", Rows.laid_veilstone_terms_needs), ("veilstone/terms.uses", Rows.laid_veilstone_terms_uses), ("veilstone/normal.uses", Rows.laid_veilstone_normal_uses), ("unicode/utf8.first", Rows.laid_unicode_utf8_first)]
theorem xz_:Kids prog (·<Tryz.prog.types.size):=kids_rows zad_ zad_
theorem full:∀ t e,t<Tryz.prog.types.size->Tryz.prog.underlying t=some (.slice e)->0<Tryz.prog.cellsOf e:=slices_full_of _ zad_
theorem np_:Tryz.prog.types.size=422:=by kernel_rfl
theorem tysX:Tys prog 3 4 9 34 49 47 51 22 32 27 where
  i:=o_
  b:=underlying4
  s:=av_
  ss:=ig_
  c:=⟨_,underlying49,rfl⟩
  cs:=underlying47
  a:=⟨_,underlying51,rfl⟩
  axs:=underlying22
  p:=⟨_,fz_,rfl⟩
  ps:=ol_
  ci:=by kernel_rfl
  cb:=by kernel_rfl
  cs1:=by kernel_rfl
  css:=by kernel_rfl
  cc:=by kernel_rfl
  ccs:=by kernel_rfl
  ca:=by kernel_rfl
  cp:=by kernel_rfl
  bs:=by kernel_rfl
  bc:=by kernel_rfl
  ba:=by kernel_rfl
  bp:=by kernel_rfl
theorem lW_ {W:World} (h:laidMetH prog gx_ W):∃ T fz,W.heap[2]? = some (.cells (eP_ (H:=Unit) Rows.laid_veilstone_terms_needs).toArray T fz):=by
  rw[MakeChecks.laidMetH_plain _ _ _ zk]at h;exact jP_ xz_ (name := "veilstone/terms.needs") h (by simp [gx_]) (g := 2) (t := 267) zk zk (by rw [np_]; decide) (m := 4) zk
theorem mM_ {W:World} (h:laidMetH prog gx_ W):∃ T fz,W.heap[0]? = some (.cells (eP_ (H:=Unit) Rows.laid_veilstone_terms_uses).toArray T fz):=by
  rw[MakeChecks.laidMetH_plain _ _ _ zk]at h;exact jP_ xz_ (name := "veilstone/terms.uses") h (by simp [gx_]) (g := 0) (t := 130) zk zk (by rw [np_]; decide) (m := 4) zk
theorem lX_ {W:World} (h:laidMetH prog gx_ W):∃ T fz,W.heap[1]? = some (.cells (eP_ (H:=Unit) Rows.laid_veilstone_normal_uses).toArray T fz):=by
  rw[MakeChecks.laidMetH_plain _ _ _ zk]at h;exact jP_ xz_ (name := "veilstone/normal.uses") h (by simp [gx_]) (g := 1) (t := 192) zk zk (by rw [np_]; decide) (m := 4) zk
theorem gM_ {W:World} (h:laidMetH prog gx_ W):∃ T fz,W.heap[6]? = some (.cells (eP_ (H:=Unit) Rows.laid_internal_strconv_uint64pow10).toArray T fz):=by
  rw[MakeChecks.laidMetH_plain _ _ _ zk]at h;exact jP_ xz_ (name := "internal/strconv.uint64pow10") h (by simp [gx_]) (g := 6) (t := 405) zk zk (by rw [np_]; decide) (m := 4) zk
theorem pq_ {W:World} {g:Nat} {l:List Value} {d:List Value} (h:∃ T fz,W.heap[g]? = some (.cells l.toArray T fz)) (e:l=d):bl_ (vw W) (some ⟨g,0,none⟩) d:=by
  obtain⟨T,fz,h⟩:=h;subst e;exact .inr ⟨g,0,_,T,fz,rfl,(yaD_.1 h).1,h,λj x m=>by rw[yba_];simpa using m⟩
theorem yS_ {W:World} (h:laidMetH prog gx_ W):bB_.p (vw W):=by
  refine⟨pq_ (lW_ h) zk,pq_ (mM_ h) zk,trivial,?_⟩;obtain⟨T,fz,d⟩:=gM_ h;refine⟨trivial,(yaD_.1 d).1,T,fz,?_⟩;rw[show (Lib.pow10Tab.map λz=>Value.int .u64 z)=eP_ (H:=Unit) Rows.laid_internal_strconv_uint64pow10 by kernel_rfl];exact d
theorem yT_ {W:World} (h:laidMetH prog gx_ W):dA_.p (vw W):=pq_ (lX_ h) zad_
theorem bl_.pre {α:Type} {f:α->List Value} {n:Nat} (m:∀ x,(f x).length=n) {l:List α} {v:Vw} {ad:Ao} (h:bl_ v ad (l.flatMap f)) (j:Nat):bl_ v ad ((l.take j).flatMap f) :=
  h.part λk x d=>by
    have e:l.flatMap f=(l.take j).flatMap f++(l.drop j).flatMap f:=by rw[<-yaW_,ybA_]
    rw[e,yaK_ (yab_.1 d).1];exact d
theorem tS_ {α:Type} {lt:α->α->Prop} (A:∀ {x y z},lt x y->lt y z->lt x z) {l:List α} {j:Nat} {b:α} (h:(l.take j).Pairwise lt) (v:l[j]? = some b) (d:∀ a,0<j->l[j - 1]? = some a->lt a b):(l.take (j+1)).Pairwise lt:=by
  cases j with
  | zero=>exact pw_one l
  | succ k =>
    have B:=(yab_.1 v).1;obtain⟨a,m⟩:∃ a,l[k]? = some a:=⟨_,yaa_ zaa_⟩;exact zt_ (lt:=lt) A h m v (d a zaa_ m)
theorem pw_no {α:Type} {lt:α->α->Prop} {l:List α} {j:Nat} {a b:α} (x:0<j) (m:l[j - 1]? = some a) (v:l[j]? = some b) (d:¬ lt a b):¬ l.Pairwise lt:=by
  obtain⟨k,rfl⟩:∃ k,j=k+1:=⟨j - 1,by omega⟩;exact pw_not m v d
end Go.Proofs.YtfjcabalehamcaaGreatDoor
