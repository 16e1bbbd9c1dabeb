/-
  Lemmas for the law ModuleTypes (no condition).
-/
import Derived.Test.YthmjeabeoodghaaGreatDoorQModuleTypes13
set_option linter.unusedVariables false
set_option linter.unusedSimpArgs false
set_option linter.unusedSectionVars false
set_option maxHeartbeats 1000000
namespace Go.Proofs.YthmjeabeoodghaaGreatDoor
open Go Go.Sx Go.Proofs Tryz
attribute [local irreducible] Code.wp wpList wpAnyH
open Go.Vs
theorem mp_ {G:Prop} (h:G:=by
 refine A_ dY_ (Zz 14 ?_);exact x_ ⟨(k+1,(List.set (List.set M k d) (Int.toNat ((List.length L:Int) - 1 - (k:Int))) h),v,A),(by have q:=U.step J (show M[List.length L - 1 - k]? = some d from by rw[show L.length - 1 - k=(Int.toNat ((List.length L:Int) - 1 - (k:Int))) by omega];exact x) m;rw[show L.length - 1 - k=(Int.toNat ((List.length L:Int) - 1 - (k:Int))) by omega]at q;exact q),O,K⟩ zab_ ⟨rfl,rfl,(be_ rfl zab_),trivial⟩ aj_ zt):G:=h
theorem xh_ (L:List Int) (sv:Value) (Hr:Hp) (W:zR 3 1 cY_ sv L Hr) (hl:L.length≤1000000000):Tri prog 175 #[sv] Hr [] (fun _:{H:Hp // zR 3 1 cY_ sv L.reverse H}=>.tuple #[]) (fun y=>y.1) (fun _=>[]):=by
 refine j_ func175 rfl rfl ntmps175 rfl fun X=>?_;refine Zz 3 ?_;refine e_ (cF_ W ap_ rfl) rfl (Zz 6 ?_);refine bt_ [(0,sv),(2,.int .i64 0),(3,.int .i64 ((List.length L:Int) - 1 - ((0:Nat):Int)))] ⟨rfl,rfl,(be_ rfl zaa_),trivial⟩ ?_;refine O_ (ι:={y:Nat×List Int×Value×Hp // RevI L y.2.1 y.1∧y.2.2.1=sv∧zR 3 1 cY_ y.2.2.1 y.2.1 y.2.2.2}) (fun y=>[(0,y.1.2.2.1),(2,.int .i64 (y.1.1:Int)),(3,.int .i64 ((List.length L:Int) - 1 - (y.1.1:Int)))]) (fun y=>(y.1.2.2.2)) (fun y=>[]) (fun y=>L.length - y.1.1) ⟨((0:Nat),L,sv,Hr),RevI.zero L,rfl,W⟩ zl aj_ zt ?_;rintro ⟨⟨k,M,v,V⟩,U,O,e⟩;dsimp only at U O e ⊢;refine Zi 5 (fun B=>?_) fun B=>?_
 ·refine Zz 5 ?_
  have Y:=U.done B;subst Y;rw[O]at e;exact ck_ results175 ⟨V,e⟩ rfl aj_ zt
 have J:=B;have Z:=U.len;have R:(Int.toNat ((List.length L:Int) - 1 - (k:Int)))<M.length:=by omega
 obtain⟨d,x⟩:∃ S,M[(Int.toNat ((List.length L:Int) - 1 - (k:Int)))]? = some S:=⟨_,List.getElem?_eq_getElem R⟩;have Q:k<M.length:=by omega
 obtain⟨h,m⟩:∃ S,M[k]? = some S:=⟨_,List.getElem?_eq_getElem Q⟩;refine Zz 7 ?_;refine ak_ ([]) zk ?_;refine D_ 6 [0,1,2,3,4,5,6,8,9,10] zk zs (Zz 6 ?_);refine T_ rfl (bI_ e ap_ P_ rfl rfl zaa_ zaa_) rfl (Zz 2 ?_);refine T_ rfl (bI_ e ap_ P_ rfl rfl zaa_ zaa_) rfl (bV_ ?_);refine hj_ 7 11 rfl rfl zk ?_ ?_
 ·refine e_ (dn_ e aj_ aF_ rfl (z_ dO_ x 0 _ rfl)) rfl (Zz 3 ?_)
  refine p_ 11 rfl zk (e_ (dn_ e aj_ aF_ rfl (z_ dO_ m 0 _ rfl)) rfl (Zz 3 ?_));refine D_ 3 [12] zk zs (T_ rfl (bI_ e ap_ P_ rfl rfl zaa_ zaa_) rfl (bV_ (p_ 13 rfl zk (eR_ (k:=(k:Int).toNat*1+0) e aj_ P_ rfl rfl zaa_ rfl rfl fun I B=>?_))));have G:=(ij_ cY_ 1 dO_ M k 0 h d (.int .i64 d) m zad_ rfl).trans (congrArg _ (rfl));have C:az_ 3 1 v (List.length (List.set M k d)) (List.flatMap cY_ (List.set M k d)) I:=by rw[← G,show List.length (List.set M k d)=M.length from (List.length_set ..)];exact B
  refine A_ dY_ (Zz 3 ?_);refine p_ 14 rfl zk ?_;have F:(List.set M k d)[(Int.toNat ((List.length L:Int) - 1 - (k:Int)))]? = some d:=by rw[List.getElem?_set_ne zaa_];exact x
  have P:(Int.toNat ((List.length L:Int) - 1 - (k:Int)))<List.length (List.set M k d):=by rw[List.length_set];omega
  refine e_ (bI_ C ap_ P_ rfl rfl zaa_ zaa_) rfl (Zz 3 ?_);refine p_ 15 rfl zk (eR_ (k:=((Int.toNat ((List.length L:Int) - 1 - (k:Int))):Int).toNat*1+0) C aj_ P_ rfl rfl zaa_ rfl rfl fun A N=>?_);have E:=(ij_ cY_ 1 dO_ (List.set M k d) (Int.toNat ((List.length L:Int) - 1 - (k:Int))) 0 d h (.int .i64 h) F zad_ rfl).trans (congrArg _ (rfl));have K:az_ 3 1 v (List.length (List.set (List.set M k d) (Int.toNat ((List.length L:Int) - 1 - (k:Int))) h)) (List.flatMap cY_ (List.set (List.set M k d) (Int.toNat ((List.length L:Int) - 1 - (k:Int))) h)) A:=by rw[← E,show List.length (List.set (List.set M k d) (Int.toNat ((List.length L:Int) - 1 - (k:Int))) h)=List.length (List.set M k d) from (List.length_set ..)];exact N
  exact mp_
 refine e_ (dn_ e aj_ aF_ rfl (z_ dO_ m 0 _ rfl)) rfl (Zz 3 ?_);refine p_ 7 rfl zk (e_ (dn_ e aj_ aF_ rfl (z_ dO_ x 0 _ rfl)) rfl (Zz 3 ?_));refine D_ 3 [12] zk zs (T_ rfl (bI_ e ap_ P_ rfl rfl zaa_ zaa_) rfl (bV_ (p_ 13 rfl zk (eR_ (k:=(k:Int).toNat*1+0) e aj_ P_ rfl rfl zaa_ rfl rfl fun I N=>?_))));have G:=(ij_ cY_ 1 dO_ M k 0 h d (.int .i64 d) m zad_ rfl).trans (congrArg _ (rfl));have C:az_ 3 1 v (List.length (List.set M k d)) (List.flatMap cY_ (List.set M k d)) I:=by rw[← G,show List.length (List.set M k d)=M.length from (List.length_set ..)];exact N
 refine A_ dY_ (Zz 3 ?_);refine p_ 14 rfl zk ?_;have F:(List.set M k d)[(Int.toNat ((List.length L:Int) - 1 - (k:Int)))]? = some d:=by rw[List.getElem?_set_ne zaa_];exact x
 have P:(Int.toNat ((List.length L:Int) - 1 - (k:Int)))<List.length (List.set M k d):=by rw[List.length_set];omega
 refine e_ (bI_ C ap_ P_ rfl rfl zaa_ zaa_) rfl (Zz 3 ?_);refine p_ 15 rfl zk (eR_ (k:=((Int.toNat ((List.length L:Int) - 1 - (k:Int))):Int).toNat*1+0) C aj_ P_ rfl rfl zaa_ rfl rfl fun A T=>?_);have E:=(ij_ cY_ 1 dO_ (List.set M k d) (Int.toNat ((List.length L:Int) - 1 - (k:Int))) 0 d h (.int .i64 h) F zad_ rfl).trans (congrArg _ (rfl));have K:az_ 3 1 v (List.length (List.set (List.set M k d) (Int.toNat ((List.length L:Int) - 1 - (k:Int))) h)) (List.flatMap cY_ (List.set (List.set M k d) (Int.toNat ((List.length L:Int) - 1 - (k:Int))) h)) A:=by rw[← E,show List.length (List.set (List.set M k d) (Int.toNat ((List.length L:Int) - 1 - (k:Int))) h)=List.length (List.set M k d) from (List.length_set ..)];exact T
 exact mp_
def b2C (e:Bool×Bool):List Value:=[.bool e.1,.bool e.2]
theorem lu_ (e:Bool×Bool):(b2C e).length=2:=rfl
structure SeenI (W:List Wy) (B:List (Bool×Bool)) (n:Nat):Prop where
  len:B.length=n
  at':∀ r,r<n→B[r]? = some (nq_ W r false,nq_ W r true)
theorem qF_ (W:List Wy) (w:Wy) (r:Nat) (b:Bool):nq_ (W++[w]) r b=(nq_ W r b||(w.role==r&&w.strict==b)):=by simp[nq_]
theorem SeenI.push {W:List Wy} {B:List (Bool×Bool)} {n r:Nat} {b:Bool} {bf m:Nat} {u:Bool×Bool} (h:SeenI W B n) (x:B[r]? = some u):SeenI (W++[⟨r,b,bf,m⟩]) (B.set r (if b then (u.1,true) else (true,u.2))) n:=by
 have v:=(List.getElem?_eq_some_iff.1 x).1;refine⟨by rw[List.length_set,h.len],fun q y=>?_⟩;have d:=h.at' q y;rw[qF_,qF_,List.getElem?_set]
 by_cases e:r=q
 ·subst e
  rw[if_pos rfl,if_pos v];rw[x]at d;simp only[Option.some.injEq]at d;subst d;cases b<;>simp
 rw[if_neg e,d];have:(r==q)=false:=by simp[e]
 simp[this]
theorem SeenI.init {n s:Nat} (h:s<n):SeenI [⟨s,false,0,0⟩] (List.set (List.replicate n (false,false)) s (true,false)) n:=by
  have e:SeenI [] (List.replicate n (false,false)) n:=⟨List.length_replicate,fun r v=>by rw[List.getElem?_replicate,if_pos v];rfl⟩;have d:(List.replicate n (false,false))[s]? = some (false,false):=by rw[List.getElem?_replicate,if_pos h]
  have:=e.push (b:=false) (bf:=0) (m:=0) d;simpa using this
def CirR (G:List (List (Nat×Bool))) (start most:Nat) (L:List Int) (ad:Ao) (cap:Nat):Prop :=
  (L=[]∧ad=none∧cap=0∧∀ (n:Nat) (f:Nat→Nat) (c:Nat→Bool),Clw (gE G) n f c→f 0=start→most≤n) ∨
  (ad≠none∧(∃ n,Clo (gE G) n)∧(∀ x∈L,0≤x∧x<(G.length:Int))∧L.length≤2*G.length+1)
theorem iM_ {P:Program} {N:Nf} {fr:Fr} {H:Hp} {Γ:List Fct} {t e ty:TypeId} {x y:Operand} {b k i:Nat} (d:∀ w,(underlying t).run P w=.ok (.array 2 e) w) (h:∀ w,(sizeOf e).run P w=.ok 1 w) (m:Fr.ev fr x=some (zp_ b k)) (v:Fr.ev fr y=some (.int .i64 (i:Int))) (hi:i<2) :
    Yld P N fr H Γ (.indexAddr t x y) ty (.pointer (some ⟨b,k+i,none⟩)):=by
  have:=dI_ (P:=P) (N:=N) (fr:=fr) (H:=H) (Γ:=Γ) (ty:=ty) d h m v zaa_ zaa_;rwa [Nat.mul_one,Int.toNat_natCast]at this
theorem az_.lit {e:TypeId} {sz b:Nat} {xs:List Value} {n:Nat} (hl:xs.length=n*sz) (d:n≤maxLen):az_ e sz (.slice (some ⟨b,0,none⟩) n n) n xs [(b,.cells xs.toArray e (0,0))] :=
  ⟨hl,.inr ⟨b,n,xs.toArray,rfl,rfl,Nat.le_refl _,d,by simpa using hl,by rw[← hl];simp⟩⟩
theorem mo_ {G:Prop} (h:G:=by
 have a0:=Z;refine Zz 8 ?_;exact x_ ⟨(k+1,a3,N,K,P,I,a5),(J.skip G hGw T (fun q=>by have F:=hcll;rw[q.2]at F;simp[q.1]at F) (by rw[Y];have F:=a0;rw[hbe]at F;exact F)),M,G,U,A,C⟩ zab_ zl (i_ (c_ d_) (i_ (c_ d_) (B_ (c_ w_) C_))) zh):G:=h
theorem AD_ (R:List Str) (rad:Ao) (rcap:Nat) (X:List Grw) (a4:Ao) (a7 d most:Nat) (hlen:X.length=R.length) (hs:d<X.length) (hto:∀ (i:Nat) (l:List (Nat×Bool)),(X.map Grw.st)[i]? = some l→∀ s∈l,s.1<((X.map Grw.st)).length) (hXl:X.length≤100000) (hrows:∀ y∈X,y.st.length≤100000000) (hmost:most≤200000):Tri prog 115 #[.agg #[.slice rad R.length rcap,.slice a4 X.length a7],.int .i64 (d:Int),.int .i64 (most:Int)] [] [X_ rad (R.flatMap au_),X_ a4 (X.flatMap Grw.cells),iq_ X] (fun y:{y:List Int×Ao×Nat // CirR (X.map Grw.st) d most y.1 y.2.1 y.2.2∧y.1.length≤y.2.2∧y.2.2≤maxLen∧(y.2.1=none→y.2.2=0)}=>.slice y.1.2.1 y.1.1.length y.1.2.2) (fun _=>[]) (fun y=>[X_ y.1.2.1 (y.1.1.flatMap cY_)]):=by
 refine j_ func115 rfl rfl ntmps115 rfl fun v_1=>?_;refine Zz 2 ?_;refine K_ rfl rfl fun a2=>Zz 3 ?_
 refine qc_ (Zz 3 ?_);refine e_ (u_ ri_ rfl rfl) rfl (G_ el_ gy_ pO_ rfl rfl rfl rfl rfl rfl fun b_2=>Zz 4 ?_);have hqW:az_ 218 4 (.slice (some ⟨b_2,0,none⟩) 1 1) (List.length [(Wy.mk d false 0 0)]) (List.flatMap wyC [(Wy.mk d false 0 0)]) [(b_2,.cells #[.int .i64 (d:Int),.bool false,.int .i64 (0:Int),.int .i64 (0:Int)] 218 (0,0))]:=az_.lit rfl zad_;refine A_ (H':=([(b_2,.cells #[.int .i64 (d:Int),.bool false,.int .i64 (0:Int),.int .i64 (0:Int)] 218 (0,0))]++((a2,.cells #[.slice rad R.length rcap,.slice a4 X.length a7] 169 (0,0))::[]))) (List.Perm.refl _) (Zz 4 ?_);refine mY_ (n:=R.length) (by':=2) underlying220 (z:=.agg #[.bool false,.bool false]) zk rfl zad_ rfl rfl zaa_ zan_ rfl fun svB HrB hrB=>?_;have hqB:az_ 221 2 svB (List.length (List.replicate R.length (false,false))) (List.flatMap b2C (List.replicate R.length (false,false))) HrB:=by rw[List.length_replicate,← nR_ b2C];exact hrB
 have hzl:List.length (List.replicate R.length (false,false))=R.length:=List.length_replicate;have hz_1:(List.replicate R.length (false,false))[d]? = some (false,false):=by rw[List.getElem?_replicate,if_pos zaa_]
 refine Zz 3 ?_;refine A_ (bg_ (l_ bi_)) (Zz 4 ?_);refine e_ (bI_ hqB jR_ ze_ rfl rfl zaa_ zaa_) rfl (e_ (iM_ (i:=0) jQ_ cv_ rfl rfl zad_) rfl (eR_ (k:=(d:Int).toNat*2+0) hqB zp cv_ rfl rfl zaa_ rfl rfl fun Hr_1 hr_1=>?_));have hs_1:=(ij_ b2C 2 lu_ (List.replicate R.length (false,false)) d 0 (false,false) (true,false) (.bool true) hz_1 zad_ rfl).trans (congrArg _ (rfl));have hq_1:az_ 221 2 svB (List.length (List.set (List.replicate R.length (false,false)) d (true,false))) (List.flatMap b2C (List.set (List.replicate R.length (false,false)) d (true,false))) Hr_1:=by rw[← hs_1,show List.length (List.set (List.replicate R.length (false,false)) d (true,false))=List.length (List.replicate R.length (false,false)) from (List.length_set ..)];exact hr_1
 refine Zz 3 ?_;refine qe_ (Zz 2 ?_);refine A_ (bg_ (l_ d_)) (Zz 6 ?_);refine O_ (ι:={y:Nat×List Wy×List (Bool×Bool)×Value×Hp×Value×Hp // BI (X.map Grw.st) d y.2.1 y.1 0∧SeenI y.2.1 y.2.2.1 X.length∧y.1≤List.length y.2.1∧zR 218 4 wyC y.2.2.2.1 y.2.1 y.2.2.2.2.1∧zR 221 2 b2C y.2.2.2.2.2.1 y.2.2.1 y.2.2.2.2.2.2}) (fun y=>[(1,.int .i64 (d:Int)),(2,.int .i64 (most:Int)),(3,zp_ a2 0),(6,.slice none 0 0),(7,y.1.2.2.2.1),(8,y.1.2.2.2.2.2.1),(9,.int .i64 (y.1.1:Int))]) (fun y=>((a2,.cells #[.slice rad R.length rcap,.slice a4 X.length a7] 169 (0,0))::(y.1.2.2.2.2.1++y.1.2.2.2.2.2.2))) (fun y=>[X_ rad (R.flatMap au_),X_ a4 (X.flatMap Grw.cells),iq_ X]) (fun y=>2*X.length - y.1.1) ⟨((0:Nat),[(Wy.mk d false 0 0)],(List.set (List.replicate R.length (false,false)) d (true,false)),(.slice (some ⟨b_2,0,none⟩) 1 1),[(b_2,.cells #[.int .i64 (d:Int),.bool false,.int .i64 (0:Int),.int .i64 (0:Int)] 218 (0,0))],svB,Hr_1),BI.init (by rw[List.length_map];exact hs),(by rw[hlen];exact SeenI.init zaa_),zaf_,hqW,hq_1⟩ zl zp zh ?_;rintro ⟨⟨a,W,Bl,K,P,I,a5⟩,hI,hSn,ha,A,C⟩;dsimp only at hI hSn ha A C ⊢;refine Zz 5 ?_;refine e_ (cF_ A el_ rfl) rfl ?_;refine Zi 0 (fun hr_1=>?_) fun hr_1=>?_
 ·refine Zz 12 ?_
  exact aa_ results115 ⟨([],none,0),.inl ⟨rfl,rfl,rfl,fun n f c hc hf=>hI.none (fun w hw=>by have:=(List.getElem?_eq_some_iff.1 hw).1;omega) hto hc hf⟩,by simp[maxLen]⟩ rfl g_ (fun v _ h=>⟨.inl rfl,trivial⟩)
 have hlw_1:a<W.length:=by omega
 obtain⟨E,a9⟩:∃ B,W[a]? = some B:=⟨_,List.getElem?_eq_getElem hlw_1⟩;have hrole:=hI.role a E a9;rw[List.length_map]at hrole;have hmny:=hI.many a E a9;have hWl:=hI.len;rw[List.length_map]at hWl;have hly_1:(Wy.role E)<X.length:=hrole;obtain⟨H,hy_1⟩:∃ B,X[(Wy.role E)]? = some B:=⟨_,List.getElem?_eq_getElem hly_1⟩;have hmy_1:H∈X:=List.mem_of_getElem? hy_1;have hGw:(X.map Grw.st)[Wy.role E]? = some (Grw.st H):=by rw[List.getElem?_map,hy_1];rfl
 have hyl:=hrows H hmy_1;refine Zz 11 ?_;refine e_ (bI_ A el_ gy_ rfl rfl zaa_ zaa_) rfl (e_ (eQ_ A zp isAgg218 gy_ rfl (ny_ _) zad_ (z_ ny_ a9)) rfl (y_ pO_ rfl fun b2=>o_ 0 gy_ rfl rfl rfl rfl rfl rfl (Zz 7 ?_)));refine e_ (ao_ (aI_ rfl rfl rfl (bv_ zaa_ zaa_)) (show _=Value.int .i64 ((Wy.many E+1:Nat):Int) from congrArg _ zaa_)) rfl (Zi 1 (fun hr_2=>?_) fun hr_2=>?_)
 ·refine Zz 18 ?_
  refine O_ (ι:={y:Nat×List Wy×List (Bool×Bool)×Value×Hp×Value×Hp // BI (X.map Grw.st) d y.2.1 a y.1∧SeenI y.2.1 y.2.2.1 X.length∧y.2.1[a]? = some E∧y.1≤List.length (Grw.st H)∧zR 218 4 wyC y.2.2.2.1 y.2.1 y.2.2.2.2.1∧zR 221 2 b2C y.2.2.2.2.2.1 y.2.2.1 y.2.2.2.2.2.2}) (fun y=>[(1,.int .i64 (d:Int)),(2,.int .i64 (most:Int)),(3,zp_ a2 0),(6,.slice none 0 0),(7,y.1.2.2.2.1),(8,y.1.2.2.2.2.2.1),(9,.int .i64 (a:Int)),(10,zp_ b2 0),(46,.slice (Grw.ad H) (List.length (Grw.st H)) (Grw.cap H)),(47,.int .i64 (List.length (Grw.st H):Int)),(48,.int .i64 (y.1.1:Int))]) (fun y=>((b2,.cells #[.int .i64 (Wy.role E:Int),.bool (Wy.strict E),.int .i64 (Wy.before E:Int),.int .i64 (Wy.many E:Int)] 218 (0,0))::((a2,.cells #[.slice rad R.length rcap,.slice a4 X.length a7] 169 (0,0))::(y.1.2.2.2.2.1++y.1.2.2.2.2.2.2)))) (fun y=>[X_ rad (R.flatMap au_),X_ a4 (X.flatMap Grw.cells),iq_ X]) (fun y=>List.length (Grw.st H) - y.1.1) ⟨((0:Nat),W,Bl,K,P,I,a5),hI,hSn,a9,zaa_,A,C⟩ zl zp zh ?_;rintro ⟨⟨k,a3,N,K,P,I,a5⟩,J,M,G,hk,A,C⟩;dsimp only at J M G hk A C ⊢;refine Zi 2 (fun hr_3=>?_) fun hr_3=>?_
  ·refine Zz 8 ?_
   refine e_ (ao_ (aI_ rfl rfl rfl (bv_ zaa_ zaa_)) (show _=Value.int .i64 ((a+1:Nat):Int) from congrArg _ zaa_)) rfl (Zz 3 ?_);exact x_ ⟨(a+1,a3,N,K,P,I,a5),J.next G hGw zaa_,M,(by have:=(List.getElem?_eq_some_iff.1 G).1;dsimp only;omega),A,C⟩ (by have q_1:=J.len;have q_2:=(List.getElem?_eq_some_iff.1 G).1;rw[List.length_map]at q_1;dsimp only;omega) zl (i_ (c_ d_) (B_ (c_ w_) C_)) zh
  have U:k<List.length (Grw.st H):=by omega
  obtain⟨B,T⟩:∃ B,(Grw.st H)[k]? = some B:=⟨_,List.getElem?_eq_getElem U⟩;have hme_1:B∈(Grw.st H):=List.mem_of_getElem? T;have hto_1:=hto _ _ hGw B hme_1;have hto_2:Prod.fst B<X.length:=by have q:=hto_1;rw[List.length_map]at q;exact q
  have hWl_1:=J.len;rw[List.length_map]at hWl_1;have hbl:=M.len;have hal:=(List.getElem?_eq_some_iff.1 G).1;have hbv_1:=M.at' B.1 hto_2;obtain⟨bv,hbv,hbe⟩:∃ bv,N[Prod.fst B]? = some bv∧bv=(nq_ a3 B.1 false,nq_ a3 B.1 true):=⟨_,hbv_1,rfl⟩;refine Zz 10 ?_;refine e_ (U_ runUnderlying210 sizeOf214 rfl rfl (fun v _ h=>aK_ (n:=2) pl_ zad_ (by exact (h.2.2.1 H hmy_1)) T) zaa_ zah_) rfl ?_;refine e_ (al_ (ad:=(Grw.ad H)) (us:=tI_ B) isAgg214 sizeOf214 rfl (fun v _ h=>by exact (h.2.2.1 H hmy_1)) (pl_ _) (z_ pl_ T)) rfl (y_ zeroValue214 rfl fun b_4=>o_ 0 sizeOf214 rfl rfl rfl rfl rfl rfl (Zz 5 ?_));refine E_ (bd_ 1 zZ_ rfl rfl rfl) rfl fun r_1 hr_4=>Zz 1 ?_
  refine aB_ 3 (((Wy.strict E))||(B.2)) (fun r=>[(1,.int .i64 (d:Int)),(2,.int .i64 (most:Int)),(3,zp_ a2 0),(6,.slice none 0 0),(7,K),(8,I),(9,.int .i64 (a:Int)),(10,zp_ b2 0),(46,.slice (Grw.ad H) (List.length (Grw.st H)) (Grw.cap H)),(47,.int .i64 (List.length (Grw.st H):Int)),(48,.int .i64 (k:Int)),(12,zp_ b_4 0),(57,.bool r)]) ?_ fun r_2 a8=>?_
  ·cases r_1
   ·have V:=hr_4
    refine Zz 3 ?_;refine E_ (bd_ 0 zZ_ rfl rfl rfl) rfl fun r_3 O=>Zz 3 ?_
    exact met (zm (jof V O))
   have V:=hr_4;refine Zz 5 ?_;exact met ⟨rfl,rfl,rfl,rfl,rfl,rfl,rfl,rfl,rfl,rfl,rfl,rfl,(s_ rfl (jot V)),trivial⟩
  refine Zz 9 ?_;refine E_ (aT_ rfl rfl) rfl fun r_3 O=>Zz 1 ?_
  refine aB_ 2 ((((Prod.fst B:Nat):Int)==(d:Int))&&((((Wy.strict E))||(B.2)))) (fun r=>[(1,.int .i64 (d:Int)),(2,.int .i64 (most:Int)),(3,zp_ a2 0),(6,.slice none 0 0),(7,K),(8,I),(9,.int .i64 (a:Int)),(10,zp_ b2 0),(46,.slice (Grw.ad H) (List.length (Grw.st H)) (Grw.cap H)),(47,.int .i64 (List.length (Grw.st H):Int)),(48,.int .i64 (k:Int)),(12,zp_ b_4 0),(13,.bool r_2),(64,.bool r)]) ?_ fun r_4 hr_7=>?_
  ·cases r_3
   ·have V:=O
    replace O:=znb O;refine Zz 4 ?_;exact met ⟨rfl,rfl,rfl,rfl,rfl,rfl,rfl,rfl,rfl,rfl,rfl,rfl,rfl,(s_ rfl (jaf V)),trivial⟩
   have V:=O;replace O:=zeb O;refine Zz 5 ?_;exact met ⟨rfl,rfl,rfl,rfl,rfl,rfl,rfl,rfl,rfl,rfl,rfl,rfl,rfl,(s_ rfl (jat V a8)),trivial⟩
  refine Zz 2 ?_;cases r_4
  ·have hcll:=hr_7
   refine Zz 14 ?_;cases r_2
   ·have Y:=a8
    refine Zz 10 ?_;refine e_ (bI_ C jR_ ze_ rfl rfl zaa_ zaa_) rfl (e_ (iM_ (i:=0) jQ_ cv_ rfl rfl zad_) rfl (E_ (dn_ C (c_ (c_ (c_ bi_))) zZ_ rfl (z_ lu_ hbv 0 _ rfl)) rfl fun r_5 Z=>Zz 2 ?_));cases r_5
    ·have a0:=Z
     refine Zz 9 ?_;refine e_ (bI_ C jR_ ze_ rfl rfl zaa_ zaa_) rfl (e_ (iM_ (i:=0) jQ_ cv_ rfl rfl zad_) rfl (eR_ (k:=((Prod.fst B:Nat):Int).toNat*2+0) C (c_ (c_ (c_ bi_))) cv_ rfl rfl zaa_ rfl rfl fun Q hr_2=>?_));have hs_2:=(ij_ b2C 2 lu_ N (Prod.fst B:Nat) 0 bv (true,Prod.snd bv) (.bool true) hbv zad_ rfl).trans (congrArg _ (rfl));have a1:az_ 221 2 I (List.length (List.set N (Prod.fst B:Nat) (true,Prod.snd bv))) (List.flatMap b2C (List.set N (Prod.fst B:Nat) (true,Prod.snd bv))) Q:=by rw[← hs_2,show List.length (List.set N (Prod.fst B:Nat) (true,Prod.snd bv))=N.length from (List.length_set ..)];exact hr_2
     refine Zz 2 ?_;refine A_ (R_ (l_ d_) (R_ (l_ d_) (bg_ (l_ d_)))) (Zz 8 ?_);refine e_ (ao_ (aI_ rfl rfl rfl (bv_ zaa_ zaa_)) (show _=Value.int .i64 ((Wy.many E+1:Nat):Int) from congrArg _ zaa_)) rfl (e_ (u_ ri_ rfl rfl) rfl (G_ el_ gy_ pO_ rfl rfl rfl rfl rfl rfl fun b_5=>?_));refine aO_ (news:=List.flatMap wyC [(Wy.mk (Prod.fst B:Nat) false a (Wy.many E+1:Nat))]) Ao_ A rfl rfl zp rfl (bz_ 0 rfl) (fun u hu=>bn_ vE_ hu) zam_ zao_ rfl fun S Hr_3 hr_3=>?_;have hq_3:=zsa hr_3;refine Zz 3 ?_;refine A_ (R_ (l_ d_) (R_ (l_ d_) (R_ (l_ d_) (bg_ (l_ d_))))) (Zz 5 ?_);exact x_ ⟨(k+1,(a3++[(Wy.mk (Prod.fst B:Nat) false a (Wy.many E+1:Nat))]),(List.set N (Prod.fst B:Nat) (true,Prod.snd bv)),S,Hr_3,I,Q),zaK_,(M.push (b:=false) (bf:=a) (m:=Wy.many E+1) hbv),zbt_,U,hq_3,a1⟩ zab_ zl (i_ (c_ (c_ d_)) (i_ (c_ (c_ d_)) (B_ (c_ (c_ w_)) (c_ C_)))) zh
    exact mo_
   have Y:=a8;refine Zz 12 ?_;refine e_ (bI_ C jR_ ze_ rfl rfl zaa_ zaa_) rfl (e_ (iM_ (i:=1) jQ_ cv_ rfl rfl zad_) rfl (E_ (dn_ C (c_ (c_ (c_ bi_))) zZ_ rfl (z_ lu_ hbv 1 _ rfl)) rfl fun r_5 Z=>Zz 2 ?_));cases r_5
   ·have a0:=Z
    refine Zz 9 ?_;refine e_ (bI_ C jR_ ze_ rfl rfl zaa_ zaa_) rfl (e_ (iM_ (i:=1) jQ_ cv_ rfl rfl zad_) rfl (eR_ (k:=((Prod.fst B:Nat):Int).toNat*2+1) C (c_ (c_ (c_ bi_))) cv_ rfl rfl zaa_ rfl rfl fun Q hr_4=>?_));have hs_2:=(ij_ b2C 2 lu_ N (Prod.fst B:Nat) 1 bv (Prod.fst bv,true) (.bool true) hbv zad_ rfl).trans (congrArg _ (rfl));have a1:az_ 221 2 I (List.length (List.set N (Prod.fst B:Nat) (Prod.fst bv,true))) (List.flatMap b2C (List.set N (Prod.fst B:Nat) (Prod.fst bv,true))) Q:=by rw[← hs_2,show List.length (List.set N (Prod.fst B:Nat) (Prod.fst bv,true))=N.length from (List.length_set ..)];exact hr_4
    refine Zz 2 ?_;refine A_ (R_ (l_ d_) (R_ (l_ d_) (bg_ (l_ d_)))) (Zz 8 ?_);refine e_ (ao_ (aI_ rfl rfl rfl (bv_ zaa_ zaa_)) (show _=Value.int .i64 ((Wy.many E+1:Nat):Int) from congrArg _ zaa_)) rfl (e_ (u_ ri_ rfl rfl) rfl (G_ el_ gy_ pO_ rfl rfl rfl rfl rfl rfl fun b_5=>?_));refine aO_ (news:=List.flatMap wyC [(Wy.mk (Prod.fst B:Nat) true a (Wy.many E+1:Nat))]) Ao_ A rfl rfl zp rfl (bz_ 0 rfl) (fun u hu=>bn_ vE_ hu) zam_ zao_ rfl fun S Hr_3 a8=>?_;have hq_3:=zsa a8;refine Zz 3 ?_;refine A_ (R_ (l_ d_) (R_ (l_ d_) (R_ (l_ d_) (bg_ (l_ d_))))) (Zz 5 ?_);exact x_ ⟨(k+1,(a3++[(Wy.mk (Prod.fst B:Nat) true a (Wy.many E+1:Nat))]),(List.set N (Prod.fst B:Nat) (Prod.fst bv,true)),S,Hr_3,I,Q),zaK_,(M.push (b:=true) (bf:=a) (m:=Wy.many E+1) hbv),zbt_,U,hq_3,a1⟩ zab_ zl (i_ (c_ (c_ d_)) (i_ (c_ (c_ d_)) (B_ (c_ (c_ w_)) (c_ C_)))) zh
   exact mo_
  have hclT:=hr_7;refine Zz 3 ?_;refine A_ (H':=((b_4,.cells #[.int .i64 ((Prod.fst B:Nat):Int),.bool B.2] 214 (0,0))::((b2,.cells #[.int .i64 (Wy.role E:Int),.bool (Wy.strict E),.int .i64 (Wy.before E:Int),.int .i64 (Wy.many E:Int)] 218 (0,0))::((a2,.cells #[.slice rad R.length rcap,.slice a4 X.length a7] 169 (0,0))::(P++(a5++([]:Hp))))))) (List.Perm.cons _ (List.Perm.cons _ (List.Perm.cons _ (List.Perm.append_left P (List.Perm.of_eq (List.append_nil _).symm))))) ?_;refine O_ (ι:={y:Nat×List Int×Value×Hp×Value×Hp // y.1≤a∧(∀ x∈y.2.1,0≤x∧x<(List.length X:Int))∧y.2.1.length+y.1≤a∧zR 218 4 wyC y.2.2.1 a3 y.2.2.2.1∧zR 3 1 cY_ y.2.2.2.2.1 y.2.1 y.2.2.2.2.2}) (fun y=>[(1,.int .i64 (d:Int)),(2,.int .i64 (most:Int)),(3,zp_ a2 0),(6,y.1.2.2.2.2.1),(7,y.1.2.2.1),(8,I),(9,.int .i64 (y.1.1:Int)),(10,zp_ b2 0),(46,.slice (Grw.ad H) (List.length (Grw.st H)) (Grw.cap H)),(47,.int .i64 (List.length (Grw.st H):Int)),(48,.int .i64 (k:Int)),(12,zp_ b_4 0)]) (fun y=>((b_4,.cells #[.int .i64 ((Prod.fst B:Nat):Int),.bool B.2] 214 (0,0))::((b2,.cells #[.int .i64 (Wy.role E:Int),.bool (Wy.strict E),.int .i64 (Wy.before E:Int),.int .i64 (Wy.many E:Int)] 218 (0,0))::((a2,.cells #[.slice rad R.length rcap,.slice a4 X.length a7] 169 (0,0))::(y.1.2.2.2.1++y.1.2.2.2.2.2))))) (fun y=>[X_ rad (R.flatMap au_),X_ a4 (X.flatMap Grw.cells),iq_ X]) (fun y=>y.1.1) ⟨(a,([]:List Int),K,P,(.slice none 0 0),([]:Hp)),(Nat.le_refl _),zaf_,zaf_,A,(az_.nil _ _)⟩ zl zp zh ?_;rintro ⟨⟨a_1,L,K,P,sv_RL,H_RL⟩,ha_1,hLx,hLl,A,b1⟩;dsimp only at ha_1 hLx hLl A b1 ⊢;refine Zi 4 (fun Z=>?_) fun Z=>?_
  ·refine Zz 9 ?_
   refine G_ ap_ P_ bA_ rfl rfl rfl rfl rfl rfl fun b_5=>?_;refine aO_ (news:=List.flatMap cY_ [(d:Int)]) nH_ b1 rfl rfl zp rfl (bz_ 0 rfl) (fun u hu=>bn_ lk_ hu) zam_ zao_ rfl fun S Q hr_9=>?_;have a1:=zsa hr_9;refine Zz 3 ?_;refine A_ (R_ (l_ d_) (R_ (l_ d_) (R_ (l_ d_) (bg_ (l_ d_))))) (Zz 3 ?_);refine f_ (xh_ (L++[(d:Int)]) S Q a1 (by have:=(List.getElem?_eq_some_iff.1 G).1;simp only[List.length_append,List.length_singleton];omega)) rfl (c_ (c_ (c_ (c_ w_)))) zt rfl fun⟨Hv_1,hv_1⟩=>?_;dsimp only;have hqL_1:az_ 3 1 S (List.length (List.reverse (L++[(d:Int)]))) (List.flatMap cY_ (List.reverse (L++[(d:Int)]))) Hv_1:=hv_1;refine Zz 4 ?_;refine A_ (R_ (l_ d_) (R_ (l_ d_) (R_ (l_ d_) (bg_ (l_ d_))))) (Zz 7 ?_);refine bL_ hqL_1 (c_ (c_ (c_ (c_ w_)))) fun lad lcap hlad hclad hmlad hzlad=>?_;have hln:lad≠none:=fun e=>by have q:=hzlad e;have q_1:=hclad;rw[q]at q_1;simp only[List.length_reverse,List.length_append,List.length_singleton]at q_1;omega
   exact aa_ results115 ⟨((List.reverse (L++[(d:Int)])),lad,lcap),.inr ⟨hln,⟨_,J.found G hGw T (by have F:=hclT;simp only[Bool.and_eq_true,beq_iff_eq]at F;omega) (by have F:=hclT;simp only[Bool.and_eq_true]at F;exact F.2)⟩,(fun x hx=>by rw[List.mem_reverse]at hx;rw[List.length_map];rcases List.mem_append.1 hx with hx|hx;exact hLx x hx;rw[List.mem_singleton]at hx;subst hx;omega),(by have:=J.len;rw[List.length_map]at this;simp only[List.length_reverse,List.length_append,List.length_singleton,List.length_map];omega)⟩,hclad,hmlad,hzlad⟩ (ea_ rfl hlad) g_ zf
  have hlw_2:a_1<a3.length:=by have:=(List.getElem?_eq_some_iff.1 G).1;omega
  obtain⟨b0,a6⟩:∃ B,a3[a_1]? = some B:=⟨_,List.getElem?_eq_getElem hlw_2⟩;refine Zz 11 ?_;refine e_ (bI_ A el_ gy_ rfl rfl zaa_ zaa_) rfl (Zz 1 ?_);refine e_ (dn_ A zp aF_ rfl (z_ ny_ a6 0 _ rfl)) rfl (G_ ap_ P_ bA_ rfl rfl rfl rfl rfl rfl fun b_5=>?_);refine aO_ (news:=List.flatMap cY_ [(Wy.role b0:Int)]) nH_ b1 rfl rfl zp rfl (bz_ 0 rfl) (fun u hu=>bn_ lk_ hu) zam_ zao_ rfl fun S Q O=>?_;have a1:=zsa O;refine Zz 3 ?_;refine A_ (R_ (l_ d_) (R_ (l_ d_) (R_ (l_ d_) (bg_ (l_ d_))))) (Zz 3 ?_);refine e_ (bI_ A el_ gy_ rfl rfl zaa_ zaa_) rfl (Zz 1 ?_);refine e_ (dn_ A zp aF_ rfl (z_ ny_ a6 2 _ rfl)) rfl (Zz 3 ?_);exact x_ ⟨((Wy.before b0),(L++[(Wy.role b0:Int)]),K,P,S,Q),(by have:=J.bef a_1 b0 a6 zaa_;omega),(fun x hx=>by rcases List.mem_append.1 hx with hx|hx;exact hLx x hx;rw[List.mem_singleton]at hx;subst hx;have:=J.role a_1 b0 a6;rw[List.length_map]at this;omega),(by have:=J.bef a_1 b0 a6 zaa_;simp only[List.length_append,List.length_singleton];omega),A,a1⟩ (by have:=J.bef a_1 b0 a6 zaa_;dsimp only;omega) zl (i_ (c_ d_) (i_ (c_ d_) (i_ (c_ d_) (B_ (c_ bi_) C_)))) zh
 refine Zz 12 ?_;exact aa_ results115 ⟨([],none,0),.inl ⟨rfl,rfl,rfl,fun n f c hc hf=>hI.none (fun w hw=>by rw[a9]at hw;simp only[Option.some.injEq]at hw;subst hw;omega) hto hc hf⟩,by simp[maxLen]⟩ rfl g_ (fun v _ h=>⟨.inl rfl,trivial⟩)
theorem wx_ (x:Ax):∀ i,(x.chs i).length≤i
 | 0=>by simp[Ax.chs]
 | i+1=>by
   have:=wx_ x i;rw[Ax.chs,List.length_append]
   split
   · split<;>simp<;>omega
   · simp;omega
theorem ur_ {x:Ax} (h:x.check=0):x.steps.length≤4:=by
 unfold Ax.steps
 split
 ·split
  ·split<;>simp
  simp
 split
 ·rename_i d
  have:=(Ax.good_of h).chain d;have:=wx_ x x.roles.length;omega
 simp
theorem op_:∀ (l:List Ax),(∀ x∈l,x.check=0)→(do_ l).length≤4*l.length
  | [],_=>by simp[do_]
  | x::l,h=>by
    have e:=op_ l fun y d=>h y (List.mem_cons_of_mem _ d)
    have m:=ur_ (h x zaf_);unfold do_ at *;rw[List.flatMap_cons,List.length_append,List.length_cons];omega
theorem MmO.ksl {v:Nat} {ks:List (Str×Nat)} {S:List RSt} {H:Hp} (h:MmO v ks S H) (y:Frm ks S):ks.length≤S.length:=by
  obtain⟨es,c,E,_,hE⟩:=h
  have e:ks.map (·.1) ⊆ S.map (·.1):=fun k x=>by
    obtain⟨s,d,m⟩:=y k x;exact List.mem_map.2 ⟨_,m,rfl⟩
  have:=hE.nd.length_le_of_subset e;rwa [List.length_map,List.length_map]at this
def jt_ (G:List (List (Nat×Bool))) (i most:Nat) (L:List Int) (ad:Ao) (cap:Nat):Prop :=
  (L=[]∧ad=none∧cap=0∧most=G.length+1∧∀ (n:Nat) (f:Nat→Nat) (c:Nat→Bool),Clw (gE G) n f c→f 0<i→most≤n) ∨
  (ad≠none∧most≤2*G.length+1∧(∃ n,Clo (gE G) n)∧(∀ x∈L,0≤x∧x<(G.length:Int))∧L.length≤2*G.length+1)
theorem jt_.init {G:List (List (Nat×Bool))}:jt_ G 0 (G.length+1) [] none 0:=.inl ⟨rfl,rfl,rfl,rfl,fun _ _ _ _ h=>by omega⟩
theorem jt_.skip {G:List (List (Nat×Bool))} {i most:Nat} {L M:List Int} {ad:Ao} {cap cp:Nat} (h:jt_ G i most L ad cap) (d:CirR G i most M none cp):jt_ G (i+1) most L ad cap:=by
 rcases h with⟨x,B,A,y,v⟩|h
 ·rcases d with⟨_,_,_,d⟩|⟨d,_⟩
  ·refine .inl ⟨x,B,A,y,fun n f c m C=>?_⟩
   by_cases e:f 0=i
   ·exact d n f c m e
   exact v n f c m zaa_
  exact absurd rfl d
 exact .inr h
theorem jt_.take {G:List (List (Nat×Bool))} {i most:Nat} {L M:List Int} {ad e:Ao} {cap cp:Nat} (h:jt_ G i most L ad cap) (d:CirR G i most M e cp) (A:e≠none):jt_ G (i+1) M.length M e cp:=by
 rcases d with⟨_,d,_⟩|⟨v,x,y,m⟩
 ·exact absurd d A
 exact .inr ⟨v,m,x,y,m⟩
theorem jt_.none {G:List (List (Nat×Bool))} {most:Nat} {L:List Int} {cap:Nat} (h:jt_ G G.length most L none cap):∀ n,¬ Clo (gE G) n:=by
 rcases h with⟨_,_,_,v,e⟩|⟨h,_⟩
 ·exact AB_ fun n f c d m=>by have:=e n f c d m;omega
 exact absurd rfl h
theorem jt_.some {G:List (List (Nat×Bool))} {i most:Nat} {L:List Int} {ad:Ao} {cap:Nat} (h:jt_ G i most L ad cap) (v:ad≠Option.none):(∃ n,Clo (gE G) n)∧(∀ x∈L,0≤x∧x<(G.length:Int))∧L.length≤2*G.length+1:=by
 rcases h with⟨_,h,_⟩|⟨_,_,d,e,m⟩
 ·exact absurd h v
 exact⟨d,e,m⟩
theorem jt_.most {G:List (List (Nat×Bool))} {i most:Nat} {L:List Int} {ad:Ao} {cap:Nat} (h:jt_ G i most L ad cap):most≤2*G.length+1:=by
  rcases h with⟨_,_,_,h,_⟩|⟨_,h,_⟩<;>omega
def RlR (l:List Ax) (e:Int):Prop:=(e=0∧¬ yv_ (do_ l))∨(e=60∧yv_ (do_ l))
theorem RlR.uniq {l:List Ax} {a b:Int} (h:RlR l a) (k:RlR l b):a=b:=by
 rcases h with⟨rfl,h⟩|⟨rfl,h⟩<;>rcases k with⟨rfl,k⟩|⟨rfl,k⟩
 ·rfl
 ·exact absurd k h
 ·exact absurd h k
 rfl
theorem RlR.sub {l m:List Ax} (h:RlR m 0) (d:∀ x∈l,x∈m):RlR l 0:=by
 rcases h with⟨_,h⟩|⟨h,_⟩
 ·exact .inl ⟨rfl,fun q=>h (q.sub (us_ d))⟩
 omega
theorem wK_ {P:Program} {N:Nf} {fr:Fr} {H:Hp} {Γ:List Fct} {ty t C e:TypeId} {x y:Operand} {ad:Ao} {m c:Nat} (A:P.underlying t=some (.slice e)) (B:Fr.ev fr x=some (.slice ad m c)) (E:Fr.ev fr y=some (.slice none 0 0)):Yld P N fr H Γ (.binOp .neq t x y C) ty (.bool (!decide (ad=none))) :=
  fun a v d _ _ _ _ _=>by
    have h:decide (ad=none)=ad.isNone:=by cases ad<;>simp
    rw[h];simp[execOp,d.ev B,d.ev E,eqGuard,binOp,wo_ v.w t e ad m c A]
theorem xf_ (l:List Ax) (ad:Ao) (cap:Nat) (Z:∀ x∈l,x.ok) (hC:∀ x∈l,x.check=0) (hll:l.length≤20000):Tri prog 52 #[.slice ad l.length cap] [] [ch_ ad l,bN_] (fun y:{y:Value×Int // RlR l y.2}=>.tuple #[y.1.1,.int .i64 y.1.2]) (fun _=>[]) (fun _=>[]):=by
 refine j_ func52 rfl rfl ntmps52 rfl fun v_1=>?_;refine Zz 10 ?_;refine f_ (xe_ l ad cap Z hC zaa_) rfl g_ zf rfl fun _=>Zz 6 ?_
 refine e_ (ao_ (cl_ rfl rfl) (show _=Value.bool false from congrArg Value.bool zad_)) rfl (Zz 8 ?_);refine f_ (Br_ l ad cap Z hC zaa_) rfl g_ zf rfl fun⟨⟨mb,ks,Hm⟩,hM,R⟩=>?_;dsimp only;simp only[List.append_nil];dsimp only at hM R;have hSl:=op_ l hC;have hkl:=MmO.ksl hM R;refine f_ (uM_ mb ks (do_ l) Hm hM R zaa_ zaa_) rfl aj_ zt rfl fun⟨⟨X,rad,rcap,H,E⟩,hG,a3,hXk,⟨hrs_1,hrs_2,hrs_3⟩,⟨hgs_1,hgs_2,hgs_3⟩⟩=>?_;dsimp only;dsimp only at hG a3 hXk;have hrl:List.length (bJ_ (List.map (fun p:Str×Nat=>p.1) ks))=ks.length:=by rw[List.length_mergeSort,List.length_map]
 have a2:List.length (X.map Grw.st)=X.length:=List.length_map ..;refine y_ zeroValue169 rfl fun K=>o_ 0 sizeOf169 rfl rfl rfl rfl rfl rfl (Zz 7 ?_)
 refine e_ (ao_ (aI_ rfl rfl rfl (bv_ zaa_ zaa_)) (show _=Value.int .i64 ((List.length X+1:Nat):Int) from congrArg _ zaa_)) rfl (Zz 18 ?_);refine O_ (ι:={y:Nat×Nat×List Int×Ao×Nat // y.1≤List.length (bJ_ (List.map (fun p:Str×Nat=>p.1) ks))∧jt_ (X.map Grw.st) y.1 y.2.1 y.2.2.1 y.2.2.2.1 y.2.2.2.2}) (fun y=>[(2,.slice none 0 0),(3,.int .i64 0),(5,zp_ K 0),(6,.int .i64 (y.1.2.1:Int)),(7,.slice y.1.2.2.2.1 y.1.2.2.1.length y.1.2.2.2.2),(26,.int .i64 (List.length (bJ_ (List.map (fun p:Str×Nat=>p.1) ks)):Int)),(27,.int .i64 (y.1.1:Int))]) (fun y=>((K,.cells #[.slice rad (List.length (bJ_ (List.map (fun p:Str×Nat=>p.1) ks))) rcap,.slice H X.length E] 169 (0,0))::[])) (fun y=>[X_ y.1.2.2.2.1 (y.1.2.2.1.flatMap cY_),X_ rad (List.flatMap au_ (bJ_ (List.map (fun p:Str×Nat=>p.1) ks))),X_ H (X.flatMap Grw.cells),iq_ X]) (fun y=>List.length (bJ_ (List.map (fun p:Str×Nat=>p.1) ks)) - y.1.1) ⟨((0:Nat),(List.length X+1),([]:List Int),none,0),zaf_,(by have q:=jt_.init (G:=(X.map Grw.st));rw[a2]at q;exact q)⟩ zl d_ (fun v _ h=>by exact⟨(.inl rfl),h.1,h.2.1,h.2.2.1,trivial⟩) ?_;rintro ⟨⟨i,mo,L,lad,lcap⟩,Y,U⟩;dsimp only at Y U ⊢;refine Zi 2 (fun B=>?_) fun B=>?_
 ·refine Zz 10 ?_
  refine E_ (si_ (ad:=lad) underlying58 rfl rfl) rfl fun a9 d=>Zz 2 ?_
  cases a9
  ·replace d:=zdf d
   have a1:=U.some d;refine Zz 12 ?_;refine O_ (ι:={y:Nat×List Str×Value×Hp // y.1≤List.length L∧y.2.1.length≤y.1∧zR 9 1 au_ y.2.2.1 y.2.1 y.2.2.2}) (fun y=>[(2,y.1.2.2.1),(3,.int .i64 0),(5,zp_ K 0),(6,.int .i64 (mo:Int)),(7,.slice lad L.length lcap),(26,.int .i64 (List.length (bJ_ (List.map (fun p:Str×Nat=>p.1) ks)):Int)),(27,.int .i64 (i:Int)),(42,.slice lad L.length lcap),(43,.int .i64 (List.length L:Int)),(44,.int .i64 (y.1.1:Int))]) (fun y=>((K,.cells #[.slice rad (List.length (bJ_ (List.map (fun p:Str×Nat=>p.1) ks))) rcap,.slice H X.length E] 169 (0,0))::y.1.2.2.2)) (fun y=>[X_ lad (L.flatMap cY_),X_ rad (List.flatMap au_ (bJ_ (List.map (fun p:Str×Nat=>p.1) ks))),X_ H (X.flatMap Grw.cells),iq_ X]) (fun y=>L.length - y.1.1) ⟨((0:Nat),([]:List Str),(.slice none 0 0),[]),by simp,zaf_,(az_.nil _ _)⟩ zl d_ zh ?_;rintro ⟨⟨k,C,sv_RC,H_RC⟩,a5,hCl,m⟩;dsimp only at a5 hCl m ⊢;refine Zi 2 (fun A=>?_) fun A=>?_
   ·refine Zz 14 ?_
    refine bL_ m C_ fun cad ccap a7 hccad hmcad hzcad=>?_;exact fO_ results52 ⟨(_,60),.inr ⟨rfl,hG.circ.2 a1.1⟩⟩ (ea_ rfl a7) rfl rfl g_ zt
   have F:k<L.length:=by omega
   obtain⟨N,b0⟩:∃ I,L[k]? = some I:=⟨_,List.getElem?_eq_getElem F⟩;have T:N∈L:=List.mem_of_getElem? b0;have hzb:=a1.2.1 N T;rw[a2]at hzb;have W:(Int.toNat N)<List.length (bJ_ (List.map (fun p:Str×Nat=>p.1) ks)):=by omega
   obtain⟨rz,hrz⟩:∃ I,(bJ_ (List.map (fun p:Str×Nat=>p.1) ks))[(Int.toNat N)]? = some I:=⟨_,List.getElem?_eq_getElem W⟩;refine Zz 22 ?_;refine G_ t_ M_ aw_ rfl rfl rfl rfl rfl rfl fun b_2=>?_;refine aO_ (news:=List.flatMap au_ [rz]) es_ m rfl rfl zp rfl (bz_ 0 rfl) (fun u hu=>bn_ dx_ hu) zam_ zao_ rfl fun V a0 B=>?_;refine A_ List.perm_append_comm ?_;have a8:=zsa B;refine Zz 8 ?_;exact x_ ⟨(k+1,(C++[rz]),V,a0),F,zbx_,a8⟩ zab_ zl (i_ (c_ d_) C_) zh
  replace d:=zdt d;refine Zz 8 ?_;exact fO_ results52 ⟨(.slice none 0 0,0),.inl ⟨rfl,fun q=>by obtain⟨n,hn⟩:=hG.circ.1 q;exact jt_.none (by have a6:=U;rw[d,show i=List.length (X.map Grw.st) from zaa_]at a6;exact a6) n hn⟩⟩ rfl rfl rfl g_ zt
 have e:i<List.length (bJ_ (List.map (fun p:Str×Nat=>p.1) ks)):=by omega
 obtain⟨a9,d⟩:∃ I,(bJ_ (List.map (fun p:Str×Nat=>p.1) ks))[i]? = some I:=⟨_,List.getElem?_eq_getElem e⟩;refine Zz 19 ?_;refine f_ (AD_ (bJ_ (List.map (fun p:Str×Nat=>p.1) ks)) rad rcap X H E i mo zaa_ zaa_ hG.to zaa_ (fun z hz=>by have:=a3 z hz;omega) (by have:=U.most;omega)) rfl g_ zf rfl fun⟨⟨M,P,a4⟩,J,S,Q,O⟩=>?_;dsimp only;dsimp only at J S Q O;refine Zz 6 ?_;refine E_ (wK_ (ad:=P) underlying58 rfl rfl) rfl fun r_2 A=>Zz 2 ?_
 cases r_2
 ·refine Zz 8 ?_
  exact x_ ⟨(i+1,mo,L,lad,lcap),e,(U.skip (by have q:=J;rw[show P=none from by simpa using A]at q;exact q))⟩ zab_ zl d_ (fun _ _ h=>h.2)
 refine Zz 14 ?_;exact x_ ⟨(i+1,M.length,M,P,a4),e,(U.take J zaS_)⟩ zab_ zl d_ zf
def qT (x w:Tre):Bool:=Con.cmp x.con w.con==0
def jZ_ (t:Tre):Prop:=t.wf∧t.con.sz≤1000000
theorem CU_ (x w:Tre) (e:jZ_ x) (d:jZ_ w):Tri prog 161 #[Tre.val x,Tre.val w] [] [Tre.memF x,Tre.memF w] (fun _:Unit=>.bool (qT x w)) (fun _=>[]) (fun _=>[]):=by
  refine j_ func161 rfl rfl ntmps161 rfl fun A=>?_;refine Zz 2 ?_;refine K_ rfl rfl fun m=>K_ rfl rfl fun v=>Zz 7 ?_
  refine f_ (lX_ _ x w (Nat.le_refl _) e.1 d.1 e.2 d.2) rfl g_ zf rfl fun _=>E_ (aT_ rfl rfl) rfl fun y h=>Zz 4 ?_
  exact aa_ results161 () (s_ rfl (by rw[← h];rfl)) g_ zt
theorem yf_ (e:List Tre) (sv:Value) (Hr:Hp) (hr:zR 156 7 Tre.cells sv e Hr) (U:∀ t∈e,jZ_ t) (hl:e.length≤1000000):Tri prog 160 #[sv,.func (.func 161) #[] #[]] Hr [cN_ e] (fun y:{y:Value×Hp // zR 156 7 Tre.cells y.1 (cpL qT e) y.2}=>y.1.1) (fun y=>y.1.2) (fun _=>[]):=by
 refine j_ func160 rfl rfl ntmps160 rfl fun v_1=>?_;refine Zz 9 ?_;refine e_ (cF_ hr aW_ rfl) rfl ?_;refine Zi 0 (fun K=>?_) fun K=>?_
 ·refine Zz 12 ?_
  refine O_ (ι:={y:Nat×Value×Hp // y.1+1≤List.length e∧cpL qT (List.take (y.1+1) e)=List.take (y.1+1) e∧zR 156 7 Tre.cells y.2.1 e y.2.2}) (fun y=>[(0,y.1.2.1),(1,.func (.func 161) #[] #[]),(5,.int .i64 ((y.1.1+1:Nat):Int))]) (fun y=>(y.1.2.2)) (fun y=>[cN_ e]) (fun y=>e.length - y.1.1) ⟨((0:Nat),sv,Hr),zaa_,(by obtain⟨t_1,tl,rfl⟩:=List.exists_cons_of_length_pos (show 0<e.length by omega);rfl),hr⟩ zl aj_ zh ?_;rintro ⟨⟨k,B,N⟩,hk,L,d⟩;dsimp only at hk L d ⊢;refine Zz 5 ?_;refine e_ (cF_ d aW_ rfl) rfl ?_;refine Zi 0 (fun b1=>?_) fun b1=>?_
  ·refine Zz 12 ?_
   have x:cpL qT e=e:=(by first|exact qN_ zaa_|(have q:=L;rw[List.take_of_length_le zaa_]at q;exact q));exact aa_ results160 ⟨(B,N),by rw[x];exact d⟩ rfl aj_ zt
  refine Zz 8 ?_;have O:(k+1:Nat)<e.length:=by omega
  obtain⟨T,I⟩:∃ x,e[(k+1:Nat)]? = some x:=⟨_,List.getElem?_eq_getElem O⟩;have Q:T∈e:=List.mem_of_getElem? I;have Y:k<e.length:=by omega
  obtain⟨S,G⟩:∃ x,e[k]? = some x:=⟨_,List.getElem?_eq_getElem Y⟩;have R:S∈e:=List.mem_of_getElem? G;refine Zz 1 ?_;refine D_ 1 [0,1,2,3,4,5,6,7,8,9] zk zs (Zz 3 ?_);refine T_ rfl (bI_ d aW_ aJ_ rfl rfl zaa_ zaa_) rfl (T_ rfl (eQ_ d aj_ hD_ aJ_ rfl (Tre.cells_len _) zad_ (z_ Tre.cells_len I)) rfl (Zz 2 ?_));refine T_ rfl (ao_ (aI_ rfl rfl rfl (bv_ zaa_ zaa_)) (show _=Value.int .i64 (k:Int) from congrArg _ zaa_)) rfl (T_ rfl (bI_ d aW_ aJ_ rfl rfl zaa_ zaa_) rfl (T_ rfl (eQ_ d aj_ hD_ aJ_ rfl (Tre.cells_len _) zad_ (z_ Tre.cells_len G)) rfl (bV_ (p_ 10 rfl zk (bS_ (CU_ T S (U T Q) (U S R)) rfl rfl g_ (fun v _ h=>by exact⟨(h.1 T Q),(h.1 S R),trivial⟩) rfl fun r_1 W=>Zz 5 ?_)))));cases r_1
  ·refine Zz 5 ?_
   refine e_ (ao_ (aI_ rfl rfl rfl (bv_ zaa_ zaa_)) (show _=Value.int .i64 ((k+1+1:Nat):Int) from congrArg _ zaa_)) rfl (Zz 3 ?_);exact x_ ⟨(k+1,B,N),(by have:=O;omega),(At_ L G I W),d⟩ zab_ zl aj_ zh
  refine Zz 5 ?_;refine e_ (sh_ (k:=(k+1:Nat)) d aW_ aJ_ rfl rfl zaa_) rfl (Zz 10 ?_);refine O_ (ι:={y:List Tre×Nat×Nat×Value×Hp // CmI qT e y.1 y.2.1 (k+1+y.2.2.1+1)∧zR 156 7 Tre.cells y.2.2.2.1 y.1 y.2.2.2.2}) (fun y=>[(0,y.1.2.2.2.1),(1,.func (.func 161) #[] #[]),(5,.int .i64 (y.1.2.1:Int)),(6,svT y.1.2.2.2.1 e.length (k+1) 7),(7,.int .i64 ((y.1.2.2.1+1:Nat):Int))]) (fun y=>(y.1.2.2.2.2)) (fun y=>[cN_ e]) (fun y=>e.length - y.1.2.2.1) ⟨(e,(k+1),(0:Nat),B,N),(CmI.none L G I W),d⟩ zl aj_ zh ?_;rintro ⟨⟨M,E,m,B,N⟩,J,d⟩;dsimp only at J d ⊢;have hMl:=J.len;have hpl:=J.pl;have hkp:=J.kp;refine Zz 5 ?_;refine e_ (wL_ aW_ rfl) rfl ?_;refine Zi 0 (fun a8=>?_) fun a8=>?_
  ·refine Zz 9 ?_
   refine e_ (sh_ (k:=E) d aW_ aJ_ rfl rfl zaa_) rfl (uL_ (k:=E) d aj_ aW_ cy_ rfl rfl zad_ rfl zaa_ fun a4 zs_1 hz_2 b2=>A_ dY_ (Zz 6 ?_));obtain⟨a3,F,A⟩:=cutRow (P:=prog) (k:=E) b2 zaa_ zaa_;refine e_ (A aW_ aJ_ rfl rfl) rfl (Zz 4 ?_);have a6:CmI qT e M E e.length:=by have q:=J;rw[show k+1+m+1=e.length by omega]at q;exact q
   have e_2:=a6.done;have Z:(M.take E).length=E:=by rw[List.length_take];omega
   exact aa_ results160 ⟨(a3,a4),by show az_ 156 7 _ _ _ _;rw[← e_2,Z,← nG_ Tre.cells 7 Tre.cells_len];have q:=F;rw[List.take_append_of_le_length (by rw[List.length_take,dU_ Tre.cells 7 Tre.cells_len];omega),List.take_take,Nat.min_self]at q;exact q⟩ rfl aj_ zt
  refine Zz 8 ?_;have a0:(k+1+m:Nat)<M.length:=by omega
  obtain⟨V,H⟩:∃ x,M[(k+1+m:Nat)]? = some x:=⟨_,List.getElem?_eq_getElem a0⟩;have a2:(k+1+(m+1):Nat)<M.length:=by omega
  obtain⟨C,A⟩:∃ x,M[(k+1+(m+1):Nat)]? = some x:=⟨_,List.getElem?_eq_getElem a2⟩;have a5:V∈e:=by have q:=J.rest (k+1+m) zaa_;rw[H]at q;exact List.mem_of_getElem? q.symm
  have b0:C∈e:=by have q:=J.rest (k+1+(m+1)) zaa_;rw[A]at q;exact List.mem_of_getElem? q.symm
  refine Zz 1 ?_;refine D_ 2 [0,1,2,3,4,5,6,7,8,9] zk zs (Zz 3 ?_);refine T_ rfl (rc_ (j:=(m+1:Nat)) aW_ aJ_ rfl rfl zaa_) rfl (T_ rfl (eQ_ d aj_ hD_ aJ_ rfl (Tre.cells_len _) zad_ (z_ Tre.cells_len A)) rfl (Zz 2 ?_));refine T_ rfl (ao_ (aI_ rfl rfl rfl (bv_ zaa_ zaa_)) (show _=Value.int .i64 (m:Int) from congrArg _ zaa_)) rfl (T_ rfl (rc_ (j:=m) aW_ aJ_ rfl rfl zaa_) rfl (T_ rfl (eQ_ d aj_ hD_ aJ_ rfl (Tre.cells_len _) zad_ (z_ Tre.cells_len H)) rfl (bV_ (p_ 10 rfl zk (bS_ (CU_ C V (U C b0) (U V a5)) rfl rfl g_ (fun v _ h=>by exact⟨(h.1 C b0),(h.1 V a5),trivial⟩) rfl fun r_2 F=>Zz 3 ?_)))));refine D_ 0 [11] zk zs (T_ rfl (aR_ rfl) rfl (Zz 3 ?_));cases r_2
  ·refine Zz 2 ?_
   have a1:E<M.length:=by omega
   obtain⟨o_1,ho_1⟩:∃ x,M[E]? = some x:=⟨_,List.getElem?_eq_getElem a1⟩;refine Zz 5 ?_;refine e_ (rc_ (j:=(m+1:Nat)) aW_ aJ_ rfl rfl zaa_) rfl (e_ (eQ_ d aj_ hD_ aJ_ rfl (Tre.cells_len _) zad_ (z_ Tre.cells_len A)) rfl (e_ (bI_ d aW_ aJ_ rfl rfl zaa_ zaa_) rfl (uI_ (k:=E*7) (us:=Tre.cells C) d aj_ aJ_ rfl rfl zaa_ (Tre.cells_len _) zad_ (Tre.cells_one _) fun X K=>?_)));have a7:=wl_ Tre.cells 7 Tre.cells_len M E C zaa_;have a9:az_ 156 7 B (List.length (List.set M E C)) (List.flatMap Tre.cells (List.set M E C)) X:=by rw[List.length_set,← a7];exact K
   refine A_ dY_ (Zz 4 ?_);refine e_ (ao_ (aI_ rfl rfl rfl (bv_ zaa_ zaa_)) (show _=Value.int .i64 ((E+1:Nat):Int) from congrArg _ zaa_)) rfl (Zz 5 ?_);refine e_ (ao_ (aI_ rfl rfl rfl (bv_ zaa_ zaa_)) (show _=Value.int .i64 ((m+1+1:Nat):Int) from congrArg _ zaa_)) rfl (Zz 3 ?_);exact x_ ⟨((List.set M E C),E+1,m+1,B,X),(J.keep H A zaJ_),a9⟩ (by have:=J.pl;have:=J.kp;dsimp only;omega) zl aj_ zh
  refine Zz 5 ?_;refine e_ (ao_ (aI_ rfl rfl rfl (bv_ zaa_ zaa_)) (show _=Value.int .i64 ((m+1+1:Nat):Int) from congrArg _ zaa_)) rfl (Zz 3 ?_);exact x_ ⟨(M,E,m+1,B,N),(J.skip H A zaJ_),d⟩ (by have:=J.pl;have:=J.kp;dsimp only;omega) zl aj_ zh
 refine Zz 10 ?_;have x:cpL qT e=e:=(by first|exact qN_ zaa_|(have q:=L;rw[List.take_of_length_le zaa_]at q;exact q));exact aa_ results160 ⟨(sv,Hr),by rw[x];exact hr⟩ rfl aj_ zt
end Go.Proofs.YthmjeabeoodghaaGreatDoor
namespace Go.Proofs.YthmjeabeoodghaaGreatDoor
open Go Go.Sx Go.Proofs Tryz
attribute [local irreducible] Code.wp wpList wpAnyH
open Go.Vs Go.Shelf Go.RowKit
theorem Con.mem_sl:∀ (n:Nat) (c:Con),c.sz≤n→∀ (v:Vw) (q:Prop),c.mem v→c.mem ⟨v.im,v.w,q⟩
  | 0,c,h=>by have:=c.sz_pos;omega
  | n+1,c,h=>fun v q hm=>by
    rw[Con.mem_iff]at hm ⊢;exact⟨hm.1,fun p d=>Con.mem_sl n p zbo_ v q (hm.2 p d)⟩
theorem Tre.mem_sl:∀ (n:Nat) (t:Tre),t.tz≤n→∀ (v:Vw) (q:Prop),t.mem v→t.mem ⟨v.im,v.w,q⟩
  | 0,t,h=>by have:=t.tz_pos;omega
  | n+1,t,h=>fun v q hm=>by
    rw[Tre.mem_iff]at hm ⊢;exact⟨Con.mem_sl _ _ (Nat.le_refl _) v q hm.1,hm.2.1,fun p d=>Tre.mem_sl n p (by have:=Tre.tz_part d;omega) v q (hm.2.2 p d)⟩
def lY_ (x w:Tre):Int:=Con.cmp x.con w.con
theorem wkoT:Wko lY_ where
  irr x:=by unfold lY_;rw[Con.cmp_self];omega
  tr x y z h1 h2:=Con.cmp_lt h1 h2
  ntr x y z h1 h2 h:=by
    unfold lY_ at *;have d:=Con.cmp_anti x.con y.con;have e:=Con.cmp_anti y.con z.con;have m:=Con.cmp_anti x.con z.con;have:=Con.cmp_tr z.con y.con x.con;unfold Tr3 at this;omega
theorem Bu_ {sv:Value} {d:List Tre} {Hr:Hp} (h:az_ 156 7 sv d.length (d.flatMap Tre.cells) Hr) (hl:d.length≤1000000) (e:∀ t∈d,jZ_ t) :
    Tri prog 159 #[sv,.func (.func 101) #[] #[]] Hr [cN_ d] (fun _:{y:Hp×List Tre // az_ 156 7 sv y.2.length (y.2.flatMap Tre.cells) y.1∧y.2.Perm d∧y.2.Pairwise fun a b=>¬ lY_ b a<0}=>.tuple #[]) (fun y=>y.1.1) (fun _=>[]) :=
  sortG (Γ:=[cN_ d]) Tryz.sortTr Tre.cells_len zad_ Tre.cells_one hD_ aJ_ wkoT (callable func101 rfl rfl) (callable func159 rfl rfl)
    (fun v q B=>⟨fun t C=>Tre.mem_sl _ t (Nat.le_refl _) v q (B.1 t C),trivial⟩) h zaa_
    (fun x m y A=>by
      have T:=lX_ _ x y (Nat.le_refl _) (e x m).1 (e y A).1 (e x m).2 (e y A).2;exact⟨T.callable,fun v a b=>T.run v a ⟨b.1 x m,b.1 y A,trivial⟩⟩)
theorem wr_:∀ (l:List Tre) (x:Tre),(x::l).Pairwise (fun a b=>¬ lY_ b a<0)→((cpG qT x l).Pairwise fun a b=>lY_ a b<0)∧(∀ z∈cpG qT x l,lY_ x z<0)∧(∀ z∈l,z.con.core=x.con.core∨∃ w∈cpG qT x l,w.con.core=z.con.core)
 | [],x,_=>by simp[cpG]
 | y::l,x,h=>by
   rw[List.pairwise_cons]at h;have F:¬ lY_ y x<0:=h.1 y zaf_;obtain⟨C,A,E⟩:=wr_ l y h.2;simp only[cpG]
   by_cases e:qT y x=true
   · rw[if_pos e]
     have B:Con.cmp y.con x.con=0:=by simpa [qT] using e
     have v:=(Con.cmp_zero _ _).1 B;refine⟨C,fun z d=>?_,fun z d=>?_⟩
     · have:=A z d
       unfold lY_ at *;rwa [Con.cmp_of v.symm (rfl:z.con.core=z.con.core)]
     · rcases List.mem_cons.1 d with rfl|d
       · exact .inl v
       · rcases E z d with q|q
         · exact .inl (q.trans v)
         · exact .inr q
   · rw[if_neg e]
     have B:Con.cmp y.con x.con≠0:=by simpa [qT] using e
     have m:lY_ x y<0:=by
       have:=Con.cmp_anti x.con y.con;unfold lY_ at *;omega
     refine⟨by rw[List.pairwise_cons];exact⟨A,C⟩,fun z d=>?_,fun z d=>?_⟩
     · rcases List.mem_cons.1 d with rfl|d
       · exact m
       · exact Con.cmp_lt m (A z d)
     · rcases List.mem_cons.1 d with rfl|d
       · exact .inr ⟨z,by simp,rfl⟩
       · rcases E z d with q|⟨w,G,q⟩
         · exact .inr ⟨y,by simp,q.symm⟩
         · exact .inr ⟨w,List.mem_cons_of_mem _ G,q⟩
theorem Cr_ {S:List Tre} (h:S.Pairwise fun a b=>¬ lY_ b a<0):Con.SrC ((cpL qT S).map Tre.con)∧∀ z,z∈((cpL qT S).map Tre.con).map Con.core↔z∈(S.map Tre.con).map Con.core:=by
 cases S with
 | nil=>exact⟨List.Pairwise.nil,fun z=>Iff.rfl⟩
 | cons x l =>
   obtain⟨m,y,v⟩:=wr_ l x h;refine⟨?_,fun z=>⟨fun e=>?_,fun e=>?_⟩⟩
   · unfold Con.SrC
     rw[List.pairwise_map];simp only[cpL];rw[List.pairwise_cons];exact⟨y,m⟩
   · rw[List.map_map]at e ⊢
     obtain⟨t,d,rfl⟩:=List.mem_map.1 e;exact List.mem_map_of_mem (f:=Con.core ∘ Tre.con) (rT_ d)
   · rw[List.map_map]at e ⊢
     obtain⟨t,d,rfl⟩:=List.mem_map.1 e;rcases List.mem_cons.1 d with rfl|d
     · exact List.mem_map_of_mem (f:=Con.core ∘ Tre.con) (by simp[cpL])
     · rcases v t d with q|⟨w,A,q⟩
       · exact List.mem_map.2 ⟨x,by simp[cpL],q.symm⟩
       · exact List.mem_map.2 ⟨w,by simp[cpL,A],q⟩
theorem qL_:∀ {a b:List Con},a.map Con.core=b.map Con.core→(a.find? fun c=>decide (c.kind=2)).map Con.core=(b.find? fun c=>decide (c.kind=2)).map Con.core
 | [],[],_=>rfl
 | [],y::b,h=>by simp at h
 | x::a,[],h=>by simp at h
 | x::a,y::b,h=>by
   rw[List.map_cons,List.map_cons,List.cons.injEq]at h;have d:x.kind=y.kind:=Con.core_kind h.1;rw[List.find?_cons,List.find?_cons,d]
   split
   · simp[h.1]
   · exact qL_ h.2
theorem uT_ {a b:List Con} (h:a.map Con.core=b.map Con.core):(Con.meetF a).2=(Con.meetF b).2∧(Con.meetF a).1.core=(Con.meetF b).1.core:=by
 have d:=qL_ h;have hl:a.length=b.length:=by have:=congrArg List.length h;simpa using this
 unfold Con.meetF;cases e:a.find? fun c=>decide (c.kind=2) with
 | some x =>
   rw[e]at d;cases e2:b.find? fun c=>decide (c.kind=2) with
   | none=>rw[e2]at d;simp at d
   | some y=>rw[e2]at d;simp only[Option.map_some,Option.some.injEq]at d;exact⟨rfl,d⟩
 | none =>
   rw[e]at d;cases e2:b.find? fun c=>decide (c.kind=2) with
   | some y=>rw[e2]at d;simp at d
   | none =>
     dsimp only
     match a,b,h,hl with
     | [],[],_,_=>exact⟨rfl,rfl⟩
     | [x],[y],h,_=>simp at h;exact⟨rfl,h⟩
     | x::x2::a,y::y2::b,h,hl =>
       dsimp only;rw[hl]
       split
       · exact⟨rfl,rfl⟩
       · refine⟨rfl,?_⟩
         rw[Con.core_eq,Con.core_eq];simp only[Con.kind,Con.name,Con.lo,Con.hi,Con.parts];rw[h]
theorem Ci_ {l:List Con} {k:Nat} {x:Con} (e:∀ c∈l.take k,c.kind≠2) (d:l[k]? = some x) (m:x.kind=2):(l.find? fun c=>decide (c.kind=2))=some x:=by
  induction l generalizing k with
  | nil=>simp at d
  | cons y l ih =>
    cases k with
    | zero=>simp at d;subst d;simp[m]
    | succ k =>
      have h:y.kind≠2:=e y zaf_;rw[List.find?_cons,decide_eq_false h];exact ih (k:=k) (fun c v=>e c (by rw[List.take_succ_cons];exact List.mem_cons_of_mem _ v)) zbd_
theorem jI_ {l:List Con} (d:∀ c∈l,c.kind≠2):(l.find? fun c=>decide (c.kind=2))=none:=by
  rw[List.find?_eq_none];intro c e;simp[d c e]
def TdR (c:Con) (y:Con×Int):Prop:=y.2=c.tdy.2∧(y.2=0→y.1.core=c.tdy.1.core∧y.1.ok)
def MtE (ps:List Con):Con×Int:=if Con.erF (ps.map Con.tdy)≠0 then (Con.zeroC,Con.erF (ps.map Con.tdy)) else Con.meetF (Con.srtC ((ps.map Con.tdy).flatMap fun z=>Con.flat1 z.1))
def MtR (ps:List Con) (y:Con×Int):Prop:=y.2=(MtE ps).2∧(y.2=0→y.1.core=(MtE ps).1.core∧y.1.ok)
theorem An_:∀ {l:List (Con×Int)} {i:Nat} {z:Con×Int},Con.erF (l.take i)=0→l[i]? = some z→z.2≠0→Con.erF l=z.2
 | [],_,_,_,h,_=>by simp at h
 | y::l,0,z,_,h,hz=>by simp at h;subst h;simp[Con.erF,hz]
 | y::l,i+1,z,h0,h,hz=>by
   rw[List.take_succ_cons]at h0;simp only[Con.erF]at h0 ⊢
   by_cases e:y.2≠0
   · rw[if_pos e]at h0;exact absurd h0 e
   · rw[if_neg e]at h0 ⊢
     exact An_ h0 zaB_ hz
theorem Am_ {l:List (Con×Int)} {i:Nat} {z:Con×Int} (d:Con.erF (l.take i)=0) (h:l[i]? = some z) (m:z.2=0):Con.erF (l.take (i+1))=0:=by
 induction l generalizing i with
 | nil=>simp at h
 | cons y l ih =>
   cases i with
   | zero=>simp at h;subst h;simp[Con.erF,m]
   | succ i =>
     rw[List.take_succ_cons]at d ⊢;simp only[Con.erF]at d ⊢
     by_cases e:y.2≠0
     · rw[if_pos e]at d;exact absurd d e
     · rw[if_neg e]at d ⊢;exact ih d zaB_
theorem vj_ {a b:Con} (h:a.core=b.core):(Con.flat1 a).map Con.core=(Con.flat1 b).map Con.core:=by
 have d:=Con.core_kind h;unfold Con.flat1;rw[d]
 split
 ·rfl
 split
 ·have:=congrArg Con.parts h
  rwa [Con.core_parts,Con.core_parts]at this
 simp[h]
structure McI (ps:List Con) (i:Nat) (ts:List Tre):Prop where
  core:(ts.map Tre.con).map Con.core=(((ps.map Con.tdy).take i).flatMap fun z=>Con.flat1 z.1).map Con.core
  er:Con.erF ((ps.map Con.tdy).take i)=0
  good:∀ t∈ts,jZ_ t∧t.con.ok
theorem wS_ {a b:List Con} (h:a.map Con.core=b.map Con.core):Con.sz.szs a=Con.sz.szs b:=Con.szs_core a b (by rw[Con.cores_map,Con.cores_map];exact h)
theorem yK_:∀ ps:List Con,Con.sz.szs ((ps.map Con.tdy).flatMap fun z=>Con.flat1 z.1)≤Con.sz.szs ps:=fun ps=>by
  have:=Con.tdys_sz ps;rwa [Con.tdys_map]at this
theorem McI.size {ps:List Con} {i:Nat} {d:List Tre} (h:McI ps i d):Con.sz.szs (d.map Tre.con)≤Con.sz.szs (ps.take i):=by
  rw[wS_ h.core,← List.map_take];exact yK_ (ps.take i)
theorem McI.len {ps:List Con} {i:Nat} {d:List Tre} (h:McI ps i d):d.length≤Con.sz.szs (ps.take i):=by
  have e:=szs_len (d.map Tre.con);rw[List.length_map]at e;have:=h.size;omega
theorem McI.nil {ps:List Con}:McI ps 0 []:=⟨by simp,rfl,by simp⟩
theorem McI.add {ps:List Con} {i:Nat} {A us:List Tre} {p q:Con} {e:Int} (h:McI ps i A) (G:ps[i]? = some p) (E:TdR p (q,e)) (B:e=0) (C:(us.map Tre.con).map Con.core=(Con.flat1 q).map Con.core) (H:∀ t∈us,jZ_ t∧t.con.ok):McI ps (i+1) (A++us):=by
 subst B;obtain⟨v,y⟩:=E;obtain⟨x,_⟩:=y rfl;have m:(ps.map Con.tdy)[i]? = some p.tdy:=by rw[List.getElem?_map,G];rfl
 have F:(ps.map Con.tdy).take (i+1)=(ps.map Con.tdy).take i++[p.tdy]:=by rw[List.take_add_one,m];rfl
 refine⟨?_,Am_ h.er m v.symm,fun t d=>?_⟩
 ·rw[List.map_append,List.map_append,h.core,C,F,List.flatMap_append,List.map_append]
  congr 1
  simp only[List.flatMap_cons,List.flatMap_nil,List.append_nil];exact vj_ x
 rcases List.mem_append.1 d with d|d
 ·exact h.good t d
 exact H t d
theorem McI.done {ps:List Con} {x S:List Tre} (h:McI ps ps.length x) (y:S.Perm x) (B:S.Pairwise fun a b=>¬ lY_ b a<0):(Con.meetF ((cpL qT S).map Tre.con)).2=(MtE ps).2∧(Con.meetF ((cpL qT S).map Tre.con)).1.core=(MtE ps).1.core:=by
  obtain⟨d,m⟩:=Cr_ B;have A:Con.erF (ps.map Con.tdy)=0:=by have:=h.er;rwa [List.take_of_length_le zaf_]at this
  have v:=h.core;rw[List.take_of_length_le zaf_]at v
  have e:=Con.srtC_uniq (l:=(ps.map Con.tdy).flatMap fun z=>Con.flat1 z.1) d (fun z=>by
    rw[m z,← v];exact ((y.map Tre.con).map Con.core).mem_iff)
  have:=uT_ e;unfold MtE;rw[if_neg (by rw[A];simp)];exact this
theorem MtE_er {ps:List Con} {i:Nat} {p q:Con} {e:Int} {y:List Tre} (h:McI ps i y) (x:ps[i]? = some p) (A:TdR p (q,e)) (v:e≠0):e=(MtE ps).2:=by
  have m:(ps.map Con.tdy)[i]? = some p.tdy:=by rw[List.getElem?_map,x];rfl
  have d:e=p.tdy.2:=A.1;have:=An_ h.er m (by rw[← d];exact v);unfold MtE;rw[if_pos (by rw[this,← d];exact v)];dsimp only;rw[this,d]
theorem Tre.con_cells (t:Tre):∀ j y,(Con.cells t.con)[j]? = some y→(Tre.cells t)[0+j]? = some y:=fun j y d=>by
  rw[Nat.zero_add];have hl:=(List.getElem?_eq_some_iff.1 d).1;unfold Tre.cells;rw[List.getElem?_append_left hl];exact d
theorem xK_ {l:List Con} {b:Con} (h:(l.find? fun c=>decide (c.kind=2))=some b):Con.meetF l=(b,0):=by unfold Con.meetF;rw[h]
theorem xJ_ {l:List Con} (h:(l.find? fun c=>decide (c.kind=2))=none) (d:l.length=0):Con.meetF l=(.mk 1 [] 0 0 none 0 [],0):=by
  unfold Con.meetF;rw[h,List.eq_nil_of_length_eq_zero d]
theorem xI_ {l:List Con} {x:Con} (h:(l.find? fun c=>decide (c.kind=2))=none) (e:l.length=1) (d:l[0]? = some x):Con.meetF l=(x,0):=by
  unfold Con.meetF;rw[h]
  match l,e,d with
  | [y],_,d=>simp at d;subst d;rfl
theorem xL_ {l:List Con} (h:(l.find? fun c=>decide (c.kind=2))=none) (m:l.length≠0) (e:l.length≠1) (d:8<l.length):Con.meetF l=(Con.zeroC,2):=by
  unfold Con.meetF;rw[h]
  match l,m,e,d with
  | y::z::l,_,_,d=>dsimp only;rw[if_pos d]
theorem xM_ {l:List Con} (h:(l.find? fun c=>decide (c.kind=2))=none) (m:l.length≠0) (e:l.length≠1) (d:¬ 8<l.length):Con.meetF l=(.mk 5 [] 0 0 none 0 l,0):=by
  unfold Con.meetF;rw[h]
  match l,m,e,d with
  | y::z::l,_,_,d=>dsimp only;rw[if_neg d]
theorem Cp_:Elt prog 26 28 5 64:=hh_ underlying26 (z:=.agg #[.int .i64 0,str [],.int .i64 0,.int .i64 0,.slice none 0 0]) zac_ rfl zad_
theorem Con.cells_one (c:Con):c.cells.all Value.oneCell'=true:=rfl
def po_ (l:List Con):Fct:=⟨fun v=>∀ c∈l,c.mem v,fun v v' hl h c hc=>c.memF.mono v v' hl (h c hc)⟩
theorem hU_ {S d:List Tre} {v:Vw} (h:(cN_ d).p v) (e:S.Perm d):(cN_ S).p v:=fun t m=>h t (e.mem_iff.1 m)
theorem oh_ {S:List Tre} {v:Vw} (h:(cN_ S).p v):(cN_ (cpL qT S)).p v:=fun t d=>h t (rT_ d)
theorem wQ_ {a b:List Tre} {v:Vw} (h:(cN_ a).p v) (k:(cN_ b).p v):(cN_ (a++b)).p v:=fun t d=>(List.mem_append.1 d).elim (h t) (k t)
theorem ye_ {l:List Tre} {v:Vw} (h:(cN_ l).p v):(po_ (l.map Tre.con)).p v:=fun c d=>by
  obtain⟨t,e,rfl⟩:=List.mem_map.1 d;exact ((Tre.mem_iff t v).1 (h t e)).1
theorem tdR_sz {p q:Con} {e:Int} (h:TdR p (q,e)) (m:e=0):q.sz≤p.sz∧q.ok:=by
  obtain⟨d,v⟩:=h.2 m;rw[Con.sz_core _ _ d];exact⟨Con.tdy_sz p,v⟩
theorem xW_ {q:Con} (h:q.kind=1):(([]:List Tre).map Tre.con).map Con.core=(Con.flat1 q).map Con.core:=by unfold Con.flat1;rw[if_pos h];rfl
theorem xY_ {q:Con} {us:List Tre} (h:q.kind=5) (d:us.map Tre.con=q.parts):(us.map Tre.con).map Con.core=(Con.flat1 q).map Con.core:=by unfold Con.flat1;rw[if_neg zaa_,if_pos h,d]
theorem xX_ {q:Con} {t:Tre} (d:¬ q.kind=1) (h:¬ q.kind=5) (e:t.con=q):([t].map Tre.con).map Con.core=(Con.flat1 q).map Con.core:=by unfold Con.flat1;rw[if_neg d,if_neg h];simp[e]
theorem AR_ {c p q:Con} {e:Int} {ad:Ao} (y:c.ok) (m:c.tdy=if p.tdy.2≠0∨p.tdy.1.kind=2 then p.tdy else (Con.mk 6 c.name 0 0 none 0 [p.tdy.1],0)) (F:TdR p (q,e)) (C:e=0) (E:q.kind≠2):TdR c (.mk 6 c.name 0 0 ad 1 [q],0):=by
 obtain⟨d,v⟩:=F;dsimp only at d v;obtain⟨h,A⟩:=v C;have x:=Con.core_kind h;rw[if_neg (by rw[← d,← x];simp[C,E])]at m;unfold TdR;rw[m];refine⟨rfl,fun _=>⟨?_,?_⟩⟩
 ·rw[Con.core_eq,Con.core_eq]
  simp only[Con.kind,Con.name,Con.lo,Con.hi,Con.parts,List.map_cons,List.map_nil,h]
 exact⟨by decide,by decide,Con.ok_name y,by decide,by decide,by decide,by decide,by simp,by simp,Con.oks_iff.2 fun p B=>by rw[List.mem_singleton]at B;subst B;exact A⟩
theorem zc_ {c:Con} (h:c.check=0) (m:c.kind=6):c.parts.length=1:=by
  have f:=Con.fields (Con.check_zero h).1;have d:=f.le;have e:=f.mo;rw[m]at d e;simp[Go.Vs.nd,dF_]at d e
  omega
theorem BS_ (ps:List Con) (O:Ao) (X:Nat) (hsz:Con.sz.szs ps≤64) (hT:(∀ p∈ps,Tri prog 46 #[Con.val p] [] [Con.memF p] (fun y:{y:Con×Int // TdR p y}=>.tuple #[Con.val y.1.1,.int .i64 y.1.2]) (fun _=>[]) (fun y=>[Con.memF y.1.1]))):Tri prog 99 #[.slice O ps.length X] [] [X_ O (ps.flatMap Con.cells),po_ ps] (fun y:{y:Con×Int // MtR ps y}=>.tuple #[Con.val y.1.1,.int .i64 y.1.2]) (fun _=>[]) (fun y=>[Con.memF y.1.1]):=by
 refine j_ func99 rfl rfl ntmps99 rfl fun v_1=>?_;have hpl:=szs_len ps;refine Zz 2 ?_;refine y_ aH_ rfl fun Y=>Zz 17 ?_
 refine O_ (ι:={y:Nat×List Tre×Value×Hp // y.1≤List.length ps∧McI ps y.1 y.2.1∧zR 156 7 Tre.cells y.2.2.1 y.2.1 y.2.2.2}) (fun y=>[(2,zp_ Y 0),(3,.int .i64 0),(4,y.1.2.2.1),(15,.slice O ps.length X),(16,.int .i64 (List.length ps:Int)),(17,.int .i64 (y.1.1:Int))]) (fun y=>((Y,.cells (Con.cells (Con.mk 0 [] 0 0 none 0 [])).toArray 28 (0,0))::y.1.2.2.2)) (fun y=>[cN_ y.1.2.1,X_ O (ps.flatMap Con.cells),po_ ps]) (fun y=>ps.length - y.1.1) ⟨((0:Nat),([]:List Tre),(.slice none 0 0),[]),zaf_,McI.nil,(az_.nil _ _)⟩ zl d_ (fun v _ h=>by exact⟨(show (cN_ ([]:List Tre)).p v from fun t B=>by simp at B),h.1,h.2.1,trivial⟩) ?_;rintro ⟨⟨i,ts,Q,b5⟩,hi_i,hM,H⟩;dsimp only at hi_i hM H ⊢;have hMl:=hM.len;have hMs:=szs_take_le (l:=ps) i;refine Zi 2 (fun a9=>?_) fun a9=>?_
 ·refine Zz 9 ?_
  refine f_ (Bu_ H zaa_ (fun t B=>(hM.good t B).1)) rfl C_ zf rfl fun⟨⟨Hs_1,S⟩,hs_1,F,hs_3⟩=>?_;dsimp only;dsimp only at hs_1 F hs_3;refine Zz 2 ?_;refine A_ (bg_ bi_) (Zz 3 ?_);refine f_ (yf_ S Q Hs_1 hs_1 (fun t B=>(hM.good t (F.mem_iff.1 B)).1) (by have:=F.length_eq;omega)) rfl C_ (fun v _ h=>by exact⟨(hU_ h.1 F),trivial⟩) rfl fun⟨⟨a7,Hc_1⟩,L⟩=>?_;dsimp only;dsimp only at L;obtain⟨E,a6⟩:∃ E,E=cpL qT S:=⟨_,rfl⟩;rw[← a6]at L;have d:=McI.done (by have e:=hM;rw[show i=ps.length from zaa_]at e;exact e) F hs_3;rw[← a6]at d;have hDg:∀ t∈E,jZ_ t∧t.con.ok:=fun t B=>by rw[a6]at B;exact hM.good t (F.mem_iff.1 (rT_ B))
  have hDn:E.length≤64:=by have e:=Cs_ (q:=qT) S;rw[← a6]at e;have q_2:=F.length_eq;omega
  refine Zz 4 ?_;refine A_ (bg_ bi_) (ax_ (bL_ L C_ fun a0 a2 hdad hcdad hmdad hzdad=>?_));subst hdad;refine Zz 7 ?_;refine O_ (ι:={y:Nat // y≤List.length E∧(∀ t∈List.take y E,t.con.kind≠2)}) (fun y=>[(2,zp_ Y 0),(3,.int .i64 0),(4,.slice a0 E.length a2),(15,.slice O ps.length X),(16,.int .i64 (List.length ps:Int)),(17,.int .i64 (i:Int)),(59,.slice a0 E.length a2),(60,.int .i64 (List.length E:Int)),(61,.int .i64 (y.1:Int))]) (fun y=>((Y,.cells (Con.cells (Con.mk 0 [] 0 0 none 0 [])).toArray 28 (0,0))::[])) (fun y=>[X_ a0 (E.flatMap Tre.cells),cN_ ts,X_ O (ps.flatMap Con.cells),po_ ps]) (fun y=>E.length - y.1) ⟨(0:Nat),by simp,zaf_⟩ zl d_ zh ?_;rintro ⟨k,hi_k,A⟩;dsimp only at hi_k A ⊢;refine Zi 2 (fun P=>?_) fun P=>?_
  ·refine Zi 12 (fun I=>?_) fun I=>?_
   ·refine Zi 8 (fun a3=>?_) fun a3=>?_
    ·refine Zi 8 (fun W=>?_) fun W=>?_
     ·refine Zz 9 ?_
      refine o_ 0 P_ rfl rfl rfl rfl rfl rfl (Zz 11 ?_);refine O_ (ι:={y:Nat×Value×Hp // y.1≤List.length E∧zR 28 5 Con.cells y.2.1 (List.map Tre.con (E.take y.1)) y.2.2}) (fun y=>[(2,zp_ Y 0),(3,.int .i64 0),(4,.slice a0 E.length a2),(15,.slice O ps.length X),(16,.int .i64 (List.length ps:Int)),(17,.int .i64 (i:Int)),(59,.slice a0 E.length a2),(60,.int .i64 (List.length E:Int)),(61,.int .i64 (k:Int)),(91,.slice a0 E.length a2),(92,.int .i64 (List.length E:Int)),(93,.int .i64 (y.1.1:Int))]) (fun y=>((Y,.cells #[.int .i64 5,str [],.int .i64 0,.int .i64 0,y.1.2.1] 28 (0,0))::y.1.2.2)) (fun y=>[X_ a0 (E.flatMap Tre.cells),cN_ ts,X_ O (ps.flatMap Con.cells),po_ ps]) (fun y=>E.length - y.1.1) ⟨((0:Nat),(.slice none 0 0),[]),by simp,(az_.nil _ _)⟩ zl d_ zh ?_;rintro ⟨⟨m,sv_P,H_P⟩,hi_m,a4⟩;dsimp only at hi_m a4 ⊢;refine Zi 2 (fun b1=>?_) fun b1=>?_
      ·refine Zz 9 ?_
       refine o_ 0 n_ rfl rfl rfl rfl rfl (by have q:=(dy_ a4).2;simp only[Value.cells,List.all_cons,List.all_nil,q,Bool.and_true];rfl) ?_;refine Zz 4 ?_;have hml:List.take m E=E:=List.take_of_length_le zaa_;rw[hml]at a4;refine bL_ a4 C_ fun qad b0 hqad hcqad hmqad hzqad=>?_;subst hqad;have U:=xM_ (jI_ fun c hc=>by obtain⟨t,B,rfl⟩:=List.mem_map.1 hc;exact A t (by rw[List.take_of_length_le zaa_];exact B)) zar_ zar_ zar_;rw[U]at d;exact cS_ ⟨((Con.mk 5 [] 0 0 qad b0 (E.map Tre.con)),0),⟨d.1,fun _=>⟨by rw[← d.2,Con.core_eq,Con.core_eq];rfl,(by refine⟨by decide,by decide,by simp,by decide,by decide,by decide,by decide,hcqad,by rw[List.length_map];omega,Con.oks_iff.2 fun p hp=>?_⟩;obtain⟨t,B,rfl⟩:=List.mem_map.1 hp;exact (hDg t B).2)⟩⟩⟩ (fun aa v M A=>bM_ (us:=Con.cells (Con.mk 5 [] 0 0 qad b0 (E.map Tre.con))) 0 ox_ ac_ n_ rfl rfl rfl rfl aa v M A) g_ (fun v _ h=>by exact⟨(Con.mem_iff (Con.mk 5 [] 0 0 qad b0 (E.map Tre.con)) v).2 ⟨h.1,ye_ (show (cN_ E).p v from a6▸oh_ (hU_ h.2.2.1 F))⟩,trivial⟩)
      have G:m<E.length:=by omega
      obtain⟨C,J⟩:∃ V,E[m]? = some V:=⟨_,List.getElem?_eq_getElem G⟩;refine Zz 12 ?_;refine y_ cy_ rfl fun b_2=>o_ 0 aJ_ rfl rfl rfl rfl rfl rfl (Zz 7 ?_)
      refine G_ ab_ n_ aH_ rfl rfl rfl rfl rfl rfl fun b_3=>?_;refine aO_ (news:=List.flatMap Con.cells [(Tre.con C)]) Cp_ a4 rfl rfl (c_ (c_ C_)) rfl (bz_ 0 rfl) (fun u hu=>bn_ Con.cells_one hu) zaw_ zaz_ rfl fun sv_2 Z a9=>?_;refine A_ List.perm_append_comm ?_;have K:=zsa a9;refine Zz 1 ?_;refine cq_ 2 K sizeOf26 rfl rfl rfl rfl (Zz 7 ?_);exact x_ ⟨(m+1,sv_2,Z),G,(by rw[take_snoc J,List.map_append];exact K)⟩ zab_ zl (i_ (c_ (c_ d_)) (c_ C_)) zh
     refine Zz 6 ?_;refine e_ (u_ iQ_ rfl rfl) rfl (o_ 0 n_ rfl rfl rfl rfl rfl rfl (Zz 4 ?_));have U:=xL_ (jI_ fun c hc=>by obtain⟨t,B,rfl⟩:=List.mem_map.1 hc;exact A t (by rw[List.take_of_length_le zaa_];exact B)) zar_ zar_ zar_;rw[U]at d;exact cS_ ⟨(Con.zeroC,2),⟨d.1,fun q=>by cases q⟩⟩ (fun aa v M A=>bM_ (us:=Con.cells Con.zeroC) 0 ox_ ac_ n_ rfl rfl rfl rfl aa v M A) g_ (fun v _ h=>by exact⟨(show Con.mem Con.zeroC v from ⟨.inl rfl,trivial⟩),trivial⟩)
    refine Zz 5 ?_;have G:0<E.length:=by omega
    obtain⟨C,J⟩:∃ V,E[0]? = some V:=⟨_,List.getElem?_eq_getElem G⟩;have N:C∈E:=List.mem_of_getElem? J;refine Zz 4 ?_;refine e_ (al_ (ad:=a0) (us:=Con.cells (Tre.con C)) ac_ n_ rfl zf rfl (wT_ 0 (z_ Tre.cells_len J) (Tre.con_cells C))) rfl (o_ 0 n_ rfl rfl rfl rfl rfl rfl (Zz 4 ?_));have U:=xI_ (jI_ fun c hc=>by obtain⟨t,B,rfl⟩:=List.mem_map.1 hc;exact A t (by rw[List.take_of_length_le zaa_];exact B)) zar_ (x:=Tre.con C) (by rw[List.getElem?_map,J];rfl);rw[U]at d;exact cS_ ⟨((Tre.con C),0),⟨d.1,fun _=>⟨d.2,(hDg C N).2⟩⟩⟩ (fun aa v M A=>bM_ (us:=Con.cells (Tre.con C)) 0 ox_ ac_ n_ rfl rfl rfl rfl aa v M A) g_ (fun v _ h=>by exact⟨((Tre.mem_iff C v).1 ((show (cN_ E).p v from a6▸oh_ (hU_ h.2.1 F)) C N)).1,trivial⟩)
   refine Zz 6 ?_;refine e_ (u_ iQ_ rfl rfl) rfl (o_ 0 n_ rfl rfl rfl rfl rfl rfl (Zz 4 ?_));have U:=xJ_ (jI_ fun c hc=>by obtain⟨t,B,rfl⟩:=List.mem_map.1 hc;exact A t (by rw[List.take_of_length_le zaa_];exact B)) zar_;rw[U]at d;exact cS_ ⟨((Con.mk 1 [] 0 0 none 0 []),0),⟨d.1,fun _=>⟨d.2,by simp[Con.ok,Con.ok.oks]⟩⟩⟩ (fun aa v M A=>bM_ (us:=Con.cells (Con.mk 1 [] 0 0 none 0 [])) 0 ox_ ac_ n_ rfl rfl rfl rfl aa v M A) g_ (fun v _ h=>by exact⟨(show Con.mem (Con.mk 1 [] 0 0 none 0 []) v from ⟨.inl rfl,trivial⟩),trivial⟩)
  have G:k<E.length:=by omega
  obtain⟨C,J⟩:∃ V,E[k]? = some V:=⟨_,List.getElem?_eq_getElem G⟩;have N:C∈E:=List.mem_of_getElem? J;refine Zz 12 ?_;refine y_ cy_ rfl fun b_2=>o_ 0 aJ_ rfl rfl rfl rfl rfl rfl (Zi 7 (fun I=>?_) fun I=>?_)
  ·refine Zz 10 ?_
   exact x_ ⟨k+1,G,(fun t B=>by rw[take_snoc J,List.mem_append,List.mem_singleton]at B;rcases B with B|rfl;exact A t B;exact I)⟩ zab_ zl (c_ d_) zh
  refine Zz 7 ?_;refine o_ 1 n_ rfl rfl rfl rfl rfl rfl (Zz 4 ?_);have U:=xK_ (Ci_ (k:=k) (fun c hc=>by rw[← List.map_take]at hc;obtain⟨t,B,rfl⟩:=List.mem_map.1 hc;exact A t B) (by rw[List.getElem?_map,J];rfl) I);rw[U]at d;exact cS_ ⟨((Tre.con C),0),⟨d.1,fun _=>⟨d.2,(hDg C N).2⟩⟩⟩ (fun aa v M A=>bM_ (us:=Con.cells (Tre.con C)) 1 ox_ ac_ n_ rfl rfl rfl rfl aa v M A) g_ (fun v _ h=>by exact⟨((Tre.mem_iff C v).1 ((show (cN_ E).p v from a6▸oh_ (hU_ h.2.1 F)) C N)).1,trivial⟩)
 have R:i<ps.length:=by omega
 obtain⟨p_1,a1⟩:∃ V,ps[i]? = some V:=⟨_,List.getElem?_eq_getElem R⟩;have a5:p_1∈ps:=List.mem_of_getElem? a1;have hps_1:=Con.sz_mem a5;refine Zz 12 ?_;refine y_ aH_ rfl fun b_2=>o_ 0 n_ rfl rfl rfl rfl rfl rfl (Zz 5 ?_)
 refine f_ (hT p_1 a5) rfl g_ (fun v _ h=>by exact⟨(h.2.2.1 p_1 a5),trivial⟩) rfl fun⟨⟨e,e_2⟩,K⟩=>?_;dsimp only;try dsimp only at K
 refine Zz 3 ?_;refine y_ aH_ rfl fun b_3=>o_ 0 n_ rfl rfl rfl rfl rfl rfl (Zi 7 (fun P=>?_) fun P=>?_)
 ·have a8:e_2=0:=by simpa using P
  have hqz:=tdR_sz K a8;refine Zi 14 (fun I=>?_) fun I=>?_
  ·refine Zi 6 (fun a3=>?_) fun a3=>?_
   ·refine Zz 7 ?_
    refine f_ (rI_ _ e (Nat.le_refl _) zaa_) rfl g_ zf rfl fun⟨b3,b2,hgw⟩=>?_;dsimp only;refine G_ aW_ aJ_ cy_ rfl rfl rfl rfl rfl rfl fun b_4=>?_;refine aO_ (news:=List.flatMap Tre.cells [b3]) rQ_ H rfl rfl (c_ (c_ (c_ C_))) rfl (bz_ 0 rfl) (fun u hu=>bn_ Tre.cells_one hu) zaw_ zaz_ rfl fun a7 Z W=>?_;refine A_ List.perm_append_comm ?_;have b6:=zsa W;refine Zz 8 ?_;exact x_ ⟨(i+1,(ts++[b3]),a7,Z),R,(hM.add a1 K a8 (xX_ I a3 b2) (fun t B=>by rw[List.mem_singleton]at B;subst B;rw[jZ_,b2];exact⟨⟨hgw,by omega⟩,hqz.2⟩)),b6⟩ zab_ zl (i_ (c_ (c_ (c_ d_))) (c_ (c_ C_))) (fun v _ h=>by exact⟨kl_ h.2.2.1 h.1,h.2.2.2.1,h.2.2.2.2.1,trivial⟩)
   refine Zz 13 ?_;have hw_1:az_ 156 7 Q (List.length (ts++([]:List Tre))) (List.flatMap Tre.cells (ts++([]:List Tre))) b5:=by have q:=H;rw[List.append_nil];exact q
   refine O_ (ι:={y:Nat×List Tre×Value×Hp // y.1≤List.length e.parts∧List.map Tre.con y.2.1=List.take y.1 e.parts∧(∀ t∈y.2.1,jZ_ t∧t.con.ok)∧zR 156 7 Tre.cells y.2.2.1 (ts++y.2.1) y.2.2.2}) (fun y=>[(2,zp_ Y 0),(3,.int .i64 0),(4,y.1.2.2.1),(15,.slice O ps.length X),(16,.int .i64 (List.length ps:Int)),(17,.int .i64 (i:Int)),(42,.slice e.ad e.parts.length e.cap),(43,.int .i64 (List.length e.parts:Int)),(44,.int .i64 (y.1.1:Int))]) (fun y=>((b_3,.cells (Con.cells e).toArray 28 (0,0))::((b_2,.cells (Con.cells p_1).toArray 28 (0,0))::((Y,.cells (Con.cells (Con.mk 0 [] 0 0 none 0 [])).toArray 28 (0,0))::y.1.2.2.2)))) (fun y=>[cN_ y.1.2.1,cN_ ts,X_ O (ps.flatMap Con.cells),po_ ps,Con.memF e]) (fun y=>e.parts.length - y.1.1) ⟨((0:Nat),([]:List Tre),Q,b5),zaf_,zaf_,zaf_,hw_1⟩ zl zp (fun v _ h=>by exact⟨(show (cN_ ([]:List Tre)).p v from fun t B=>by simp at B),h.2.1,h.2.2.1,h.2.2.2.1,h.1,trivial⟩) ?_;rintro ⟨⟨j,us,Q,b5⟩,hj,hus,hug,H⟩;dsimp only at hj hus hug H ⊢;have hql:=Con.parts_lt e;have hul:=congrArg List.length hus;rw[List.length_map,List.length_take]at hul;refine Zi 2 (fun W=>?_) fun W=>?_
   ·refine Zz 11 ?_
    exact x_ ⟨(i+1,(ts++us),Q,b5),R,(hM.add a1 K a8 (xY_ a3 (by rw[hus,List.take_of_length_le zaa_])) hug),H⟩ zab_ zl zp (fun v _ h=>by exact⟨wQ_ h.2.1 h.1,h.2.2.1,h.2.2.2.1,trivial⟩)
   have b4:j<e.parts.length:=by omega
   obtain⟨c_1,L⟩:∃ V,e.parts[j]? = some V:=⟨_,List.getElem?_eq_getElem b4⟩;have T:c_1∈e.parts:=List.mem_of_getElem? L;refine Zz 10 ?_;refine e_ (U_ ab_ n_ rfl rfl (fun v _ h=>aK_ (n:=5) Con.cells_len zad_ (by exact ((Con.mem_iff e v).1 h.2.2.2.2.1).1) L) zaa_ zah_) rfl ?_;refine e_ (al_ (ad:=e.ad) (us:=Con.cells c_1) ac_ n_ rfl (fun v _ h=>by exact ((Con.mem_iff e v).1 h.2.2.2.2.1).1) (Con.cells_len _) (z_ Con.cells_len L)) rfl (y_ aH_ rfl fun b_4=>o_ 0 n_ rfl rfl rfl rfl rfl rfl (Zz 5 ?_));refine f_ (rI_ _ c_1 (Nat.le_refl _) (by have:=Con.sz_part T;omega)) rfl g_ (fun v _ h=>by exact⟨(Con.mem_part (c:=e) h.2.2.2.2.1 T),trivial⟩) rfl fun⟨b3,b2,hgw⟩=>?_;dsimp only;refine G_ aW_ aJ_ cy_ rfl rfl rfl rfl rfl rfl fun b_5=>?_;refine aO_ (news:=List.flatMap Tre.cells [b3]) rQ_ H rfl rfl (c_ (c_ (c_ (c_ C_)))) rfl (bz_ 0 rfl) (fun u hu=>bn_ Tre.cells_one hu) zaw_ zaz_ rfl fun a7 Z b1=>?_;refine A_ List.perm_append_comm ?_;have b6:=zsa b1;refine Zz 8 ?_;exact x_ ⟨(j+1,(us++[b3]),a7,Z),b4,(by rw[take_snoc L,List.map_append,hus];simp[b2]),(fun t B=>by rcases List.mem_append.1 B with B|B;exact hug t B;rw[List.mem_singleton]at B;subst B;rw[jZ_,b2];exact⟨⟨hgw,by have:=Con.sz_part T;omega⟩,Con.ok_part hqz.2 T⟩),(by rw[← List.append_assoc];exact b6)⟩ zab_ zl (i_ (c_ (c_ d_)) (i_ (c_ (c_ d_)) (i_ (c_ (c_ d_)) (c_ C_)))) (fun v _ h=>by exact⟨kl_ h.2.1 h.1,h.2.2.1,h.2.2.2.1,h.2.2.2.2.1,h.2.2.2.2.2.1,trivial⟩)
  refine Zz 11 ?_;exact x_ ⟨(i+1,(ts++[]),Q,b5),R,(hM.add a1 K a8 (xW_ I) zaf_),(by rw[List.append_nil];exact H)⟩ zab_ zl (i_ (c_ (c_ d_)) (c_ C_)) (fun v _ h=>by exact⟨(show (cN_ (ts++[])).p v from by rw[List.append_nil];exact h.2.1),h.2.2.1,h.2.2.2.1,trivial⟩)
 refine Zz 5 ?_;refine e_ (u_ iQ_ rfl rfl) rfl (Zz 1 ?_);refine o_ 2 n_ rfl rfl rfl rfl rfl rfl (Zz 4 ?_);exact cS_ ⟨(Con.zeroC,e_2),⟨MtE_er hM a1 K P,fun q=>absurd q P⟩⟩ (fun aa v A M=>bM_ (us:=Con.cells Con.zeroC) 2 ox_ ac_ n_ rfl rfl rfl rfl aa v A M) g_ (fun v _ h=>by exact⟨(show Con.mem Con.zeroC v from ⟨.inl rfl,trivial⟩),trivial⟩)
theorem mj_ {G:Prop} (h:G:=by
 refine o_ 1 n_ rfl rfl rfl rfl rfl rfl (Zz 4 ?_);exact cS_ ⟨(C,B),(by rw[if_pos (by first|exact .inl (by rw[← d.1];assumption)|(by_cases K:B=0<;>first|exact .inl (by rw[← d.1];exact K)|exact .inr (by rw[← Con.core_kind (d.2 K).1];assumption)))]at G;unfold TdR;rw[G];exact d)⟩ (fun J v A x=>bM_ (us:=Con.cells C) 1 results46 ac_ n_ rfl rfl rfl rfl J v A x) g_ zf):G:=h
theorem Be_ (c:Con) (O:c.ok) (X:c.check=0) (V:(∀ p∈c.parts,Tri prog 46 #[Con.val p] [] [Con.memF p] (fun y:{y:Con×Int // TdR p y}=>.tuple #[Con.val y.1.1,.int .i64 y.1.2]) (fun _=>[]) (fun y=>[Con.memF y.1.1]))) (R:c.kind=5→Tri prog 99 #[.slice c.ad c.parts.length c.cap] [] [X_ c.ad (c.parts.flatMap Con.cells),po_ c.parts] (fun y:{y:Con×Int // MtR c.parts y}=>.tuple #[Con.val y.1.1,.int .i64 y.1.2]) (fun _=>[]) (fun y=>[Con.memF y.1.1])):Tri prog 46 #[Con.val c] [] [Con.memF c] (fun y:{y:Con×Int // TdR c y}=>.tuple #[Con.val y.1.1,.int .i64 y.1.2]) (fun _=>[]) (fun y=>[Con.memF y.1.1]):=by
 refine j_ func46 rfl rfl ntmps46 rfl fun S=>?_;refine Zz 2 ?_;refine K_ rfl rfl fun T=>y_ aH_ rfl fun U=>Zi 13 (fun E=>?_) fun E=>?_
 ·refine Zi 6 (fun m=>?_) fun m=>?_
  ·refine Zz 9 ?_
   refine o_ 0 n_ rfl rfl rfl rfl rfl rfl (Zz 4 ?_);exact cS_ ⟨(c,0),(by unfold TdR;rw[Con.tdy_self m E];exact⟨rfl,fun _=>⟨rfl,O⟩⟩)⟩ (fun J v A x=>bM_ (us:=Con.cells c) 0 results46 ac_ n_ rfl rfl rfl rfl J v A x) g_ zf
  refine Zz 8 ?_;refine f_ (R m) rfl g_ (fun v _ h=>by exact⟨((Con.mem_iff c v).1 h.1).1,((Con.mem_iff c v).1 h.1).2,trivial⟩) rfl fun⟨⟨I,B⟩,d⟩=>?_;dsimp only;try dsimp only at d
  refine Zz 2 ?_;refine o_ 0 n_ rfl rfl rfl rfl rfl rfl (Zz 4 ?_);exact cS_ ⟨(I,B),(by unfold TdR;rw[Con.tdy_and m];exact d)⟩ (fun J v A x=>bM_ (us:=Con.cells I) 0 results46 ac_ n_ rfl rfl rfl rfl J v A x) g_ zf
 have M:=zc_ X E;have L:0<c.parts.length:=by omega
 obtain⟨H,e⟩:∃ B,c.parts[0]? = some B:=⟨_,List.getElem?_eq_getElem L⟩;have F:H∈c.parts:=List.mem_of_getElem? e;have Q:Con.parts c=[H]:=by have I:=List.length_eq_one_iff.1 M;obtain⟨z,K⟩:=I;rw[K]at e;simp at e;rw[K,e]
 have G:=Con.tdy_some E Q;refine Zz 8 ?_;refine e_ (U_ ab_ n_ rfl rfl (fun v _ h=>aK_ (n:=5) Con.cells_len zad_ zba_ e) zaa_ zah_) rfl ?_;refine e_ (al_ (ad:=c.ad) (us:=Con.cells H) ac_ n_ rfl (fun v _ h=>by exact ((Con.mem_iff c v).1 h.1).1) (Con.cells_len _) (z_ Con.cells_len e)) rfl (f_ (V H F) rfl g_ (fun v _ h=>by exact⟨(Con.mem_part (c:=c) h.1 F),trivial⟩) rfl fun⟨⟨C,B⟩,d⟩=>?_);dsimp only;try dsimp only at d
 refine Zz 3 ?_;refine y_ aH_ rfl fun W=>o_ 0 n_ rfl rfl rfl rfl rfl rfl (Zi 7 (fun m=>?_) fun m=>?_)
 ·refine Zi 6 (fun P=>?_) fun P=>?_
  ·refine Zz 11 ?_
   refine G_ ab_ n_ aH_ rfl rfl rfl rfl rfl rfl fun N=>?_;refine aq_ (List.flatMap Con.cells [C]) d_ rfl ?_;refine e_ (u_ iQ_ rfl rfl) rfl (o_ 1 n_ rfl rfl rfl rfl rfl rfl (Zz 4 ?_));exact cS_ ⟨((Con.mk 6 c.name 0 0 (some ⟨N,0,none⟩) 1 [C]),0),(AR_ O G d (by first|assumption|simp_all) (by first|assumption|simp_all))⟩ (fun J v A x=>bM_ (us:=Con.cells (Con.mk 6 c.name 0 0 (some ⟨N,0,none⟩) 1 [C])) 1 results46 ac_ n_ rfl rfl rfl rfl J v A x) g_ (fun v _ h=>by exact⟨⟨h.1,⟨h.2.1,trivial⟩⟩,trivial⟩)
  refine Zz 8 ?_;exact mj_
 refine Zz 12 ?_;exact mj_
theorem up_ (c:Con) (d:c.ok) (m:c.check=0):Tri prog 46 #[c.val] [] [c.memF] (fun y:{y:Con×Int // TdR c y}=>.tuple #[Con.val y.1.1,.int .i64 y.1.2]) (fun _=>[]) (fun y=>[Con.memF y.1.1]):=by
  have v:∀ n (c:Con),c.sz≤n→c.ok→c.check=0→Tri prog 46 #[c.val] [] [c.memF] (fun y:{y:Con×Int // TdR c y}=>.tuple #[Con.val y.1.1,.int .i64 y.1.2]) (fun _=>[]) (fun y=>[Con.memF y.1.1]):=by
    intro n
    induction n with
    | zero=>intro c h;have:=Con.sz_pos c;omega
    | succ n ih =>
      intro c h d m;have e:∀ p∈c.parts,Tri prog 46 #[Con.val p] [] [Con.memF p] (fun y:{y:Con×Int // TdR p y}=>.tuple #[Con.val y.1.1,.int .i64 y.1.2]) (fun _=>[]) (fun y=>[Con.memF y.1.1]):=fun p e=>ih p (by have:=Con.sz_part e;omega) (Con.ok_part d e) (Con.check_part m e)
      refine Be_ c d m e fun _=>BS_ c.parts c.ad c.cap ?_ e
      have:=(Con.check_zero m).2;rw[Con.sz_eq]at this;omega
  exact v c.sz c (Nat.le_refl _) d m
def TyR (x:Ax) (y:Ax×Int):Prop:=y.2=x.tdyE∧(y.2=0→TdyOf x y.1∧y.1.ok)
def SdF (u:Bool) (c q:Con):Prop:=(u=true→TdR c (q,0))∧(u=false→q=c)
theorem SdF.core {u:Bool} {c q:Con} (h:SdF u c q):q.core=(if u=true then c.tdy.1 else c).core:=by
  cases u with
  | true=>rw[if_pos rfl];exact ((h.1 rfl).2 rfl).1
  | false=>rw[if_neg zaf_,h.2 rfl]
theorem SdF.ok {u:Bool} {c q:Con} (h:SdF u c q) (d:c.ok):q.ok:=by
  cases u with
  | true=>exact ((h.1 rfl).2 rfl).2
  | false=>rw[h.2 rfl];exact d
theorem SdF.er {u:Bool} {c q:Con} (h:SdF u c q):¬ (u=true∧c.tdy.2≠0):=fun k=>k.2 (h.1 k.1).1.symm
theorem SdF.yes {u:Bool} {c q:Con} {e:Int} (m:u=true) (h:TdR c (q,e)) (d:e=0):SdF u c q:=⟨fun _=>by rw[← d];exact h,fun k=>by rw[m]at k;exact absurd k zaf_⟩
theorem SdF.no {u:Bool} {c:Con} (d:¬ u=true):SdF u c c:=⟨fun k=>absurd k d,fun _=>rfl⟩
theorem SdF.sz {u:Bool} {c q:Con} (h:SdF u c q):q.sz≤c.sz:=by
  cases u with
  | true =>
    rw[Con.sz_core _ _ ((h.1 rfl).2 rfl).1];exact Con.tdy_sz c
  | false=>rw[h.2 rfl];exact Nat.le_refl _
theorem TyE1 {x y:Ax} (h:x.check≠0):TyR x (y,x.check):=⟨by unfold Ax.tdyE;rw[if_pos h],fun k=>absurd k h⟩
theorem TyE2 {x y:Ax} {q:Con} {e:Int} (h:x.check=0) (v:(us x.kind).left=true) (A:TdR x.left (q,e)) (m:e≠0):TyR x (y,e):=by
  have d:e=x.left.tdy.2:=A.1;refine⟨?_,fun k=>absurd k m⟩;unfold Ax.tdyE;rw[if_neg zbp_,if_pos ⟨v,by rw[← d];exact m⟩];exact d
theorem TyE3 {x y:Ax} {l q:Con} {e:Int} (h:x.check=0) (hl:SdF (us x.kind).left x.left l) (v:(us x.kind).right=true) (A:TdR x.right (q,e)) (m:e≠0):TyR x (y,e):=by
  have d:e=x.right.tdy.2:=A.1;refine⟨?_,fun k=>absurd k m⟩;unfold Ax.tdyE;rw[if_neg zbp_,if_neg hl.er,if_pos ⟨v,by rw[← d];exact m⟩];exact d
theorem Ty_e {x:Ax} {l r:Con} (h:x.check=0) (hl:SdF (us x.kind).left x.left l) (d:SdF (us x.kind).right x.right r):x.tdyE=0:=by
  unfold Ax.tdyE;rw[if_neg zbp_,if_neg hl.er,if_neg d.er]
theorem AQ_ {x:Ax} {l r:Con} (hl:SdF (us x.kind).left x.left l) (d:SdF (us x.kind).right x.right r):Con.cmp x.tdyL x.tdyR=Con.cmp l r:=Con.cmp_of hl.core.symm d.core.symm
theorem CJ_ {x:Ax} {l r:Con} (d:x.ok) (h:x.check=0) (hl:SdF (us x.kind).left x.left l) (m:SdF (us x.kind).right x.right r) (v:¬ ((x.kind=2∨x.kind=3)∧0<Con.cmp l r)):TyR x (.mk x.kind x.opn l r x.ad x.cap x.roles x.role x.a x.b,0):=by
 have e:¬ x.swp:=by unfold Ax.swp;rw[AQ_ hl m];exact v
 refine⟨(Ty_e h hl m).symm,fun _=>⟨⟨rfl,rfl,rfl,rfl,rfl,rfl,?_,?_⟩,?_⟩⟩
 ·rw[if_neg e];exact hl.core
 ·rw[if_neg e];exact m.core
 exact⟨d.lo,d.hi,hl.ok d.left,m.ok d.right,d.len,d.cap,d.roles,d.role,d.a,d.b⟩
theorem CI_ {x:Ax} {l r:Con} (d:x.ok) (h:x.check=0) (hl:SdF (us x.kind).left x.left l) (m:SdF (us x.kind).right x.right r) (v:x.kind=2∨x.kind=3) (y:0<Con.cmp l r):TyR x (.mk x.kind x.opn r l x.ad x.cap x.roles x.role x.a x.b,0):=by
 have e:x.swp:=by unfold Ax.swp;rw[AQ_ hl m];exact⟨v,y⟩
 refine⟨(Ty_e h hl m).symm,fun _=>⟨⟨rfl,rfl,rfl,rfl,rfl,rfl,?_,?_⟩,?_⟩⟩
 ·rw[if_pos e];exact m.core
 ·rw[if_pos e];exact hl.core
 exact⟨d.lo,d.hi,m.ok d.right,hl.ok d.left,d.len,d.cap,d.roles,d.role,d.a,d.b⟩
theorem jm_ {x:Ax} (h:x.check=0):x.shaped=true:=by
  cases e:x.shaped with
  | true=>rfl
  | false=>unfold Ax.check at h;rw[if_pos e]at h;simp at h
theorem wB_ {x:Ax} (h:x.check=0):1≤x.kind∧x.kind≤9:=by
 have d:=jm_ h;unfold Ax.shaped at d
 by_cases e:x.kind<1∨9<x.kind
 ·rw[if_pos e]at d;simp at d
 omega
theorem ua_ {x:Ax} (h:x.check=0):x.namedU (us x.kind)=true:=by
  cases e:x.namedU (us x.kind) with
  | true=>rfl
  | false=>rw[Ax.check_20 (jm_ h) e]at h;simp at h
theorem jM_ {x:Ax} (h:x.check=0) (d:(us x.kind).left=true):x.left.check=0:=by
 by_cases e:x.left.check=0
 ·exact e
 rw[Ax.check_left (jm_ h) (ua_ h) d e]at h;exact absurd h e
theorem hJ_ {x:Ax} (h:x.check=0) (d:(us x.kind).right=true):x.right.check=0:=by
 by_cases e:x.right.check=0
 ·exact e
 rw[Ax.check_right (jm_ h) (ua_ h) (jM_ h) d e]at h;exact absurd h e
theorem us_get {x:Ax} (h:1≤x.kind∧x.kind≤9):pE_[x.kind.toNat]? = some (us x.kind):=by
  have hl:x.kind.toNat<pE_.length:=by show x.kind.toNat<10;omega
  unfold us;rw[List.getElem?_eq_getElem hl];rfl
theorem ev_ {k:Int} (h:k=2∨k=3):(us k).left=true∧(us k).right=true:=by rcases h with rfl|rfl<;>exact⟨rfl,rfl⟩
theorem mS_ {x:Ax} {l:Con} (h:x.check=0) (hl:SdF (us x.kind).left x.left l) (d:(us x.kind).left=true):l.sz≤1000000:=by
  have e:=hl.sz;have m:=(Con.check_zero (jM_ h d)).2;omega
theorem iP_ {x:Ax} {l:Con} (h:x.check=0) (hl:SdF (us x.kind).right x.right l) (d:(us x.kind).right=true):l.sz≤1000000:=by
  have e:=hl.sz;have m:=(Con.check_zero (hJ_ h d)).2;omega
theorem strt30:gQ_ prog 30 [(0,1),(1,1),(2,5),(7,5),(12,1),(13,1),(14,1),(15,1)] [.int .i64 0,.bool false,.int .i64 0,str [],.int .i64 0,.int .i64 0,.slice none 0 0,.int .i64 0,str [],.int .i64 0,.int .i64 0,.slice none 0 0,.slice none 0 0,str [],str [],str []]:=⟨_,aG_,gz_,fun w=>by simp[P_,cv_,M_,dX_,n_]⟩
theorem iy_ {G:Prop} (h:G:=by
 refine o_ 1 H_ rfl rfl rfl rfl rfl rfl (Zz 4 ?_);exact cS_ ⟨(x,0),CJ_ G I (SdF.no zbj_) (SdF.no zbr_) zaa_⟩ (fun H v e d=>bM_ (us:=Ax.cells x) 1 cT_ bq_ H_ rfl rfl rfl rfl H v e d) g_ zf):G:=h
theorem mk_ {G:Prop} (h:G:=by
 refine Zz 10 ?_;refine o_ 1 n_ rfl rfl rfl rfl rfl rfl (Zz 1 ?_);refine o_ 1 n_ rfl rfl rfl rfl rfl rfl (Zz 5 ?_);refine o_ 1 H_ rfl rfl rfl rfl rfl rfl (Zz 4 ?_);exact cS_ ⟨((Ax.mk x.kind x.opn L B x.ad x.cap x.roles x.role x.a x.b),0),CI_ G I (SdF.yes E A zau_) (SdF.yes C K zaJ_) zaa_ zaa_⟩ (fun H v e d=>bM_ (us:=Ax.cells (Ax.mk x.kind x.opn L B x.ad x.cap x.roles x.role x.a x.b)) 1 cT_ bq_ H_ rfl rfl rfl rfl H v e d) g_ (fun v _ h=>by exact⟨⟨h.1,h.2.1,h.2.2.1.2.2⟩,trivial⟩)):G:=h
theorem ml_ {G:Prop} (h:G:=by
 refine Zz 10 ?_;refine o_ 1 n_ rfl rfl rfl rfl rfl rfl (Zz 1 ?_);refine o_ 1 n_ rfl rfl rfl rfl rfl rfl (Zz 5 ?_);refine o_ 1 H_ rfl rfl rfl rfl rfl rfl (Zz 4 ?_);exact cS_ ⟨((Ax.mk x.kind x.opn B x.left x.ad x.cap x.roles x.role x.a x.b),0),CI_ G I (SdF.no zbj_) (SdF.yes C A zau_) zaa_ zaa_⟩ (fun H v e d=>bM_ (us:=Ax.cells (Ax.mk x.kind x.opn B x.left x.ad x.cap x.roles x.role x.a x.b)) 1 cT_ bq_ H_ rfl rfl rfl rfl H v e d) g_ (fun v _ h=>by exact⟨⟨h.1,h.2.1.1,h.2.1.2.2⟩,trivial⟩)):G:=h
theorem mm_ {G:Prop} (h:G:=by
 refine Zz 10 ?_;refine o_ 1 n_ rfl rfl rfl rfl rfl rfl (Zz 1 ?_);refine o_ 1 n_ rfl rfl rfl rfl rfl rfl (Zz 5 ?_);refine o_ 1 H_ rfl rfl rfl rfl rfl rfl (Zz 4 ?_);exact cS_ ⟨((Ax.mk x.kind x.opn x.right B x.ad x.cap x.roles x.role x.a x.b),0),CI_ G I (SdF.yes E A zau_) (SdF.no zbr_) zaa_ zaa_⟩ (fun H v e d=>bM_ (us:=Ax.cells (Ax.mk x.kind x.opn x.right B x.ad x.cap x.roles x.role x.a x.b)) 1 cT_ bq_ H_ rfl rfl rfl rfl H v e d) g_ (fun v _ h=>by exact⟨⟨h.2.1.2.1,h.1,h.2.1.2.2⟩,trivial⟩)):G:=h
theorem mn_ {G:Prop} (h:G:=by
 refine Zz 10 ?_;refine o_ 1 n_ rfl rfl rfl rfl rfl rfl (Zz 1 ?_);refine o_ 1 n_ rfl rfl rfl rfl rfl rfl (Zz 5 ?_);refine o_ 1 H_ rfl rfl rfl rfl rfl rfl (Zz 4 ?_);exact cS_ ⟨((Ax.mk x.kind x.opn x.right x.left x.ad x.cap x.roles x.role x.a x.b),0),CI_ G I (SdF.no zbj_) (SdF.no zbr_) zaa_ zaa_⟩ (fun H v e d=>bM_ (us:=Ax.cells (Ax.mk x.kind x.opn x.right x.left x.ad x.cap x.roles x.role x.a x.b)) 1 cT_ bq_ H_ rfl rfl rfl rfl H v e d) g_ (fun v _ h=>by exact⟨⟨h.1.2.1,h.1.1,h.1.2.2⟩,trivial⟩)):G:=h
theorem iz_ {G:Prop} (h:G:=by
 refine o_ 1 H_ rfl rfl rfl rfl rfl rfl (Zz 4 ?_);exact cS_ ⟨((Ax.mk x.kind x.opn B L x.ad x.cap x.roles x.role x.a x.b),0),CJ_ G I (SdF.yes E A zau_) (SdF.yes C K zaJ_) zaa_⟩ (fun H v e d=>bM_ (us:=Ax.cells (Ax.mk x.kind x.opn B L x.ad x.cap x.roles x.role x.a x.b)) 1 cT_ bq_ H_ rfl rfl rfl rfl H v e d) g_ (fun v _ h=>by exact⟨⟨h.2.1,h.1,h.2.2.1.2.2⟩,trivial⟩)):G:=h
theorem iA_ {G:Prop} (h:G:=by
 refine o_ 1 H_ rfl rfl rfl rfl rfl rfl (Zz 4 ?_);exact cS_ ⟨((Ax.mk x.kind x.opn x.left B x.ad x.cap x.roles x.role x.a x.b),0),CJ_ G I (SdF.no zbj_) (SdF.yes C A zau_) zaa_⟩ (fun H v e d=>bM_ (us:=Ax.cells (Ax.mk x.kind x.opn x.left B x.ad x.cap x.roles x.role x.a x.b)) 1 cT_ bq_ H_ rfl rfl rfl rfl H v e d) g_ (fun v _ h=>by exact⟨⟨h.2.1.1,h.1,h.2.1.2.2⟩,trivial⟩)):G:=h
theorem iB_ {G:Prop} (h:G:=by
 refine o_ 1 H_ rfl rfl rfl rfl rfl rfl (Zz 4 ?_);exact cS_ ⟨((Ax.mk x.kind x.opn B x.right x.ad x.cap x.roles x.role x.a x.b),0),CJ_ G I (SdF.yes E A zau_) (SdF.no zbr_) zaa_⟩ (fun H v e d=>bM_ (us:=Ax.cells (Ax.mk x.kind x.opn B x.right x.ad x.cap x.roles x.role x.a x.b)) 1 cT_ bq_ H_ rfl rfl rfl rfl H v e d) g_ (fun v _ h=>by exact⟨⟨h.1,h.2.1.2.1,h.2.1.2.2⟩,trivial⟩)):G:=h
set_option maxHeartbeats 1000000 in
theorem sz_ (x:Ax) (G:x.ok):Tri prog 18 #[Ax.val x] [] [Ax.memF x,bN_] (fun y:{y:Ax×Int // TyR x y}=>.tuple #[Ax.val y.1.1,.int .i64 y.1.2]) (fun _=>[]) (fun y=>[Ax.memF y.1.1]):=by
 refine j_ func18 rfl rfl ntmps18 rfl fun T=>?_;refine Zz 2 ?_;refine K_ rfl rfl fun U=>y_ aG_ rfl fun V=>Zz 7 ?_
 refine f_ (gh_ x G) rfl g_ zf rfl fun _=>Zi 6 (fun N=>?_) fun N=>?_
 ·have I:Ax.check x=0:=by simpa using N
  have R:=wB_ I;refine Zz 9 ?_;refine e_ (dI_ runUnderlying83 eK_ rfl rfl (by show (0:Int)≤x.kind;omega) (by show x.kind<(10:Int);omega)) rfl ?_;obtain⟨ul,E⟩:∃ b,(us x.kind).left=b:=⟨_,rfl⟩;obtain⟨S,C⟩:∃ b,(us x.kind).right=b:=⟨_,rfl⟩;refine e_ (al_ (ad:=some ⟨0,0,none⟩) (us:=Use.cells (us x.kind)) isAgg82 eK_ rfl (fun v _ h=>h.2.1.2.1) (Use.cells_len _) (z_ Use.cells_len (us_get R))) rfl ?_;unfold Use.cells;rw[E,C];refine y_ zeroValue82 rfl fun W=>o_ 0 eK_ rfl rfl rfl rfl rfl rfl (Zz 5 ?_)
  refine o_ 1 H_ rfl rfl rfl rfl rfl rfl (Zz 9 ?_);cases ul
  ·refine Zz 10 ?_
   cases S
   ·refine Zi 8 (fun m=>?_) fun m=>?_
    ·refine Zi 6 (fun F=>?_) fun F=>?_
     ·refine Zz 17 ?_
      exact iy_
     refine Zz 11 ?_;refine f_ (eE_ x.left x.right (mS_ I (SdF.no zbj_) (ev_ zaa_).1) (iP_ I (SdF.no zbr_) (ev_ zaa_).2)) rfl g_ (fun v _ h=>by exact⟨h.1.1,h.1.2.1,trivial⟩) rfl fun _=>?_;refine ar_ rfl rfl ?_;refine Zi 0 (fun J=>?_) fun J=>?_
     ·refine Zz 9 ?_
      exact iy_
     exact mn_
    refine Zz 15 ?_;refine f_ (eE_ x.left x.right (mS_ I (SdF.no zbj_) (ev_ zaa_).1) (iP_ I (SdF.no zbr_) (ev_ zaa_).2)) rfl g_ (fun v _ h=>by exact⟨h.1.1,h.1.2.1,trivial⟩) rfl fun _=>?_;refine ar_ rfl rfl ?_;refine Zi 0 (fun F=>?_) fun F=>?_
    ·refine Zz 9 ?_
     exact iy_
    exact mn_
   refine Zz 5 ?_;refine f_ (up_ x.right G.right (hJ_ I C)) rfl g_ (fun v _ h=>by exact⟨h.1.2.1,trivial⟩) rfl fun⟨⟨B,O⟩,A⟩=>?_;dsimp only;try dsimp only at A
   refine Zz 4 ?_;refine o_ 1 n_ rfl rfl rfl rfl rfl rfl (Zi 6 (fun m=>?_) fun m=>?_)
   ·refine Zi 10 (fun F=>?_) fun F=>?_
    ·refine Zi 6 (fun J=>?_) fun J=>?_
     ·refine Zz 17 ?_
      exact iA_
     refine Zz 11 ?_;refine f_ (eE_ x.left B (mS_ I (SdF.no zbj_) (ev_ zaa_).1) (iP_ I (SdF.yes C A zau_) (ev_ zaa_).2)) rfl g_ (fun v _ h=>by exact⟨h.2.1.1,h.1,trivial⟩) rfl fun _=>?_;refine ar_ rfl rfl ?_;refine Zi 0 (fun M=>?_) fun M=>?_
     ·refine Zz 9 ?_
      exact iA_
     exact ml_
    refine Zz 15 ?_;refine f_ (eE_ x.left B (mS_ I (SdF.no zbj_) (ev_ zaa_).1) (iP_ I (SdF.yes C A zau_) (ev_ zaa_).2)) rfl g_ (fun v _ h=>by exact⟨h.2.1.1,h.1,trivial⟩) rfl fun _=>?_;refine ar_ rfl rfl ?_;refine Zi 0 (fun J=>?_) fun J=>?_
    ·refine Zz 9 ?_
     exact iA_
    exact ml_
   refine Zz 5 ?_;refine e_ (u_ strt30 rfl rfl) rfl (Zz 1 ?_);refine o_ 1 H_ rfl rfl rfl rfl rfl rfl (Zz 4 ?_);exact cS_ ⟨((Ax.mk 0 false (Con.mk 0 [] 0 0 none 0 []) (Con.mk 0 [] 0 0 none 0 []) none 0 [] [] [] []),O),TyE3 I (SdF.no zbj_) C A zau_⟩ (fun H v e d=>bM_ (us:=Ax.cells (Ax.mk 0 false (Con.mk 0 [] 0 0 none 0 []) (Con.mk 0 [] 0 0 none 0 []) none 0 [] [] [] [])) 1 cT_ bq_ H_ rfl rfl rfl rfl H v e d) g_ (fun v _ h=>by exact⟨⟨⟨.inl rfl,trivial⟩,⟨.inl rfl,trivial⟩,(.inl rfl)⟩,trivial⟩)
  refine Zz 5 ?_;refine f_ (up_ x.left G.left (jM_ I E)) rfl g_ (fun v _ h=>by exact⟨h.1.1,trivial⟩) rfl fun⟨⟨B,O⟩,A⟩=>?_;dsimp only;try dsimp only at A
  refine Zz 4 ?_;refine o_ 1 n_ rfl rfl rfl rfl rfl rfl (Zi 6 (fun m=>?_) fun m=>?_)
  ·refine Zz 12 ?_
   cases S
   ·refine Zi 8 (fun F=>?_) fun F=>?_
    ·refine Zi 6 (fun J=>?_) fun J=>?_
     ·refine Zz 17 ?_
      exact iB_
     refine Zz 11 ?_;refine f_ (eE_ B x.right (mS_ I (SdF.yes E A zau_) (ev_ zaa_).1) (iP_ I (SdF.no zbr_) (ev_ zaa_).2)) rfl g_ (fun v _ h=>by exact⟨h.1,h.2.1.2.1,trivial⟩) rfl fun _=>?_;refine ar_ rfl rfl ?_;refine Zi 0 (fun M=>?_) fun M=>?_
     ·refine Zz 9 ?_
      exact iB_
     exact mm_
    refine Zz 15 ?_;refine f_ (eE_ B x.right (mS_ I (SdF.yes E A zau_) (ev_ zaa_).1) (iP_ I (SdF.no zbr_) (ev_ zaa_).2)) rfl g_ (fun v _ h=>by exact⟨h.1,h.2.1.2.1,trivial⟩) rfl fun _=>?_;refine ar_ rfl rfl ?_;refine Zi 0 (fun J=>?_) fun J=>?_
    ·refine Zz 9 ?_
     exact iB_
    exact mm_
   refine Zz 5 ?_;refine f_ (up_ x.right G.right (hJ_ I C)) rfl g_ (fun v _ h=>by exact⟨h.2.1.2.1,trivial⟩) rfl fun⟨⟨L,Q⟩,K⟩=>?_;dsimp only;try dsimp only at K
   refine Zz 4 ?_;refine o_ 1 n_ rfl rfl rfl rfl rfl rfl (Zi 6 (fun F=>?_) fun F=>?_)
   ·refine Zi 10 (fun J=>?_) fun J=>?_
    ·refine Zi 6 (fun M=>?_) fun M=>?_
     ·refine Zz 17 ?_
      exact iz_
     refine Zz 11 ?_;refine f_ (eE_ B L (mS_ I (SdF.yes E A zau_) (ev_ zaa_).1) (iP_ I (SdF.yes C K zaJ_) (ev_ zaa_).2)) rfl g_ zf rfl fun _=>ar_ rfl rfl ?_
     refine Zi 0 (fun P=>?_) fun P=>?_
     ·refine Zz 9 ?_
      exact iz_
     exact mk_
    refine Zz 15 ?_;refine f_ (eE_ B L (mS_ I (SdF.yes E A zau_) (ev_ zaa_).1) (iP_ I (SdF.yes C K zaJ_) (ev_ zaa_).2)) rfl g_ zf rfl fun _=>ar_ rfl rfl ?_
    refine Zi 0 (fun M=>?_) fun M=>?_
    ·refine Zz 9 ?_
     exact iz_
    exact mk_
   refine Zz 5 ?_;refine e_ (u_ strt30 rfl rfl) rfl (Zz 1 ?_);refine o_ 1 H_ rfl rfl rfl rfl rfl rfl (Zz 4 ?_);exact cS_ ⟨((Ax.mk 0 false (Con.mk 0 [] 0 0 none 0 []) (Con.mk 0 [] 0 0 none 0 []) none 0 [] [] [] []),Q),TyE3 I (SdF.yes E A zau_) C K zaJ_⟩ (fun H v e d=>bM_ (us:=Ax.cells (Ax.mk 0 false (Con.mk 0 [] 0 0 none 0 []) (Con.mk 0 [] 0 0 none 0 []) none 0 [] [] [] [])) 1 cT_ bq_ H_ rfl rfl rfl rfl H v e d) g_ (fun v _ h=>by exact⟨⟨⟨.inl rfl,trivial⟩,⟨.inl rfl,trivial⟩,(.inl rfl)⟩,trivial⟩)
  refine Zz 5 ?_;refine e_ (u_ strt30 rfl rfl) rfl (Zz 1 ?_);refine o_ 1 H_ rfl rfl rfl rfl rfl rfl (Zz 4 ?_);exact cS_ ⟨((Ax.mk 0 false (Con.mk 0 [] 0 0 none 0 []) (Con.mk 0 [] 0 0 none 0 []) none 0 [] [] [] []),O),TyE2 I E A zau_⟩ (fun H v e d=>bM_ (us:=Ax.cells (Ax.mk 0 false (Con.mk 0 [] 0 0 none 0 []) (Con.mk 0 [] 0 0 none 0 []) none 0 [] [] [] [])) 1 cT_ bq_ H_ rfl rfl rfl rfl H v e d) g_ (fun v _ h=>by exact⟨⟨⟨.inl rfl,trivial⟩,⟨.inl rfl,trivial⟩,(.inl rfl)⟩,trivial⟩)
 refine Zz 5 ?_;refine e_ (u_ strt30 rfl rfl) rfl (Zz 1 ?_);refine o_ 0 H_ rfl rfl rfl rfl rfl rfl (Zz 4 ?_);exact cS_ ⟨((Ax.mk 0 false (Con.mk 0 [] 0 0 none 0 []) (Con.mk 0 [] 0 0 none 0 []) none 0 [] [] [] []),(Ax.check x)),TyE1 (by simpa using N)⟩ (fun H v e d=>bM_ (us:=Ax.cells (Ax.mk 0 false (Con.mk 0 [] 0 0 none 0 []) (Con.mk 0 [] 0 0 none 0 []) none 0 [] [] [] [])) 0 cT_ bq_ H_ rfl rfl rfl rfl H v e d) g_ (fun v _ h=>by exact⟨⟨⟨.inl rfl,trivial⟩,⟨.inl rfl,trivial⟩,(.inl rfl)⟩,trivial⟩)
end Go.Proofs.YthmjeabeoodghaaGreatDoor
