/-
  Part of the proof of the law CanonReaches over this seat: the small logic, the data, the contracts of functions (no condition).
-/
import Derived.Test.YtpbnmnfdgckaiaaGreatDoorQCanonReaches11
import Derived.Test.YtpbnmnfdgckaiaaGreatDoorQCanonReaches3
import Derived.Test.YtpbnmnfdgckaiaaGreatDoorQCanonReaches8
import Derived.Test.YtpbnmnfdgckaiaaGreatDoorQCanonReaches10
import Derived.Test.YtpbnmnfdgckaiaaGreatDoorQCanonReaches2
import Derived.Test.YtpbnmnfdgckaiaaGreatDoorQCanonReaches6
set_option linter.unusedVariables false
set_option linter.unusedSimpArgs false
set_option linter.unusedSectionVars false
set_option maxHeartbeats 1000000
namespace Go.Proofs.YtpbnmnfdgckaiaaGreatDoor
open Go Go.Sx Go.Proofs
attribute [local irreducible] Code.wp wpList wpAnyH
open Go.Vs
theorem ln_ {G:Prop} (h:G:=by
 refine y_ dS_ (Zz 14 ?_);exact w_ ⟨(k+1,(List.set (List.set M k d) (Int.toNat ((List.length L:Int) - 1 - (k:Int))) h),x,C),(by have q:=U.step I (show M[List.length L - 1 - k]? = some d from by rw[show List.length L - 1 - k=(Int.toNat ((List.length L:Int) - 1 - (k:Int))) by omega];exact m) v;rw[show List.length L - 1 - k=(Int.toNat ((List.length L:Int) - 1 - (k:Int))) by omega]at q;exact q),O,K⟩ zt_ ⟨rfl,rfl,(cf_ rfl zt_),trivial⟩ ac_ zt):G:=h
theorem ue_ (L:List Int) (sv:Value) (Hr:Hp) (Y:zR 3 1 fF_ sv L Hr) (hl:L.length≤1000000000):Tri Tryz.prog 108 #[sv] Hr [] (fun _:{H:Hp // zR 3 1 fF_ sv L.reverse H}=>.tuple #[]) (fun y=>y.1) (fun _=>[]):=by
 refine i_ Tryz.func108 rfl rfl Tryz.ntmps108 rfl fun Z=>?_;refine Zz 3 ?_;refine e_ (dJ_ Y at_ rfl) rfl (Zz 6 ?_);refine bs_ [(0,sv),(2,.int .i64 0),(3,.int .i64 ((List.length L:Int) - 1 - ((0:Nat):Int)))] ⟨rfl,rfl,(cf_ rfl zs_),trivial⟩ ?_;refine M_ (ι:={y:Nat×List Int×Value×Hp // RevI L y.2.1 y.1∧y.2.2.1=sv∧zR 3 1 fF_ y.2.2.1 y.2.1 y.2.2.2}) (fun y=>[(0,y.1.2.2.1),(2,.int .i64 (y.1.1:Int)),(3,.int .i64 ((List.length L:Int) - 1 - (y.1.1:Int)))]) (fun y=>(y.1.2.2.2)) (fun y=>[]) (fun y=>List.length L - y.1.1) ⟨((0:Nat),L,sv,Hr),RevI.zero L,rfl,Y⟩ zl ac_ zt ?_;rintro ⟨⟨k,M,x,W⟩,U,O,e⟩;dsimp only at U O e ⊢;refine Zi 5 (fun B=>?_) fun B=>?_
 ·refine Zz 5 ?_
  have eM:=U.done B;subst eM;rw[O]at e;exact co_ Tryz.results108 ⟨W,e⟩ rfl ac_ zt
 have I:=B;have a0:=U.len;have R:(Int.toNat ((List.length L:Int) - 1 - (k:Int)))<List.length M:=by omega
 obtain⟨d,m⟩:∃ P,M[(Int.toNat ((List.length L:Int) - 1 - (k:Int)))]? = some P:=⟨_,List.getElem?_eq_getElem R⟩;have V:d∈M:=List.mem_of_getElem? m;have S:k<List.length M:=by omega
 obtain⟨h,v⟩:∃ P,M[k]? = some P:=⟨_,List.getElem?_eq_getElem S⟩;have X:h∈M:=List.mem_of_getElem? v;refine Zz 7 ?_;refine af_ ([]) zk ?_;refine K_ 6 [0,1,2,3,4,5,6,8,9,10] zk zs (Zz 6 ?_);refine N_ rfl (bF_ e at_ ak_ rfl rfl zs_ zs_) rfl (Zz 2 ?_);refine N_ rfl (bF_ e at_ ak_ rfl rfl zs_ zs_) rfl (bv_ ?_);refine gG_ 7 11 rfl rfl zk ?_ ?_
 ·refine e_ (cF_ e ac_ aN_ rfl (o_ dO_ m 0 _ rfl)) rfl (Zz 3 ?_)
  refine s_ 11 rfl zk (e_ (cF_ e ac_ aN_ rfl (o_ dO_ v 0 _ rfl)) rfl (Zz 3 ?_));refine K_ 3 [12] zk zs (N_ rfl (bF_ e at_ ak_ rfl rfl zs_ zs_) rfl (bv_ (s_ 13 rfl zk (fj_ (k:=(k:Int).toNat*1+0) e ac_ ak_ rfl rfl zs_ rfl rfl fun F B=>?_))));have E:=(iD_ fF_ 1 dO_ M k 0 h d (.int .i64 d) v zw_ rfl).trans (congrArg _ (rfl));have A:ay_ 3 1 x (List.length (List.set M k d)) (List.flatMap fF_ (List.set M k d)) F:=by rw[← E,show List.length (List.set M k d)=List.length M from (List.length_set ..)];exact B
  refine y_ dS_ (Zz 3 ?_);refine s_ 14 rfl zk ?_;have J:(List.set M k d)[(Int.toNat ((List.length L:Int) - 1 - (k:Int)))]? = some d:=by rw[List.getElem?_set_ne zs_];exact m
  have Q:(Int.toNat ((List.length L:Int) - 1 - (k:Int)))<List.length (List.set M k d):=by rw[List.length_set];omega
  refine e_ (bF_ A at_ ak_ rfl rfl zs_ zs_) rfl (Zz 3 ?_);refine s_ 15 rfl zk (fj_ (k:=((Int.toNat ((List.length L:Int) - 1 - (k:Int))):Int).toNat*1+0) A ac_ ak_ rfl rfl zs_ rfl rfl fun C G=>?_);have N:=(iD_ fF_ 1 dO_ (List.set M k d) (Int.toNat ((List.length L:Int) - 1 - (k:Int))) 0 d h (.int .i64 h) J zw_ rfl).trans (congrArg _ (rfl));have K:ay_ 3 1 x (List.length (List.set (List.set M k d) (Int.toNat ((List.length L:Int) - 1 - (k:Int))) h)) (List.flatMap fF_ (List.set (List.set M k d) (Int.toNat ((List.length L:Int) - 1 - (k:Int))) h)) C:=by rw[← N,show List.length (List.set (List.set M k d) (Int.toNat ((List.length L:Int) - 1 - (k:Int))) h)=List.length (List.set M k d) from (List.length_set ..)];exact G
  exact ln_
 refine e_ (cF_ e ac_ aN_ rfl (o_ dO_ v 0 _ rfl)) rfl (Zz 3 ?_);refine s_ 7 rfl zk (e_ (cF_ e ac_ aN_ rfl (o_ dO_ m 0 _ rfl)) rfl (Zz 3 ?_));refine K_ 3 [12] zk zs (N_ rfl (bF_ e at_ ak_ rfl rfl zs_ zs_) rfl (bv_ (s_ 13 rfl zk (fj_ (k:=(k:Int).toNat*1+0) e ac_ ak_ rfl rfl zs_ rfl rfl fun F G=>?_))));have E:=(iD_ fF_ 1 dO_ M k 0 h d (.int .i64 d) v zw_ rfl).trans (congrArg _ (rfl));have A:ay_ 3 1 x (List.length (List.set M k d)) (List.flatMap fF_ (List.set M k d)) F:=by rw[← E,show List.length (List.set M k d)=List.length M from (List.length_set ..)];exact G
 refine y_ dS_ (Zz 3 ?_);refine s_ 14 rfl zk ?_;have J:(List.set M k d)[(Int.toNat ((List.length L:Int) - 1 - (k:Int)))]? = some d:=by rw[List.getElem?_set_ne zs_];exact m
 have Q:(Int.toNat ((List.length L:Int) - 1 - (k:Int)))<List.length (List.set M k d):=by rw[List.length_set];omega
 refine e_ (bF_ A at_ ak_ rfl rfl zs_ zs_) rfl (Zz 3 ?_);refine s_ 15 rfl zk (fj_ (k:=((Int.toNat ((List.length L:Int) - 1 - (k:Int))):Int).toNat*1+0) A ac_ ak_ rfl rfl zs_ rfl rfl fun C T=>?_);have N:=(iD_ fF_ 1 dO_ (List.set M k d) (Int.toNat ((List.length L:Int) - 1 - (k:Int))) 0 d h (.int .i64 h) J zw_ rfl).trans (congrArg _ (rfl));have K:ay_ 3 1 x (List.length (List.set (List.set M k d) (Int.toNat ((List.length L:Int) - 1 - (k:Int))) h)) (List.flatMap fF_ (List.set (List.set M k d) (Int.toNat ((List.length L:Int) - 1 - (k:Int))) h)) C:=by rw[← N,show List.length (List.set (List.set M k d) (Int.toNat ((List.length L:Int) - 1 - (k:Int))) h)=List.length (List.set M k d) from (List.length_set ..)];exact T
 exact ln_
def b2C (e:Bool×Bool):List Value:=[.bool e.1,.bool e.2]
theorem kx_ (e:Bool×Bool):(b2C e).length=2:=rfl
structure SeenI (W:List Wy) (B:List (Bool×Bool)) (n:Nat):Prop where
  len:B.length=n
  at':∀ r,r<n→B[r]? = some (md_ W r false,md_ W r true)
theorem oQ_ (W:List Wy) (w:Wy) (r:Nat) (b:Bool):md_ (W++[w]) r b=(md_ W r b||(w.role==r&&w.strict==b)):=by simp[md_]
theorem SeenI.push {W:List Wy} {B:List (Bool×Bool)} {n r:Nat} {b:Bool} {bf m:Nat} {u:Bool×Bool} (h:SeenI W B n) (v:B[r]? = some u):SeenI (W++[⟨r,b,bf,m⟩]) (B.set r (if b then (u.1,true) else (true,u.2))) n:=by
 have k:=(List.getElem?_eq_some_iff.1 v).1;have hl:=h.len;refine⟨by rw[List.length_set,h.len],fun q x=>?_⟩;have d:=h.at' q x;rw[oQ_,oQ_,List.getElem?_set]
 by_cases e:r=q
 ·subst e
  rw[if_pos rfl,if_pos k];rw[v]at d;simp only[Option.some.injEq]at d;subst d;cases b<;>simp
 rw[if_neg e,d];have:(r==q)=false:=by simp[e]
 simp[this]
theorem SeenI.init {n s:Nat} (h:s<n):SeenI [⟨s,false,0,0⟩] (List.set (List.replicate n (false,false)) s (true,false)) n:=by
  have k:SeenI [] (List.replicate n (false,false)) n:=⟨List.length_replicate,fun r e=>by rw[List.getElem?_replicate,if_pos e];rfl⟩;have d:(List.replicate n (false,false))[s]? = some (false,false):=by rw[List.getElem?_replicate,if_pos h]
  have:=k.push (b:=false) (bf:=0) (m:=0) d;simpa using this
def CirR (G:List (List (Nat×Bool))) (start most:Nat) (L:List Int) (ad:Option Addr) (cap:Nat):Prop :=
  (L=[]∧ad=none∧cap=0∧∀ (n:Nat) (f:Nat→Nat) (c:Nat→Bool),Clw (gE G) n f c→f 0=start→most≤n) ∨
  (ad≠none∧(∃ n,Clo (gE G) n)∧(∀ x∈L,0≤x∧x<(G.length:Int))∧L.length≤2*G.length+1)
theorem ii_ {P:Program} {N:Nf} {fr:Fr} {H:Hp} {Γ:List Fct} {t e ty:TypeId} {x y:Operand} {b k i:Nat} (h:∀ w,(underlying t).run P w=.ok (.array 2 e) w) (d:∀ w,(sizeOf e).run P w=.ok 1 w) (m:Fr.ev fr x=some (zp_ b k)) (q:Fr.ev fr y=some (.int .i64 (i:Int))) (hi:i<2) :
    Yld P N fr H Γ (.indexAddr t x y) ty (.pointer (some ⟨b,k+i,none⟩)):=by
  have:=dZ_ (P:=P) (N:=N) (fr:=fr) (H:=H) (Γ:=Γ) (ty:=ty) h d m q zs_ zs_;rwa [Nat.mul_one,Int.toNat_natCast]at this
theorem ay_.lit {e:TypeId} {sz b:Nat} {d:List Value} {n:Nat} (hl:d.length=n*sz) (h:n≤maxLen):ay_ e sz (.slice (some ⟨b,0,none⟩) n n) n d [(b,.cells d.toArray e (0,0))] :=
  ⟨hl,.inr ⟨b,n,d.toArray,rfl,rfl,Nat.le_refl _,h,by simpa using hl,by rw[← hl];simp⟩⟩
theorem lm_ {G:Prop} (h:G:=by
 have a1:=V;refine Zz 8 ?_;exact w_ ⟨(k+1,a0,N,K,O,I,a8),(J.skip G hGw T (fun q=>by have F:=hcll;rw[q.2]at F;simp[q.1]at F) (by rw[U];have F:=a1;rw[hbe]at F;exact F)),M,G,a3,A,C⟩ zt_ zl (j_ (c_ d_) (j_ (c_ d_) (z_ (c_ t_) C_))) zh):G:=h
theorem wS_ (R:List Str) (rad:Option Addr) (rcap:Nat) (X:List Grw) (a4:Option Addr) (a7 d most:Nat) (hlen:X.length=R.length) (hs:d<X.length) (hto:∀ (i:Nat) (l:List (Nat×Bool)),(List.map Grw.st X)[i]? = some l→∀ s∈l,s.1<((List.map Grw.st X)).length) (hXl:X.length≤100000) (hrows:∀ y∈X,y.st.length≤100000000) (hmost:most≤200000):Tri Tryz.prog 68 #[.agg #[.slice rad (List.length R) rcap,.slice a4 (List.length X) a7],.int .i64 (d:Int),.int .i64 (most:Int)] [] [ah_ rad (List.flatMap ag_ R),ah_ a4 (List.flatMap Grw.cells X),hU_ X] (fun y:{y:List Int×Option Addr×Nat // CirR (List.map Grw.st X) d most y.1 y.2.1 y.2.2∧List.length y.1≤y.2.2∧y.2.2≤maxLen∧(y.2.1=none→y.2.2=0)}=>.slice y.1.2.1 (List.length y.1.1) y.1.2.2) (fun _=>[]) (fun y=>[ah_ y.1.2.1 (List.flatMap fF_ y.1.1)]):=by
 refine i_ Tryz.func68 rfl rfl Tryz.ntmps68 rfl fun v_1=>?_;refine Zz 2 ?_;refine aa_ rfl rfl fun a5=>Zz 3 ?_
 refine kI_ (Zz 3 ?_);refine e_ (I_ pi_ rfl rfl) rfl (U_ eh_ fZ_ oi_ rfl rfl rfl rfl rfl rfl fun b_2=>Zz 4 ?_);have hqW:ay_ 164 4 (.slice (some ⟨b_2,0,none⟩) 1 1) (List.length [(Wy.mk d false 0 0)]) (List.flatMap wyC [(Wy.mk d false 0 0)]) [(b_2,.cells #[.int .i64 (d:Int),.bool false,.int .i64 (0:Int),.int .i64 (0:Int)] 164 (0,0))]:=ay_.lit rfl zw_;refine y_ (H':=([(b_2,.cells #[.int .i64 (d:Int),.bool false,.int .i64 (0:Int),.int .i64 (0:Int)] 164 (0,0))]++((a5,.cells #[.slice rad (List.length R) rcap,.slice a4 (List.length X) a7] 103 (0,0))::[]))) (List.Perm.refl _) (Zz 4 ?_);refine qK_ (n:=List.length R) (by':=2) Tryz.underlying166 (z:=.agg #[.bool false,.bool false]) zk rfl zw_ rfl rfl zs_ zE_ rfl fun svB HrB hrB=>?_;have hqB:ay_ 167 2 svB (List.length (List.replicate (List.length R) (false,false))) (List.flatMap b2C (List.replicate (List.length R) (false,false))) HrB:=by rw[List.length_replicate,← pX_ b2C];exact hrB
 have hzl:List.length (List.replicate (List.length R) (false,false))=List.length R:=List.length_replicate;have hz_1:(List.replicate (List.length R) (false,false))[d]? = some (false,false):=by rw[List.getElem?_replicate,if_pos zs_]
 refine Zz 3 ?_;refine y_ (bb_ (f_ aP_)) (Zz 4 ?_);refine e_ (bF_ hqB jk_ vw_ rfl rfl zs_ zs_) rfl (e_ (ii_ (i:=0) jj_ dQ_ rfl rfl zw_) rfl (fj_ (k:=(d:Int).toNat*2+0) hqB zp dQ_ rfl rfl zs_ rfl rfl fun Hr_1 hr_1=>?_));have hs_1:=(iD_ b2C 2 kx_ (List.replicate (List.length R) (false,false)) d 0 (false,false) (true,false) (.bool true) hz_1 zw_ rfl).trans (congrArg _ (rfl));have hq_1:ay_ 167 2 svB (List.length (List.set (List.replicate (List.length R) (false,false)) d (true,false))) (List.flatMap b2C (List.set (List.replicate (List.length R) (false,false)) d (true,false))) Hr_1:=by rw[← hs_1,show List.length (List.set (List.replicate (List.length R) (false,false)) d (true,false))=List.length (List.replicate (List.length R) (false,false)) from (List.length_set ..)];exact hr_1
 refine Zz 3 ?_;refine kK_ (Zz 2 ?_);refine y_ (bb_ (f_ d_)) (Zz 6 ?_);refine M_ (ι:={y:Nat×List Wy×List (Bool×Bool)×Value×Hp×Value×Hp // BI (List.map Grw.st X) d y.2.1 y.1 0∧SeenI y.2.1 y.2.2.1 (List.length X)∧y.1≤List.length y.2.1∧zR 164 4 wyC y.2.2.2.1 y.2.1 y.2.2.2.2.1∧zR 167 2 b2C y.2.2.2.2.2.1 y.2.2.1 y.2.2.2.2.2.2}) (fun y=>[(1,.int .i64 (d:Int)),(2,.int .i64 (most:Int)),(3,zp_ a5 0),(6,.slice none 0 0),(7,y.1.2.2.2.1),(8,y.1.2.2.2.2.2.1),(9,.int .i64 (y.1.1:Int))]) (fun y=>((a5,.cells #[.slice rad (List.length R) rcap,.slice a4 (List.length X) a7] 103 (0,0))::(y.1.2.2.2.2.1++y.1.2.2.2.2.2.2))) (fun y=>[ah_ rad (List.flatMap ag_ R),ah_ a4 (List.flatMap Grw.cells X),hU_ X]) (fun y=>2*List.length X - y.1.1) ⟨((0:Nat),[(Wy.mk d false 0 0)],(List.set (List.replicate (List.length R) (false,false)) d (true,false)),(.slice (some ⟨b_2,0,none⟩) 1 1),[(b_2,.cells #[.int .i64 (d:Int),.bool false,.int .i64 (0:Int),.int .i64 (0:Int)] 164 (0,0))],svB,Hr_1),BI.init (by rw[List.length_map];exact hs),(by rw[hlen];exact SeenI.init zs_),zB_,hqW,hq_1⟩ zl zp zh ?_;rintro ⟨⟨a,W,Bl,K,O,I,a8⟩,hI,hSn,ha,A,C⟩;dsimp only at hI hSn ha A C ⊢;refine Zz 5 ?_;refine e_ (dJ_ A eh_ rfl) rfl ?_;refine Zi 0 (fun hr_1=>?_) fun hr_1=>?_
 ·refine Zz 12 ?_
  exact ae_ Tryz.results68 ⟨([],none,0),.inl ⟨rfl,rfl,rfl,fun n f c hc hf=>hI.none (fun w hw=>by have:=(List.getElem?_eq_some_iff.1 hw).1;omega) hto hc hf⟩,by simp[maxLen]⟩ rfl m_ (fun v _ h=>⟨.inl rfl,trivial⟩)
 have hlw_1:a<List.length W:=by omega
 obtain⟨E,a6⟩:∃ B,W[a]? = some B:=⟨_,List.getElem?_eq_getElem hlw_1⟩;have hmw_1:E∈W:=List.mem_of_getElem? a6;have hrole:=hI.role a E a6;rw[List.length_map]at hrole;have hmny:=hI.many a E a6;have hWl:=hI.len;rw[List.length_map]at hWl;have hly_1:(Wy.role E)<List.length X:=hrole;obtain⟨H,hy_1⟩:∃ B,X[(Wy.role E)]? = some B:=⟨_,List.getElem?_eq_getElem hly_1⟩;have hmy_1:H∈X:=List.mem_of_getElem? hy_1;have hGw:(List.map Grw.st X)[Wy.role E]? = some (Grw.st H):=by rw[List.getElem?_map,hy_1];rfl
 have hyl:=hrows H hmy_1;refine Zz 11 ?_;refine e_ (bF_ A eh_ fZ_ rfl rfl zs_ zs_) rfl (e_ (eZ_ A zp Tryz.isAgg164 fZ_ rfl (mk_ _) zw_ (o_ mk_ a6)) rfl (G_ oi_ rfl fun b_3=>u_ 0 fZ_ rfl rfl rfl rfl rfl rfl (Zz 7 ?_)));refine e_ (ar_ (bc_ rfl rfl rfl (cm_ zs_ zs_)) (show _=Value.int .i64 ((Wy.many E+1:Nat):Int) from congrArg _ zs_)) rfl (Zi 1 (fun hr_2=>?_) fun hr_2=>?_)
 ·refine Zz 18 ?_
  refine M_ (ι:={y:Nat×List Wy×List (Bool×Bool)×Value×Hp×Value×Hp // BI (List.map Grw.st X) d y.2.1 a y.1∧SeenI y.2.1 y.2.2.1 (List.length X)∧y.2.1[a]? = some E∧y.1≤List.length (Grw.st H)∧zR 164 4 wyC y.2.2.2.1 y.2.1 y.2.2.2.2.1∧zR 167 2 b2C y.2.2.2.2.2.1 y.2.2.1 y.2.2.2.2.2.2}) (fun y=>[(1,.int .i64 (d:Int)),(2,.int .i64 (most:Int)),(3,zp_ a5 0),(6,.slice none 0 0),(7,y.1.2.2.2.1),(8,y.1.2.2.2.2.2.1),(9,.int .i64 (a:Int)),(10,zp_ b_3 0),(46,.slice (Grw.ad H) (List.length (Grw.st H)) (Grw.cap H)),(47,.int .i64 (List.length (Grw.st H):Int)),(48,.int .i64 (y.1.1:Int))]) (fun y=>((b_3,.cells #[.int .i64 (Wy.role E:Int),.bool (Wy.strict E),.int .i64 (Wy.before E:Int),.int .i64 (Wy.many E:Int)] 164 (0,0))::((a5,.cells #[.slice rad (List.length R) rcap,.slice a4 (List.length X) a7] 103 (0,0))::(y.1.2.2.2.2.1++y.1.2.2.2.2.2.2)))) (fun y=>[ah_ rad (List.flatMap ag_ R),ah_ a4 (List.flatMap Grw.cells X),hU_ X]) (fun y=>List.length (Grw.st H) - y.1.1) ⟨((0:Nat),W,Bl,K,O,I,a8),hI,hSn,a6,zs_,A,C⟩ zl zp zh ?_;rintro ⟨⟨k,a0,N,K,O,I,a8⟩,J,M,G,hk,A,C⟩;dsimp only at J M G hk A C ⊢;refine Zi 2 (fun hr_3=>?_) fun hr_3=>?_
  ·refine Zz 8 ?_
   refine e_ (ar_ (bc_ rfl rfl rfl (cm_ zs_ zs_)) (show _=Value.int .i64 ((a+1:Nat):Int) from congrArg _ zs_)) rfl (Zz 3 ?_);exact w_ ⟨(a+1,a0,N,K,O,I,a8),J.next G hGw zs_,M,(by have:=(List.getElem?_eq_some_iff.1 G).1;dsimp only;omega),A,C⟩ (by have q_1:=J.len;have q_2:=(List.getElem?_eq_some_iff.1 G).1;rw[List.length_map]at q_1;dsimp only;omega) zl (j_ (c_ d_) (z_ (c_ t_) C_)) zh
  have a3:k<List.length (Grw.st H):=by omega
  obtain⟨B,T⟩:∃ B,(Grw.st H)[k]? = some B:=⟨_,List.getElem?_eq_getElem a3⟩;have hme_1:B∈(Grw.st H):=List.mem_of_getElem? T;have hto_1:=hto _ _ hGw B hme_1;have hto_2:Prod.fst B<List.length X:=by have q:=hto_1;rw[List.length_map]at q;exact q
  have hWl_1:=J.len;rw[List.length_map]at hWl_1;have hbl:=M.len;have hal:=(List.getElem?_eq_some_iff.1 G).1;have hbv_1:=M.at' (Prod.fst B) hto_2;obtain⟨bv,hbv,hbe⟩:∃ bv,N[Prod.fst B]? = some bv∧bv=(md_ a0 (Prod.fst B) false,md_ a0 (Prod.fst B) true):=⟨_,hbv_1,rfl⟩;refine Zz 10 ?_;refine e_ (S_ bZ_ Tryz.sizeOf160 rfl rfl (fun v _ h=>au_ (n:=2) nN_ zw_ (by exact (h.2.2.1 H hmy_1)) T) zs_ zz_) rfl ?_;refine e_ (aj_ (ad:=(Grw.ad H)) (us:=ro_ B) Tryz.isAgg160 Tryz.sizeOf160 rfl (fun v _ h=>by exact (h.2.2.1 H hmy_1)) (nN_ _) (o_ nN_ T)) rfl (G_ Tryz.zeroValue160 rfl fun b_4=>u_ 0 Tryz.sizeOf160 rfl rfl rfl rfl rfl rfl (Zz 5 ?_));refine B_ (aE_ 1 Tryz.isAgg4 rfl rfl rfl) rfl fun r_1 hr_4=>Zz 1 ?_
  refine ai_ 3 (((Wy.strict E))||((Prod.snd B))) (fun r=>[(1,.int .i64 (d:Int)),(2,.int .i64 (most:Int)),(3,zp_ a5 0),(6,.slice none 0 0),(7,K),(8,I),(9,.int .i64 (a:Int)),(10,zp_ b_3 0),(46,.slice (Grw.ad H) (List.length (Grw.st H)) (Grw.cap H)),(47,.int .i64 (List.length (Grw.st H):Int)),(48,.int .i64 (k:Int)),(12,zp_ b_4 0),(57,.bool r)]) ?_ fun r_2 b0=>?_
  ·cases r_1
   ·have Y:=hr_4
    refine Zz 3 ?_;refine B_ (aE_ 0 Tryz.isAgg4 rfl rfl rfl) rfl fun r_3 P=>Zz 3 ?_
    exact met (zm (jof Y P))
   have Y:=hr_4;refine Zz 5 ?_;exact met ⟨rfl,rfl,rfl,rfl,rfl,rfl,rfl,rfl,rfl,rfl,rfl,rfl,(n_ rfl (jot Y)),trivial⟩
  refine Zz 9 ?_;refine B_ (bt_ rfl rfl) rfl fun r_3 P=>Zz 1 ?_
  refine ai_ 2 ((((Prod.fst B:Nat):Int)==(d:Int))&&((((Wy.strict E))||((Prod.snd B))))) (fun r=>[(1,.int .i64 (d:Int)),(2,.int .i64 (most:Int)),(3,zp_ a5 0),(6,.slice none 0 0),(7,K),(8,I),(9,.int .i64 (a:Int)),(10,zp_ b_3 0),(46,.slice (Grw.ad H) (List.length (Grw.st H)) (Grw.cap H)),(47,.int .i64 (List.length (Grw.st H):Int)),(48,.int .i64 (k:Int)),(12,zp_ b_4 0),(13,.bool r_2),(64,.bool r)]) ?_ fun r_4 hr_7=>?_
  ·cases r_3
   ·have Y:=P
    replace P:=znb P;refine Zz 4 ?_;exact met ⟨rfl,rfl,rfl,rfl,rfl,rfl,rfl,rfl,rfl,rfl,rfl,rfl,rfl,(n_ rfl (jaf Y)),trivial⟩
   have Y:=P;replace P:=zeb P;refine Zz 5 ?_;exact met ⟨rfl,rfl,rfl,rfl,rfl,rfl,rfl,rfl,rfl,rfl,rfl,rfl,rfl,(n_ rfl (jat Y b0)),trivial⟩
  refine Zz 2 ?_;cases r_4
  ·have hcll:=hr_7
   refine Zz 14 ?_;cases r_2
   ·have U:=b0
    refine Zz 10 ?_;refine e_ (bF_ C jk_ vw_ rfl rfl zs_ zs_) rfl (e_ (ii_ (i:=0) jj_ dQ_ rfl rfl zw_) rfl (B_ (cF_ C (c_ (c_ (c_ aP_))) Tryz.isAgg4 rfl (o_ kx_ hbv 0 _ rfl)) rfl fun r_5 V=>Zz 2 ?_));cases r_5
    ·have a1:=V
     refine Zz 9 ?_;refine e_ (bF_ C jk_ vw_ rfl rfl zs_ zs_) rfl (e_ (ii_ (i:=0) jj_ dQ_ rfl rfl zw_) rfl (fj_ (k:=((Prod.fst B:Nat):Int).toNat*2+0) C (c_ (c_ (c_ aP_))) dQ_ rfl rfl zs_ rfl rfl fun Q hr_2=>?_));have hs_2:=(iD_ b2C 2 kx_ N (Prod.fst B:Nat) 0 bv (true,Prod.snd bv) (.bool true) hbv zw_ rfl).trans (congrArg _ (rfl));have a2:ay_ 167 2 I (List.length (List.set N (Prod.fst B:Nat) (true,Prod.snd bv))) (List.flatMap b2C (List.set N (Prod.fst B:Nat) (true,Prod.snd bv))) Q:=by rw[← hs_2,show List.length (List.set N (Prod.fst B:Nat) (true,Prod.snd bv))=List.length N from (List.length_set ..)];exact hr_2
     refine Zz 2 ?_;refine y_ (R_ (f_ d_) (R_ (f_ d_) (bb_ (f_ d_)))) (Zz 8 ?_);refine e_ (ar_ (bc_ rfl rfl rfl (cm_ zs_ zs_)) (show _=Value.int .i64 ((Wy.many E+1:Nat):Int) from congrArg _ zs_)) rfl (e_ (I_ pi_ rfl rfl) rfl (U_ eh_ fZ_ oi_ rfl rfl rfl rfl rfl rfl fun b_5=>?_));refine an_ (news:=List.flatMap wyC [(Wy.mk (Prod.fst B:Nat) false a (Wy.many E+1:Nat))]) wD_ A rfl rfl zp rfl (aO_ 0 rfl) (fun u hu=>aA_ sY_ hu) zG_ zJ_ rfl fun S Hr_3 hr_3=>?_;have hq_3:=zsa hr_3;refine Zz 3 ?_;refine y_ (R_ (f_ d_) (R_ (f_ d_) (R_ (f_ d_) (bb_ (f_ d_))))) (Zz 5 ?_);exact w_ ⟨(k+1,(a0++[(Wy.mk (Prod.fst B:Nat) false a (Wy.many E+1:Nat))]),(List.set N (Prod.fst B:Nat) (true,Prod.snd bv)),S,Hr_3,I,Q),zZ_,(M.push (b:=false) (bf:=a) (m:=Wy.many E+1) hbv),zaD_,a3,hq_3,a2⟩ zt_ zl (j_ (c_ (c_ d_)) (j_ (c_ (c_ d_)) (z_ (c_ (c_ t_)) (c_ C_)))) zh
    exact lm_
   have U:=b0;refine Zz 12 ?_;refine e_ (bF_ C jk_ vw_ rfl rfl zs_ zs_) rfl (e_ (ii_ (i:=1) jj_ dQ_ rfl rfl zw_) rfl (B_ (cF_ C (c_ (c_ (c_ aP_))) Tryz.isAgg4 rfl (o_ kx_ hbv 1 _ rfl)) rfl fun r_5 V=>Zz 2 ?_));cases r_5
   ·have a1:=V
    refine Zz 9 ?_;refine e_ (bF_ C jk_ vw_ rfl rfl zs_ zs_) rfl (e_ (ii_ (i:=1) jj_ dQ_ rfl rfl zw_) rfl (fj_ (k:=((Prod.fst B:Nat):Int).toNat*2+1) C (c_ (c_ (c_ aP_))) dQ_ rfl rfl zs_ rfl rfl fun Q hr_4=>?_));have hs_2:=(iD_ b2C 2 kx_ N (Prod.fst B:Nat) 1 bv (Prod.fst bv,true) (.bool true) hbv zw_ rfl).trans (congrArg _ (rfl));have a2:ay_ 167 2 I (List.length (List.set N (Prod.fst B:Nat) (Prod.fst bv,true))) (List.flatMap b2C (List.set N (Prod.fst B:Nat) (Prod.fst bv,true))) Q:=by rw[← hs_2,show List.length (List.set N (Prod.fst B:Nat) (Prod.fst bv,true))=List.length N from (List.length_set ..)];exact hr_4
    refine Zz 2 ?_;refine y_ (R_ (f_ d_) (R_ (f_ d_) (bb_ (f_ d_)))) (Zz 8 ?_);refine e_ (ar_ (bc_ rfl rfl rfl (cm_ zs_ zs_)) (show _=Value.int .i64 ((Wy.many E+1:Nat):Int) from congrArg _ zs_)) rfl (e_ (I_ pi_ rfl rfl) rfl (U_ eh_ fZ_ oi_ rfl rfl rfl rfl rfl rfl fun b_5=>?_));refine an_ (news:=List.flatMap wyC [(Wy.mk (Prod.fst B:Nat) true a (Wy.many E+1:Nat))]) wD_ A rfl rfl zp rfl (aO_ 0 rfl) (fun u hu=>aA_ sY_ hu) zG_ zJ_ rfl fun S Hr_3 b0=>?_;have hq_3:=zsa b0;refine Zz 3 ?_;refine y_ (R_ (f_ d_) (R_ (f_ d_) (R_ (f_ d_) (bb_ (f_ d_))))) (Zz 5 ?_);exact w_ ⟨(k+1,(a0++[(Wy.mk (Prod.fst B:Nat) true a (Wy.many E+1:Nat))]),(List.set N (Prod.fst B:Nat) (Prod.fst bv,true)),S,Hr_3,I,Q),zZ_,(M.push (b:=true) (bf:=a) (m:=Wy.many E+1) hbv),zaD_,a3,hq_3,a2⟩ zt_ zl (j_ (c_ (c_ d_)) (j_ (c_ (c_ d_)) (z_ (c_ (c_ t_)) (c_ C_)))) zh
   exact lm_
  have hclT:=hr_7;refine Zz 3 ?_;refine y_ (H':=((b_4,.cells #[.int .i64 ((Prod.fst B:Nat):Int),.bool (Prod.snd B)] 160 (0,0))::((b_3,.cells #[.int .i64 (Wy.role E:Int),.bool (Wy.strict E),.int .i64 (Wy.before E:Int),.int .i64 (Wy.many E:Int)] 164 (0,0))::((a5,.cells #[.slice rad (List.length R) rcap,.slice a4 (List.length X) a7] 103 (0,0))::(O++(a8++([]:Hp))))))) (List.Perm.cons _ (List.Perm.cons _ (List.Perm.cons _ (List.Perm.append_left O (List.Perm.of_eq (List.append_nil _).symm))))) ?_;refine M_ (ι:={y:Nat×List Int×Value×Hp×Value×Hp // y.1≤a∧(∀ x∈y.2.1,0≤x∧x<(List.length X:Int))∧List.length y.2.1+y.1≤a∧zR 164 4 wyC y.2.2.1 a0 y.2.2.2.1∧zR 3 1 fF_ y.2.2.2.2.1 y.2.1 y.2.2.2.2.2}) (fun y=>[(1,.int .i64 (d:Int)),(2,.int .i64 (most:Int)),(3,zp_ a5 0),(6,y.1.2.2.2.2.1),(7,y.1.2.2.1),(8,I),(9,.int .i64 (y.1.1:Int)),(10,zp_ b_3 0),(46,.slice (Grw.ad H) (List.length (Grw.st H)) (Grw.cap H)),(47,.int .i64 (List.length (Grw.st H):Int)),(48,.int .i64 (k:Int)),(12,zp_ b_4 0)]) (fun y=>((b_4,.cells #[.int .i64 ((Prod.fst B:Nat):Int),.bool (Prod.snd B)] 160 (0,0))::((b_3,.cells #[.int .i64 (Wy.role E:Int),.bool (Wy.strict E),.int .i64 (Wy.before E:Int),.int .i64 (Wy.many E:Int)] 164 (0,0))::((a5,.cells #[.slice rad (List.length R) rcap,.slice a4 (List.length X) a7] 103 (0,0))::(y.1.2.2.2.1++y.1.2.2.2.2.2))))) (fun y=>[ah_ rad (List.flatMap ag_ R),ah_ a4 (List.flatMap Grw.cells X),hU_ X]) (fun y=>y.1.1) ⟨(a,([]:List Int),K,O,(.slice none 0 0),([]:Hp)),(Nat.le_refl _),zB_,zB_,A,(ay_.nil _ _)⟩ zl zp zh ?_;rintro ⟨⟨a_1,L,K,O,sv_RL,H_RL⟩,ha_1,hLx,hLl,A,b1⟩;dsimp only at ha_1 hLx hLl A b1 ⊢;refine Zi 4 (fun V=>?_) fun V=>?_
  ·refine Zz 9 ?_
   refine U_ at_ ak_ kE_ rfl rfl rfl rfl rfl rfl fun b_5=>?_;refine an_ (news:=List.flatMap fF_ [(d:Int)]) tz_ b1 rfl rfl zp rfl (aO_ 0 rfl) (fun u hu=>aA_ rd_ hu) zG_ zJ_ rfl fun S Q hr_9=>?_;have a2:=zsa hr_9;refine Zz 3 ?_;refine y_ (R_ (f_ d_) (R_ (f_ d_) (R_ (f_ d_) (bb_ (f_ d_))))) (Zz 3 ?_);refine g_ (ue_ (L++[(d:Int)]) S Q a2 (by have:=(List.getElem?_eq_some_iff.1 G).1;simp only[List.length_append,List.length_singleton];omega)) rfl (c_ (c_ (c_ (c_ t_)))) zt rfl fun⟨Hv_1,hv_1⟩=>?_;dsimp only;have hqL_1:ay_ 3 1 S (List.length (List.reverse (L++[(d:Int)]))) (List.flatMap fF_ (List.reverse (L++[(d:Int)]))) Hv_1:=hv_1;refine Zz 4 ?_;refine y_ (R_ (f_ d_) (R_ (f_ d_) (R_ (f_ d_) (bb_ (f_ d_))))) (Zz 7 ?_);have hnz:ay_ 3 1 S (List.length (List.reverse (L++[(d:Int)]))) (List.flatMap fF_ (List.reverse (L++[(d:Int)]))) Hv_1:=hqL_1;refine bl_ hqL_1 (c_ (c_ (c_ (c_ t_)))) fun lad lcap hlad hclad hmlad hzlad=>?_;have hln:lad≠none:=fun e=>by have q:=hzlad e;have q_1:=hclad;rw[q]at q_1;simp only[List.length_reverse,List.length_append,List.length_singleton]at q_1;omega
   exact ae_ Tryz.results68 ⟨((List.reverse (L++[(d:Int)])),lad,lcap),.inr ⟨hln,⟨_,J.found G hGw T (by have F:=hclT;simp only[Bool.and_eq_true,beq_iff_eq]at F;omega) (by have F:=hclT;simp only[Bool.and_eq_true]at F;exact F.2)⟩,(fun x hx=>by rw[List.mem_reverse]at hx;rw[List.length_map];rcases List.mem_append.1 hx with hx|hx;exact hLx x hx;rw[List.mem_singleton]at hx;subst hx;omega),(by have:=J.len;rw[List.length_map]at this;simp only[List.length_reverse,List.length_append,List.length_singleton,List.length_map];omega)⟩,hclad,hmlad,hzlad⟩ (fM_ rfl hlad) m_ zf
  have hlw_2:a_1<List.length a0:=by have:=(List.getElem?_eq_some_iff.1 G).1;omega
  obtain⟨a9,Z⟩:∃ B,a0[a_1]? = some B:=⟨_,List.getElem?_eq_getElem hlw_2⟩;have hmw_2:a9∈a0:=List.mem_of_getElem? Z;refine Zz 11 ?_;refine e_ (bF_ A eh_ fZ_ rfl rfl zs_ zs_) rfl (Zz 1 ?_);refine e_ (cF_ A zp aN_ rfl (o_ mk_ Z 0 _ rfl)) rfl (U_ at_ ak_ kE_ rfl rfl rfl rfl rfl rfl fun b_5=>?_);refine an_ (news:=List.flatMap fF_ [(Wy.role a9:Int)]) tz_ b1 rfl rfl zp rfl (aO_ 0 rfl) (fun u hu=>aA_ rd_ hu) zG_ zJ_ rfl fun S Q P=>?_;have a2:=zsa P;refine Zz 3 ?_;refine y_ (R_ (f_ d_) (R_ (f_ d_) (R_ (f_ d_) (bb_ (f_ d_))))) (Zz 3 ?_);refine e_ (bF_ A eh_ fZ_ rfl rfl zs_ zs_) rfl (Zz 1 ?_);refine e_ (cF_ A zp aN_ rfl (o_ mk_ Z 2 _ rfl)) rfl (Zz 3 ?_);exact w_ ⟨((Wy.before a9),(L++[(Wy.role a9:Int)]),K,O,S,Q),(by have:=J.bef a_1 a9 Z zs_;omega),(fun x hx=>by rcases List.mem_append.1 hx with hx|hx;exact hLx x hx;rw[List.mem_singleton]at hx;subst hx;have:=J.role a_1 a9 Z;rw[List.length_map]at this;omega),(by have:=J.bef a_1 a9 Z zs_;simp only[List.length_append,List.length_singleton];omega),A,a2⟩ (by have:=J.bef a_1 a9 Z zs_;dsimp only;omega) zl (j_ (c_ d_) (j_ (c_ d_) (j_ (c_ d_) (z_ (c_ aP_) C_)))) zh
 refine Zz 12 ?_;exact ae_ Tryz.results68 ⟨([],none,0),.inl ⟨rfl,rfl,rfl,fun n f c hc hf=>hI.none (fun w hw=>by rw[a6]at hw;simp only[Option.some.injEq]at hw;subst hw;omega) hto hc hf⟩,by simp[maxLen]⟩ rfl m_ (fun v _ h=>⟨.inl rfl,trivial⟩)
theorem tC_ (x:Ax):∀ i,(x.chs i).length≤i
 | 0=>by simp[Ax.chs]
 | i+1=>by
   have:=tC_ x i;rw[Ax.chs,List.length_append]
   split
   · split<;>simp<;>omega
   · simp;omega
theorem rS_ {x:Ax} (h:x.check=0):x.steps.length≤4:=by
 unfold Ax.steps
 split
 ·split
  ·split<;>simp
  simp
 split
 ·rename_i d
  have:=(Ax.good_of h).chain d;have:=tC_ x x.roles.length;omega
 simp
theorem mR_:∀ (l:List Ax),(∀ x∈l,x.check=0)→(cD_ l).length≤4*l.length
  | [],_=>by simp[cD_]
  | x::l,h=>by
    have e:=mR_ l fun y d=>h y (List.mem_cons_of_mem _ d)
    have k:=rS_ (h x zB_);unfold cD_ at *;rw[List.flatMap_cons,List.length_append,List.length_cons];omega
theorem MmO.ksl {q:Nat} {ks:List (Str×Nat)} {S:List RSt} {H:Hp} (h:MmO q ks S H) (v:Frm ks S):ks.length≤S.length:=by
  obtain⟨es,c,E,_,hE⟩:=h
  have e:ks.map (·.1) ⊆ S.map (·.1):=fun k hk=>by
    obtain⟨s,d,m⟩:=v k hk;exact List.mem_map.2 ⟨_,m,rfl⟩
  have:=hE.nd.length_le_of_subset e;rwa [List.length_map,List.length_map]at this
def iM_ (G:List (List (Nat×Bool))) (i most:Nat) (L:List Int) (ad:Option Addr) (cap:Nat):Prop :=
  (L=[]∧ad=none∧cap=0∧most=G.length+1∧∀ (n:Nat) (f:Nat→Nat) (c:Nat→Bool),Clw (gE G) n f c→f 0<i→most≤n) ∨
  (ad≠none∧most≤2*G.length+1∧(∃ n,Clo (gE G) n)∧(∀ x∈L,0≤x∧x<(G.length:Int))∧L.length≤2*G.length+1)
theorem iM_.init {G:List (List (Nat×Bool))}:iM_ G 0 (G.length+1) [] none 0:=.inl ⟨rfl,rfl,rfl,rfl,fun _ _ _ _ h=>by omega⟩
theorem iM_.skip {G:List (List (Nat×Bool))} {i most:Nat} {L M:List Int} {ad:Option Addr} {cap cp:Nat} (h:iM_ G i most L ad cap) (d:CirR G i most M none cp):iM_ G (i+1) most L ad cap:=by
 rcases h with⟨x,m,y,v,q⟩|h
 ·rcases d with⟨_,_,_,d⟩|⟨d,_⟩
  ·refine .inl ⟨x,m,y,v,fun n f c k A=>?_⟩
   by_cases e:f 0=i
   ·exact d n f c k e
   exact q n f c k zs_
  exact absurd rfl d
 exact .inr h
theorem iM_.take {G:List (List (Nat×Bool))} {i most:Nat} {L M:List Int} {ad e:Option Addr} {cap cp:Nat} (h:iM_ G i most L ad cap) (d:CirR G i most M e cp) (q:e≠none):iM_ G (i+1) M.length M e cp:=by
 rcases d with⟨_,d,_⟩|⟨x,v,m,k⟩
 ·exact absurd d q
 exact .inr ⟨x,k,v,m,k⟩
theorem iM_.none {G:List (List (Nat×Bool))} {most:Nat} {L:List Int} {cap:Nat} (h:iM_ G G.length most L none cap):∀ n,¬ Clo (gE G) n:=by
 rcases h with⟨_,_,_,m,k⟩|⟨h,_⟩
 ·exact wR_ fun n f c e d=>by have:=k n f c e d;omega
 exact absurd rfl h
theorem iM_.some {G:List (List (Nat×Bool))} {i most:Nat} {L:List Int} {ad:Option Addr} {cap:Nat} (h:iM_ G i most L ad cap) (e:ad≠Option.none):(∃ n,Clo (gE G) n)∧(∀ x∈L,0≤x∧x<(G.length:Int))∧L.length≤2*G.length+1:=by
 rcases h with⟨_,h,_⟩|⟨_,_,m,k,d⟩
 ·exact absurd h e
 exact⟨m,k,d⟩
theorem iM_.most {G:List (List (Nat×Bool))} {i most:Nat} {L:List Int} {ad:Option Addr} {cap:Nat} (h:iM_ G i most L ad cap):most≤2*G.length+1:=by
  rcases h with⟨_,_,_,h,_⟩|⟨_,h,_⟩<;>omega
def RlR (l:List Ax) (e:Int):Prop:=(e=0∧¬ mj_ (cD_ l))∨(e=60∧mj_ (cD_ l))
theorem RlR.uniq {l:List Ax} {a b:Int} (h:RlR l a) (k:RlR l b):a=b:=by
 rcases h with⟨rfl,h⟩|⟨rfl,h⟩<;>rcases k with⟨rfl,k⟩|⟨rfl,k⟩
 ·rfl
 ·exact absurd k h
 ·exact absurd h k
 rfl
theorem RlR.sub {l m:List Ax} (h:RlR m 0) (d:∀ x∈l,x∈m):RlR l 0:=by
 rcases h with⟨_,h⟩|⟨h,_⟩
 ·exact .inl ⟨rfl,fun q=>h (q.sub (rT_ d))⟩
 omega
theorem tM_ {P:Program} {N:Nf} {fr:Fr} {H:Hp} {Γ:List Fct} {ty t k e:TypeId} {x y:Operand} {ad:Option Addr} {m c:Nat} (q:P.underlying t=some (.slice e)) (A:Fr.ev fr x=some (.slice ad m c)) (B:Fr.ev fr y=some (.slice none 0 0)):Yld P N fr H Γ (.binOp .neq t x y k) ty (.bool (!decide (ad=none))) :=
  fun a v d _ _ _ _ _=>by
    have h:decide (ad=none)=ad.isNone:=by cases ad<;>simp
    rw[h];simp[execOp,d.ev A,d.ev B,eqGuard,binOp,ty_ v.w t e ad m c q]
theorem uc_ (l:List Ax) (ad:Option Addr) (cap:Nat) (a8:∀ x∈l,x.ok) (hC:∀ x∈l,x.check=0) (hll:l.length≤20000):Tri Tryz.prog 30 #[.slice ad (List.length l) cap] [] [ej_ ad l,ci_] (fun y:{y:Value×Int // RlR l y.2}=>.tuple #[y.1.1,.int .i64 y.1.2]) (fun _=>[]) (fun _=>[]):=by
 refine i_ Tryz.func30 rfl rfl Tryz.ntmps30 rfl fun v_1=>?_;refine Zz 10 ?_;refine g_ (ox_ l ad cap a8 hC zs_) rfl m_ zf rfl fun _=>Zz 6 ?_
 refine e_ (ar_ (ce_ rfl rfl) (show _=Value.bool false from congrArg Value.bool zw_)) rfl (Zz 8 ?_);refine g_ (xA_ l ad cap a8 hC zs_) rfl m_ zf rfl fun⟨⟨mb,ks,Hm⟩,hM,R⟩=>?_;dsimp only;simp only[List.append_nil];dsimp only at hM R;have hSl:=mR_ l hC;have hkl:=MmO.ksl hM R;refine g_ (sm_ mb ks (cD_ l) Hm hM R zs_ zs_) rfl ac_ zt rfl fun⟨⟨X,rad,rcap,E,I⟩,hG,a7,hXk,⟨hrs_1,hrs_2,hrs_3⟩,⟨hgs_1,hgs_2,hgs_3⟩⟩=>?_;dsimp only;dsimp only at hG a7 hXk;have hrl:List.length (aS_ (List.map (fun p:Str×Nat=>p.1) ks))=List.length ks:=by rw[List.length_mergeSort,List.length_map]
 have a1:List.length (List.map Grw.st X)=List.length X:=List.length_map ..;refine G_ Tryz.zeroValue103 rfl fun K=>u_ 0 Tryz.sizeOf103 rfl rfl rfl rfl rfl rfl (Zz 7 ?_)
 refine e_ (ar_ (bc_ rfl rfl rfl (cm_ zs_ zs_)) (show _=Value.int .i64 ((List.length X+1:Nat):Int) from congrArg _ zs_)) rfl (Zz 18 ?_);refine M_ (ι:={y:Nat×Nat×List Int×Option Addr×Nat // y.1≤List.length (aS_ (List.map (fun p:Str×Nat=>p.1) ks))∧iM_ (List.map Grw.st X) y.1 y.2.1 y.2.2.1 y.2.2.2.1 y.2.2.2.2}) (fun y=>[(2,.slice none 0 0),(3,.int .i64 0),(5,zp_ K 0),(6,.int .i64 (y.1.2.1:Int)),(7,.slice y.1.2.2.2.1 (List.length y.1.2.2.1) y.1.2.2.2.2),(26,.int .i64 (List.length (aS_ (List.map (fun p:Str×Nat=>p.1) ks)):Int)),(27,.int .i64 (y.1.1:Int))]) (fun y=>((K,.cells #[.slice rad (List.length (aS_ (List.map (fun p:Str×Nat=>p.1) ks))) rcap,.slice E (List.length X) I] 103 (0,0))::[])) (fun y=>[ah_ y.1.2.2.2.1 (List.flatMap fF_ y.1.2.2.1),ah_ rad (List.flatMap ag_ (aS_ (List.map (fun p:Str×Nat=>p.1) ks))),ah_ E (List.flatMap Grw.cells X),hU_ X]) (fun y=>List.length (aS_ (List.map (fun p:Str×Nat=>p.1) ks)) - y.1.1) ⟨((0:Nat),(List.length X+1),([]:List Int),none,0),zB_,(by have q:=iM_.init (G:=(List.map Grw.st X));rw[a1]at q;exact q)⟩ zl d_ (fun v _ h=>by exact⟨(.inl rfl),h.1,h.2.1,h.2.2.1,trivial⟩) ?_;rintro ⟨⟨i,mo,L,lad,lcap⟩,Z,W⟩;dsimp only at Z W ⊢;refine Zi 2 (fun J=>?_) fun J=>?_
 ·refine Zz 10 ?_
  refine B_ (mD_ (ad:=lad) Tryz.underlying107 rfl rfl) rfl fun O d=>Zz 2 ?_
  cases O
  ·replace d:=zdf d
   have V:=W.some d;refine Zz 12 ?_;refine M_ (ι:={y:Nat×List Str×Value×Hp // y.1≤List.length L∧List.length y.2.1≤y.1∧zR 9 1 ag_ y.2.2.1 y.2.1 y.2.2.2}) (fun y=>[(2,y.1.2.2.1),(3,.int .i64 0),(5,zp_ K 0),(6,.int .i64 (mo:Int)),(7,.slice lad (List.length L) lcap),(26,.int .i64 (List.length (aS_ (List.map (fun p:Str×Nat=>p.1) ks)):Int)),(27,.int .i64 (i:Int)),(42,.slice lad (List.length L) lcap),(43,.int .i64 (List.length L:Int)),(44,.int .i64 (y.1.1:Int))]) (fun y=>((K,.cells #[.slice rad (List.length (aS_ (List.map (fun p:Str×Nat=>p.1) ks))) rcap,.slice E (List.length X) I] 103 (0,0))::y.1.2.2.2)) (fun y=>[ah_ lad (List.flatMap fF_ L),ah_ rad (List.flatMap ag_ (aS_ (List.map (fun p:Str×Nat=>p.1) ks))),ah_ E (List.flatMap Grw.cells X),hU_ X]) (fun y=>List.length L - y.1.1) ⟨((0:Nat),([]:List Str),(.slice none 0 0),[]),by simp,zB_,(ay_.nil _ _)⟩ zl d_ zh ?_;rintro ⟨⟨k,C,sv_RC,H_RC⟩,a2,hCl,m⟩;dsimp only at a2 hCl m ⊢;refine Zi 2 (fun A=>?_) fun A=>?_
   ·refine Zz 14 ?_
    refine bl_ m C_ fun cad ccap Y hccad hmcad hzcad=>?_;exact kO_ Tryz.results30 ⟨(_,60),.inr ⟨rfl,hG.circ.2 V.1⟩⟩ (fM_ rfl Y) rfl rfl m_ zt
   have H:k<List.length L:=by omega
   obtain⟨N,a3⟩:∃ B,L[k]? = some B:=⟨_,List.getElem?_eq_getElem H⟩;have P:N∈L:=List.mem_of_getElem? a3;have hzb:=V.2.1 N P;rw[a1]at hzb;have hcs_1:=V.2.2;have a4:(Int.toNat N)<List.length (aS_ (List.map (fun p:Str×Nat=>p.1) ks)):=by omega
   obtain⟨rz,hrz⟩:∃ B,(aS_ (List.map (fun p:Str×Nat=>p.1) ks))[(Int.toNat N)]? = some B:=⟨_,List.getElem?_eq_getElem a4⟩;have hmrz:rz∈(aS_ (List.map (fun p:Str×Nat=>p.1) ks)):=List.mem_of_getElem? hrz;refine Zz 22 ?_;refine U_ l_ E_ ax_ rfl rfl rfl rfl rfl rfl fun b_2=>?_;refine an_ (news:=List.flatMap ag_ [rz]) cE_ m rfl rfl zp rfl (aO_ 0 rfl) (fun u hu=>aA_ cj_ hu) zG_ zJ_ rfl fun b0 a0 J=>?_;refine y_ List.perm_append_comm ?_;have a6:=zsa J;refine Zz 8 ?_;exact w_ ⟨(k+1,(C++[rz]),b0,a0),H,zaG_,a6⟩ zt_ zl (j_ (c_ d_) C_) zh
  replace d:=zdt d;refine Zz 8 ?_;exact kO_ Tryz.results30 ⟨(.slice none 0 0,0),.inl ⟨rfl,fun q=>by obtain⟨n,hn⟩:=hG.circ.1 q;exact iM_.none (by have a9:=W;rw[d,show i=List.length (List.map Grw.st X) from zs_]at a9;exact a9) n hn⟩⟩ rfl rfl rfl m_ zt
 have e:i<List.length (aS_ (List.map (fun p:Str×Nat=>p.1) ks)):=by omega
 obtain⟨O,d⟩:∃ B,(aS_ (List.map (fun p:Str×Nat=>p.1) ks))[i]? = some B:=⟨_,List.getElem?_eq_getElem e⟩;have hmr_1:O∈(aS_ (List.map (fun p:Str×Nat=>p.1) ks)):=List.mem_of_getElem? d;refine Zz 19 ?_;refine g_ (wS_ (aS_ (List.map (fun p:Str×Nat=>p.1) ks)) rad rcap X E I i mo zs_ zs_ hG.to zs_ (fun z hz=>by have:=a7 z hz;omega) (by have:=W.most;omega)) rfl m_ zf rfl fun⟨⟨M,S,a5⟩,F,U,Q,T⟩=>?_;dsimp only;dsimp only at F U Q T;refine Zz 6 ?_;refine B_ (tM_ (ad:=S) Tryz.underlying107 rfl rfl) rfl fun r_2 A=>Zz 2 ?_
 cases r_2
 ·refine Zz 8 ?_
  exact w_ ⟨(i+1,mo,L,lad,lcap),e,(W.skip (by have q:=F;rw[show S=none from by simpa using A]at q;exact q))⟩ zt_ zl d_ (fun _ _ h=>h.2)
 refine Zz 14 ?_;exact w_ ⟨(i+1,(List.length M),M,S,a5),e,(W.take F zaQ_)⟩ zt_ zl d_ zf
end Go.Proofs.YtpbnmnfdgckaiaaGreatDoor
namespace Go.Sx
open Go Go.Vs
theorem nt_ {α β:Type} (f:α→β):∀ (l:List α) (i:Nat),(l.eraseIdx i).map f=(l.map f).eraseIdx i
  | [],_=>rfl
  | _::_,0=>rfl
  | x::l,i+1=>by simp only[List.eraseIdx_cons_succ,List.map_cons];rw[nt_ f l i]
structure StM where
  es:Array MapEntry
  c:Nat
  ks:List Str
  hE:SetE str es ks
  hB:Born es c
def StM.add (s:StM) (k:Str):StM:=if h:k∈s.ks then s else ⟨s.es.push ⟨str k,.bool true,s.c⟩,s.c+1,s.ks++[k],s.hE.push h s.c,s.hB.push _ _⟩
theorem StM.mem {s:StM} {k n:Str}:n∈(s.add k).ks↔n∈s.ks∨n=k:=by
 unfold StM.add
 split
 ·rename_i h
  exact⟨.inl,fun q=>q.elim id fun e=>e▸h⟩
 simp
theorem StM.len {s:StM} {k:Str}:(s.add k).ks.length≤s.ks.length+1:=by
  unfold StM.add
  split<;>simp
section
variable {P:Program} {N:Nat} {v0:Vw} {H0:Hp} {R:Exit→Act→World→Prop} {Kk:List Kt} {fr:Fr} {H:Hp} {Γ:List Fct}
variable {ops:Array Oper} {lo:List Oper} {d:Nat} {ty:TypeId} {ps:String} {af:Array Edge}
theorem hl_ {t h m:TypeId} {x y:Operand} {b c i:Nat} {es:Array MapEntry} {e u:Value} (A:∀ w,(underlying t).run P w=.ok (.map h m) w) (C:Fr.ev fr x=some (.map (some b))) (E:Fr.ev fr y=some e) (n:Nat)
    (hi:H[n]? = some (b,.map es c)) (hk:hg_ P h e) (B:db_ P h e es.toList (some (i,u))):Yld P N fr H Γ (.lookup t x y true) ty (.tuple #[u,.bool true]) :=
  fun a v k q G _ _ _=>by
    have F:=MapKept.run_getObj_map (P:=P) (q.own _ (List.mem_of_getElem? hi)).1;simp[execOp,k.ev C,k.ev E,Instr.lookup,A,F,hk _ _,B _]
theorem rL_ {t h k:TypeId} {x y:Operand} {b c:Nat} {es:Array MapEntry} {e z:Value} (B:∀ w,(underlying t).run P w=.ok (.map h k) w) (q:∀ w,(zeroValue k).run P w=.ok z w) (E:Fr.ev fr x=some (.map (some b))) (F:Fr.ev fr y=some e) (n:Nat)
    (hi:H[n]? = some (b,.map es c)) (hk:hg_ P h e) (C:db_ P h e es.toList none):Yld P N fr H Γ (.lookup t x y true) ty (.tuple #[z,.bool false]) :=
  fun a v m A I _ _ _=>by
    have G:=MapKept.run_getObj_map (P:=P) (A.own _ (List.mem_of_getElem? hi)).1;simp[execOp,m.ev E,m.ev F,Instr.lookup,B,G,hk _ _,C _,q]
theorem hz_ {Fc:Fence} {T:Nat} {D:List Deferred} {o:Op} {t S V:TypeId} {x y z:Operand} {b:Nat} (Z:Opn Fc) (n:Nat) (s:StM) {k:Str} (m:KeyT P S str) (C:o=.insert t x y z∨o=.mapUpdate t x y z) (I:∀ w,(underlying t).run P w=.ok (.map S V) w)
    (U:Fr.ev fr x=some (.map (some b))) (K:Fr.ev fr y=some (str k)) (Q:Fr.ev fr z=some (.bool true)) (hi:H[n]? = some (b,.map s.es s.c))
    (B:fI_ Fc T P R N D v0 H0 ops lo Kk fr (H.set n (b,.map (s.add k).es (s.add k).c)) Γ):fI_ Fc T P R N D v0 H0 ops (⟨none,o,ty,ps,af,none⟩::lo) Kk fr H Γ :=
  ed_ (by rfl) fun a v h E Y h4=>by
    refine⟨fun f _=>Z.fn f,?_⟩;rw[semAt_eq (by rcases C with rfl|rfl<;>rfl)];have F:=(E.own _ (List.mem_of_getElem? hi)).1;have J:=MapKept.run_getObj_map (P:=P) F;have A:=MapKept.run_setObj_map (P:=P) (.map (s.add k).es (s.add k).c) F
    have W:(execOp (Act.eval ⟨a.tmps,[]⟩) ⟨none,o,ty,ps,af,none⟩).run P v.w=.ok .skip { v.w with heap:=v.w.heap.setIfInBounds b (.map (s.add k).es (s.add k).c) }:=by
      by_cases hk:k∈s.ks
      · have G:s.add k=s:=by unfold StM.add;rw[dif_pos hk]
        rw[G]at A ⊢;obtain⟨i,e,L,q,O,g4,g5⟩:=s.hE.yes m hk;have em:=iz_ q O g4;rcases C with rfl|rfl<;>simp[execOp,h.sat.ev U,h.sat.ev K,h.sat.ev Q,Instr.mapUpdate,I,J,m.ok _ _ _,g5 _,A,Instr.keyThatStays,q,O,m.same,em]
      · have G:s.add k=⟨s.es.push ⟨str k,.bool true,s.c⟩,s.c+1,s.ks++[k],s.hE.push hk s.c,s.hB.push _ _⟩:=by unfold StM.add;rw[dif_neg hk]
        rw[G]at A ⊢;dsimp only at A ⊢;have X:=s.hE.no m hk;rcases C with rfl|rfl<;>simp[execOp,h.sat.ev U,h.sat.ev K,h.sat.ev Q,Instr.mapUpdate,I,J,m.ok _ _ _,X _,A]
    rw[show a.eval=Act.eval ⟨a.tmps,[]⟩ from rfl,W];have M:=MapKept.heap_set (o':=.map (s.add k).es (s.add k).c) F;obtain⟨L,q⟩:=eL_ (w':={ v.w with heap:=v.w.heap.setIfInBounds b (.map (s.add k).es (s.add k).c) }) E hi rfl rfl rfl (Nat.le_refl _) zB_ M.1 (fun k hk=>M.2 k hk);exact B _ _ h L (Y.trans q) (ao_ (q.le E) h4)
theorem qL_ {N:Nf} {t J et:TypeId} {x y:Operand} {b:Nat} {C:Option Nat} (n:Nat) {es:Array MapEntry} {c:Nat} {ks:List Str} {k:Str} (F:KeyT P J str) (X:∀ w,(underlying t).run P w=.ok (.map J et) w)
    (B:Fr.ev fr x=some (.map (some b))) (Z:Fr.ev fr y=some (str k)) (hi:H[n]? = some (b,.map es c)) (hE:SetE str es ks) (hB:Born es c) (hd:C=none)
    (Q:∀ h,SetE str h (ks.filter fun q=>decide (q≠k))→Born h c→Ops P R N v0 H0 ops lo Kk fr (H.set n (b,.map h c)) Γ):Ops P R N v0 H0 ops (⟨C,.call ⟨.builtin .delete,#[x,y],#[t,J]⟩,ty,ps,af,none⟩::lo) Kk fr H Γ :=
  cq_ rfl fun a v E V h3 h4=>by
    subst hd;have K:=(V.own _ (List.mem_of_getElem? hi)).1;have Y:=MapKept.run_getObj_map (P:=P) K
    obtain⟨h,L,S,U⟩:∃ h,(execOp a.eval ⟨none,.call ⟨.builtin .delete,#[x,y],#[t,J]⟩,ty,ps,af,none⟩).run P v.w=.ok (.value (.tuple #[])) { v.w with heap:=v.w.heap.setIfInBounds b (.map h c) }∧SetE str h (ks.filter fun q=>decide (q≠k))∧Born h c:=by
      by_cases hk:k∈ks
      · obtain⟨i,e,G,I,g3,g4,g5⟩:=hE.yes F hk
        have O:i<es.size:=by
          have:=(Array.getElem?_eq_some_iff.1 I).1;exact this
        have m:(es.eraseIdxIfInBounds i).toList=es.toList.eraseIdx i:=by
          unfold Array.eraseIdxIfInBounds;rw[dif_pos O];simp
        have T:=MapKept.run_setObj_map (P:=P) (.map (es.eraseIdxIfInBounds i) c) K
        have A:ks.eraseIdx i=ks.filter fun q=>decide (q≠k):=by
          have h9:ks.erase k=ks.filter (fun q=>q != k):=hE.nd.erase_eq_filter k
          have h8:ks.erase k=ks.eraseIdx i:=by
            have W:=(List.getElem?_eq_some_iff.1 G).1;rw[List.erase_eq_eraseIdx_of_idxOf (i:=i)];have e1:=(List.getElem?_eq_some_iff.1 G).2;rw[← e1];exact hE.nd.idxOf_getElem i W
          rw[← h8,h9]
          congr 1
          funext q
          by_cases M:q=k<;>simp[M]
        refine⟨es.eraseIdxIfInBounds i,?_,⟨?_,fun x B=>?_,?_⟩,⟨fun x B=>?_,?_⟩⟩
        · simp[execOp,resolve,invoke,builtin,E.ev B,E.ev Z,Builtin.delete_,X,Y,F.ok _ _ _,g5 _,T,Result.andThen]
        · rw[m,← A,nt_,nt_,hE.keys]
        · rw[m]at B;exact hE.vals x ((List.eraseIdx_sublist _ _).subset B)
        · exact hE.nd.filter _
        · rw[m]at B;exact hB.lt x ((List.eraseIdx_sublist _ _).subset B)
        · rw[m];exact hB.nd.sublist ((List.eraseIdx_sublist _ _).map _)
      · have T:=MapKept.run_setObj_map (P:=P) (.map es c) K
        have hf:=hE.no F hk
        have A:(ks.filter fun q=>decide (q≠k))=ks:=List.filter_eq_self.2 fun q M=>by
          have:q≠k:=fun e=>hk (e▸M)
          simpa using this
        refine⟨es,?_,by rw[A];exact hE,hB⟩;simp[execOp,resolve,invoke,builtin,E.ev B,E.ev Z,Builtin.delete_,X,Y,F.ok _ _ _,hf _,T,Result.andThen]
    unfold Oper.wp;rw[L];have hh:=MapKept.heap_set (o':=.map h c) K;obtain⟨G,I⟩:=eL_ (w':={ v.w with heap:=v.w.heap.setIfInBounds b (.map h c) }) V hi rfl rfl rfl (Nat.le_refl _) zB_ hh.1 (fun k hk=>hh.2 k hk);exact Q h S U a _ E G (h3.trans I) (ao_ (I.le V) h4)
end
end Go.Sx
namespace Go.Vs
open Go Go.Sx
def Con.nds:Con→List Con
  | .mk k nm lo hi ad cap ps=>.mk k nm lo hi ad cap ps::ndsL ps
where ndsL:List Con→List Con
  | []=>[]
  | p::ps=>nds p++ndsL ps
theorem tq_:∀ ps:List Con,Con.nds.ndsL ps=ps.flatMap Con.nds
  | []=>rfl
  | p::ps=>by rw[Con.nds.ndsL,tq_ ps,List.flatMap_cons]
theorem Con.nds_eq (c:Con):c.nds=c::c.parts.flatMap Con.nds:=by cases c;rw[Con.nds,tq_];rfl
theorem tp_:∀ (n:Nat) (c:Con),c.sz≤n→c.nds.length≤c.sz
  | 0,c,h=>by have:=c.sz_pos;omega
  | n+1,c,h=>by
    have e:∀ ps:List Con,(∀ p∈ps,p.nds.length≤p.sz)→(ps.flatMap Con.nds).length≤Con.sz.szs ps:=by
      intro ps
      induction ps with
      | nil=>intro _;simp[Con.sz.szs]
      | cons p ps ih =>
        intro d;rw[List.flatMap_cons,List.length_append,Con.sz.szs];have m:=d p zB_;have v:=ih fun q k=>d q (by simp[k])
        omega
    rw[Con.nds_eq,List.length_cons,Con.sz_eq];have:=e c.parts fun p d=>tp_ n p (by have:=Con.sz_part d;omega)
    omega
def Con.nms (k:Int) (c:Con):List Str:=(c.nds.filter fun x=>decide (x.kind=k)).map Con.name
theorem Con.nms_eq (k:Int) (c:Con):c.nms k=(if c.kind=k then [c.name] else [])++c.parts.flatMap (Con.nms k):=by
 unfold Con.nms;rw[Con.nds_eq,List.filter_cons]
 have d:∀ ps:List Con,((ps.flatMap Con.nds).filter fun x=>decide (x.kind=k)).map Con.name=ps.flatMap fun c=>(c.nds.filter fun x=>decide (x.kind=k)).map Con.name:=by
   intro ps
   induction ps with
   | nil=>rfl
   | cons p ps ih=>rw[List.flatMap_cons,List.filter_append,List.map_append,ih,List.flatMap_cons]
 by_cases h:c.kind=k
 ·rw[if_pos zV_,if_pos h,List.map_cons,d];rfl
 rw[if_neg zV_,if_neg h,d];rfl
theorem Con.nms_len (k:Int) (c:Con):(c.nms k).length≤c.sz:=by
  unfold Con.nms;rw[List.length_map];exact Nat.le_trans (List.length_filter_le _ _) (tp_ _ c (Nat.le_refl _))
theorem oJ_:∀ (n:Nat) (c:Con),c.sz≤n→c.check=0→∀ x∈c.nds,x.check=0
 | 0,c,h,_=>by have:=c.sz_pos;omega
 | n+1,c,h,hc=>by
   intro x d;rw[Con.nds_eq,List.mem_cons,List.mem_flatMap]at d;rcases d with rfl|⟨p,e,d⟩
   · exact hc
   · exact oJ_ n p (by have:=Con.sz_part e;omega) (Con.check_part hc e) x d
structure NsI (X D Y:List Str):Prop where
  srt:SrS Y
  mem:∀ n,n∈Y↔n∈X∨n∈D
  len:Y.length≤X.length+D.length
theorem NsI.nil {X:List Str} (h:SrS X):NsI X [] X:=⟨h,fun n=>by simp,by simp⟩
def Ax.inds (x:Ax):List Str:=x.left.nms 4++x.right.nms 4++(if x.a=[] then [] else [x.a])++(if x.b=[] then [] else [x.b])
def indsL (l:List Ax):List Str:=l.flatMap Ax.inds
def IndR (l:List Ax) (Y:List Str):Prop:=SrS Y∧∀ n,n∈Y↔n∈indsL l
theorem IndR.uniq {l:List Ax} {Y Z:List Str} (h:IndR l Y) (g:IndR l Z):Y=Z:=gv_ h.1 g.1 fun n=>(h.2 n).trans (g.2 n).symm
structure W2I (l:List Str) (s:Str) (i:Nat) (R:List Str) (dn:Bool):Prop where
  no:dn=false→R=l.take i∧∀ x∈l.take i,x<s
  yes:dn=true→R++l.drop i=dR_ l s
theorem W2I.nil {l:List Str} {s:Str}:W2I l s 0 [] false:=⟨fun _=>⟨rfl,by simp⟩,fun q=>by cases q⟩
theorem tk1 {α:Type} {l:List α} {i:Nat} {x:α} (h:l[i]? = some x):l.take (i+1)=l.take i++[x]:=by rw[List.take_add_one,h];rfl
theorem tA_ {α:Type} {l:List α} {i:Nat} {x:α} (h:l[i]? = some x):l.drop i=x::l.drop (i+1):=by
  obtain⟨hi,rfl⟩:=List.getElem?_eq_some_iff.1 h;exact List.drop_eq_getElem_cons hi
theorem W2I.t {l:List Str} {s x:Str} {i:Nat} {R:List Str} (h:W2I l s i R true) (d:l[i]? = some x):W2I l s (i+1) (R++[x]) true :=
  ⟨fun q=>zaS_,fun _=>by have:=h.yes rfl;rw[tA_ d]at this;rw[List.append_assoc];exact this⟩
theorem W2I.lt {l:List Str} {s x:Str} {i:Nat} {R:List Str} (h:W2I l s i R false) (hl:SrS l) (B:s≠[]) (k:l[i]? = some x) (e:s<x):W2I l s (i+1) ((R++[s])++[x]) true:=by
 obtain⟨E,A⟩:=h.no rfl;refine⟨fun q=>zaS_,fun _=>?_⟩;have hi:=(List.getElem?_eq_some_iff.1 k).1
 have hk:kS l s=i:=zj_ zs_ A fun z y=>by
   rw[k,Option.some.injEq]at y;subst y;exact fun q=>List.lt_irrefl _ (List.lt_trans q e)
 have C:s ∉ l:=fun v=>by
   have m:s∈l.take i∨s∈l.drop i:=by rw[← List.mem_append,List.take_append_drop];exact v
   rcases m with q|q
   · exact List.lt_irrefl _ (A s q)
   · rw[tA_ k]at q
     rcases List.mem_cons.1 q with rfl|q
     · exact List.lt_irrefl _ e
     · have d:SrS (l.drop i):=hl.sublist (List.drop_sublist _ _)
       rw[tA_ k]at d;exact List.lt_irrefl _ (List.lt_trans ((List.pairwise_cons.1 d).1 s q) e)
 rw[om_ B C,hk,E,tA_ k];simp
theorem W2I.fine {l:List Str} {s:Str} {i:Nat} {R:List Str} (h:W2I l s i R true) (hi:l.length≤i):R=dR_ l s:=by
  have:=h.yes rfl;rwa [List.drop_eq_nil_of_le hi,List.append_nil]at this
theorem ri_ {σ τ:Type} (f:Con→σ→σ):∀ (n:Nat) (c:Con),c.sz≤n→∀ s:σ,Con.fold (fun x s=>(.inl (f x s):σ ⊕ τ)) c s=.inl (c.nds.foldl (fun s x=>f x s) s)
  | 0,c,h=>by have:=c.sz_pos;omega
  | n+1,c,h=>fun s=>by
    rw[Con.fold_eq,Con.nds_eq,List.foldl_cons];dsimp only
    have e:∀ (ps:List Con),(∀ p∈ps,p.sz≤n)→∀ s:σ,Con.fold.folds (fun x s=>(.inl (f x s):σ ⊕ τ)) ps s=.inl ((ps.flatMap Con.nds).foldl (fun s x=>f x s) s):=by
      intro ps
      induction ps with
      | nil=>intro _ s;rfl
      | cons p ps ih =>
        intro d s;rw[Con.fold.folds,ri_ f n p (d p zB_) s];dsimp only;rw[ih (fun q k=>d q (by simp[k])),List.flatMap_cons,List.foldl_append]
    exact e c.parts (fun p d=>by have:=Con.sz_part d;omega) _
end Go.Vs
namespace Go.Sx
open Go
section
variable {P:Program} {v0:Vw} {H0:Hp} {R:Exit→Act→World→Prop} {K:List Kt} {fr:Fr} {H:Hp} {Γ:List Fct}
def mks (Ds:List Nat):List Deferred:=Ds.map fun D=>{ target:=.collected D,args:=#[] }
def mkH (Ds:List Nat):Hp:=Ds.map fun D=>(D,.deferred (some []))
def xi_ {ι:Type} (N:ι→Nf) (v0:Vw) (H0:Hp) (frs:ι→Fr) (Hs:ι→Hp) (Γs:ι→List Fct) (μ:ι→Nat) (n:Nat) (a:Act) (w:World):Prop :=
  ∃ j v,v.w=w∧Fr.sat (N j) (frs j) a∧v.sat (Hs j)∧v0.to H0 v (Hs j)∧Z_ (Γs j) v∧μ j<n
theorem kJ_ {ι:Type} {c:Code} {A:Nf} (N:ι→Nf) (d:ι→Fr) (Hs:ι→Hp) (q:ι→List Fct) (μ:ι→Nat) (m:ι) {F:Hp} (y:Fr.le (d m) fr) (V:H.Perm (Hs m++F)) (I:∀ v,v.sat H→Z_ Γ v→Z_ (q m) v)
    (h:∀ i,Run P R (N i) v0 H0 c (.inv (xi_ N v0 H0 d Hs q μ (μ i))::K) (d i) (Hs i) (q i)) (U:A=N m:=by rfl):Run P R A v0 H0 (.loop c) K fr H Γ:=by
  subst U;refine bs_ _ y (dK_ V I ?_);intro a v J T G W;refine wp_loop_ghost (fun n a w=>∃ i v,v.w=w∧Fr.sat (N i) (d i) a∧v.sat (Hs i)∧v0.to H0 v (Hs i)∧Z_ (q i) v∧μ i=n) (μ m) ⟨m,v,rfl,J,T,G,W,rfl⟩ ?_;rintro n a w ⟨i,v,rfl,M,O,S,Q,rfl⟩;refine wp_mono (h i a v M O S Q) fun e X w' k=>?_;cases e with
  | normal =>
    obtain⟨j,L,C,k1,k2,E,B,x⟩:=k;exact⟨μ j,x,j,L,C,k1,k2,E,B,rfl⟩
  | exit id=>exact k
  | goto l=>exact k
  | ret=>exact k
  | panic ch=>exact k
  | outgrown=>exact k
theorem iS_ {ι:Type} {h:Nf} {N:ι→Nf} {d:ι→Fr} {Hs:ι→Hp} {k:ι→List Fct} {μ:ι→Nat} {n:Nat} (j:ι) {F:Hp} (m:μ j<n) (e:Fr.le (d j) fr) (C:H.Perm (Hs j++F))
    (A:∀ v,v.sat H→Z_ Γ v→Z_ (k j) v) (y:h=N j:=by rfl):Ok h v0 H0 (xi_ N v0 H0 d Hs k μ n) fr H Γ:=by
  subst y;exact bs_ (d j) e (dK_ C A fun _ v B q x E=>⟨j,v,rfl,B,q,x,E,m⟩)
variable {N:Nat} {Ds:List Nat}
theorem retMs {fn:Func} {ι:Type} {G:Hp} {ret:ι→Value} {H':ι→Hp} {Γ':ι→List Fct} (x:ι) (S:∀ (a:Act) (v:Vw),Fr.sat (⟨N,mks Ds⟩:Nf) fr a→v.sat G→Z_ Γ v→(results fn a.tmps).run P v.w=.ok (ret x) v.w) (F:H.Perm (mkH Ds++G))
    (O:∃ A,G.Perm (H' x++A)) (L:∀ v,v.sat G→Z_ Γ v→Z_ (Γ' x) v):Ok ⟨N,mks Ds⟩ v0 H0 (bodyPostM Fence.wide 0 P fn (kD_ v0 H0 ret H' Γ') .ret) fr H Γ:=by
  intro a v E M J T;show LeavesInM Fence.wide 0 P fn a.tmps _ a.defers .returning v.w
  rw[E.defers];obtain⟨A,k⟩:=O
  have B:∀ (e:List Nat) (d:Vw),d.sat (mkH e++G)→v0.to H0 d (mkH e++G)→Z_ Γ d→LeavesInM Fence.wide 0 P fn a.tmps (kD_ v0 H0 ret H' Γ') (mks e) .returning d.w:=by
    intro e
    induction e with
    | nil =>
      intro d k1 k2 q
      exact⟨ret x,S a d E k1 q,x,d,rfl,rfl,(Vw.sat.perm k1 k).sub,L d k1 q,k2.subR fun b m=>by
        have:b∈(H' x++A).map Prod.fst:=by rw[List.map_append];exact List.mem_append_left _ m
        exact (k.map Prod.fst).mem_iff.2 this⟩
    | cons D e ih =>
      intro d k1 k2 q;have hl:=(k1.own (D,.deferred (some [])) List.mem_cons_self).1;have h:d.sat ((D,.deferred (some []))::(mkH e++G)):=k1;obtain⟨y,C⟩:=eM_ (o':=.deferred none) h;have Q:(⟨d.im,d.w.putObj D (.deferred none),d.sl⟩:Vw).sat (mkH e++G):=⟨fun p I=>y.own p (List.mem_cons_of_mem _ I),by have:=y.nodup;rw[List.map_cons,List.nodup_cons]at this;exact this.2,y.lt⟩;exact⟨by simp,.inl ⟨D,_,rfl,run_takeDeferred hl,ih ⟨d.im,_,d.sl⟩ Q ((k2.trans C).subR fun b m=>List.mem_cons_of_mem _ m) (ao_ (C.le h) q)⟩⟩
  exact B Ds v (M.perm F) (J.subR fun b m=>(F.map Prod.fst).mem_iff.2 m) T
theorem sa_ {σ α:Type} {g:Operand} {Z:Nat} {assign body:Code} {J:FuncId} {caps:List Value} {Hj:σ→Hp} {Hc:Hp} {Γx:α→List Fct} {Γi:List Fct} {xv:α→Value} {good:α→Prop} {stp:α→σ→σ ⊕ Empty}
    (L:σ) (res:σ ⊕ Empty) (hg:Fr.ev fr g=some (.func (.func J) #[] caps.toArray)) (hH:H.Perm (Hc++Hj L)) (T:∀ v,v.sat H→Z_ Γ v→Z_ Γi v)
    (y:∀ l D (d:Loop),d.params=#[Z]→d.state=.ready→d.pending=none→Fr.sat N fr ⟨d.tmps,[]⟩→d.assign=assign→d.body=body→∀ s x,good x →
      jg_ P l (xv x) (Hj s++HLp l D d) (Γx x) (fun _:Unit=>.bool (stp x s).isLeft) (fun _=>nF_ (fun s'=>Hj s'++HLp l D d) (fun _=>HLp l D { d with state:=.done,pending:=some .ret }) (stp x s)) (fun _=>[]))
    (U:∀ l (Gj:σ→Hp) (Gx:Empty→Hp),(∀ s x,good x→jg_ P l (xv x) (Gj s) (Γx x) (fun _:Unit=>.bool (stp x s).isLeft) (fun _=>nF_ Gj Gx (stp x s)) (fun _=>[])) →
      Tri P J (.func (.yield l) #[] #[]::caps).toArray (Hc++Gj L) Γi (fun _:Unit=>.tuple #[]) (fun _=>Hc++nF_ Gj Gx res) (fun _=>[]))
    (A:∀ s',res=.inl s'→∀ D l r,Fin P R ⟨N,mks (D::Ds)⟩ v0 H0 K fr (Hc++Hj s'++HLp l D r) Γ) :
    Run P R ⟨N,mks Ds⟩ v0 H0 (.rangeFunc g #[Z] assign body) K fr H Γ:=by
  intro a v E I h3 S;refine wpIn_wide (n:=0) |>.1 (wpIn_mono (Q:=ek_ Fence.wide 0 P R K) (wpIn_rangeFunc fun fn _=>?_) fun e a w hq=>bj_ K e a w hq)
  obtain⟨a1,a2⟩:=fK_ (w':=v.w.alloc (.deferred (some []))) (o:=.deferred (some [])) I rfl rfl rfl rfl (Nat.le_refl _);obtain⟨d,k⟩:∃ d:Loop,d={ state:=.ready,pending:=none,fn,tmps:=a.tmps,params:=#[Z],assign,body,defers:=v.w.heap.size }:=⟨_,rfl⟩;obtain⟨b1,b2⟩:=fK_ (w':=(v.w.alloc (.deferred (some []))).alloc (.loop d)) (o:=.loop d) a1 rfl rfl rfl rfl (Nat.le_refl _);have G:(v.w.alloc (Obj.deferred (some []))).heap.size=v.w.heap.size+1:=by simp
  have O:(⟨v.im,(v.w.alloc (.deferred (some []))).alloc (.loop d),v.sl⟩:Vw).sat ((v.w.heap.size+1,.loop d)::(v.w.heap.size,.deferred (some []))::H):=G▸b1;have B:v.to H ⟨v.im,(v.w.alloc (.deferred (some []))).alloc (.loop d),v.sl⟩ ((v.w.heap.size+1,.loop d)::(v.w.heap.size,.deferred (some []))::H):=a2.trans (G▸b2)
  have m:((v.w.heap.size+1,Obj.loop d)::(v.w.heap.size,.deferred (some []))::H).Perm (Hc++(Hj L++HLp (v.w.heap.size+1) v.w.heap.size d)):=by
    rw[← List.append_assoc];exact (List.perm_append_comm (l₁:=HLp (v.w.heap.size+1) v.w.heap.size d) (l₂:=H)).trans (hH.append_right _)
  have hT:=U (v.w.heap.size+1) (fun s=>Hj s++HLp (v.w.heap.size+1) v.w.heap.size d) (fun _=>HLp (v.w.heap.size+1) v.w.heap.size { d with state:=.done,pending:=some .ret })
    (y _ _ d zaT_ zaT_ zaT_ (by rw[k];exact⟨E.size,rfl,E.val⟩) zaT_ zaT_)
  have M:=ao_ (B.le I) (T v I S);have hΓ3:=ao_ (B.le I) S;have he:=E.ev hg;refine⟨v.w.heap.size+1,ob_ v.w.heap.size,(v.w.alloc (.deferred (some []))).alloc (.loop d),⟨.fn (.func J) caps.toArray,#[.func (.yield (v.w.heap.size+1)) #[] #[]]⟩,(v.w.alloc (.deferred (some []))).alloc (.loop d),J,(.func (.yield (v.w.heap.size+1)) #[] #[]::caps).toArray,_,?_,?_,fun _ _=>trivial,?_,fun h=>(by cases h),callsIn_wide.2 ((hT.run ⟨v.im,_,v.sl⟩ (O.perm m) M).mono ?_)⟩
  · rw[k];exact run_enterLoop_outer _ _ _ _ _
  · simp only[resolve,rangeCall,List.map_toArray,List.map_cons,List.map_nil,he,Deferred.ofValue]
    rfl
  · have:=hT.callable (.func (.yield (v.w.heap.size+1)) #[] #[]::caps).toArray ((v.w.alloc (.deferred (some []))).alloc (.loop d))
    simpa [invoke] using this
  · rintro e w' ⟨_,v',rfl,rfl,g1,g2,g3⟩
    have F:=B.trans (g3.permL m.symm);have V:=ao_ (F.le I) S;have a0:∀ D,Fr.sat ⟨N,mks (D::Ds)⟩ fr { a with defers:=ob_ D++a.defers }:=fun D=>⟨E.size,by show ob_ D++a.defers=_;rw[E.defers];rfl,E.val⟩
    have C:∀ (X Y:Hp) r,(Y++(X++HLp (v.w.heap.size+1) v.w.heap.size r)).Perm ((v.w.heap.size+1,.loop r)::(Y++X++[(v.w.heap.size,.deferred (some []))])):=fun X Y r=>by
      unfold HLp;rw[← List.append_assoc];exact List.perm_middle
    cases res with
    | inl s' =>
      have q:=g1.perm (C (Hj s') Hc d);have hl:=(q.own _ List.mem_cons_self).1;obtain⟨z1,z2⟩:=eM_ (o':=.loop { d with state:=.exhausted }) q
      have zp:((v.w.heap.size+1,Obj.loop { d with state:=.exhausted })::(Hc++Hj s'++[(v.w.heap.size,.deferred (some []))])).Perm (Hc++Hj s'++HLp (v.w.heap.size+1) v.w.heap.size { d with state:=.exhausted }):=by
        have:=(C (Hj s') Hc { d with state:=.exhausted }).symm;rw[← List.append_assoc]at this;exact this
      refine⟨d.pending,_,run_endLoop hl (by rw[k];simp),?_⟩;have W:d.pending=none:=by rw[k]
      split
      case h_2=>rename_i c hc;rw[W]at hc;cases hc
      exact bQ_ K .normal _ _ (A s' rfl _ _ _ _ ⟨v'.im,_,v'.sl⟩ (a0 _) (z1.perm zp) (h3.trans (F.trans ((z2.permL (C _ _ _).symm).subR fun b hb=>(zp.map Prod.fst).mem_iff.2 hb))) (ao_ (z2.le q) V))
    | inr t=>exact nomatch t
end
end Go.Sx
namespace Go.Vs
open Go Go.Sx
def Ax.vc (k:Int) (x:Ax):List Str:=x.left.nms k++x.right.nms k++(if k=6 then x.roles++[x.role] else [])++(if k=4 then [x.a,x.b] else [])
def vcL (k:Int) (l:List Ax):List Str:=l.flatMap (Ax.vc k)
theorem vd_ {k:Int} {l:List Ax} {i:Nat} {x:Ax} (h:l[i]? = some x):vcL k (l.take (i+1))=vcL k (l.take i)++x.vc k:=by
  unfold vcL;rw[List.take_add_one,h,List.flatMap_append];simp
def StM.nil:StM:=⟨#[],0,[],SetE.nil,Born.nil 0⟩
structure VI (s:StM) (D:List Str):Prop where
  mem:∀ n,n∈s.ks↔n∈D
  len:s.ks.length≤D.length
theorem VI.add {s:StM} {D:List Str} (h:VI s D) (k:Str):VI (s.add k) (D++[k]) :=
  ⟨fun n=>by rw[StM.mem,h.mem];simp,by have:=StM.len (s:=s) (k:=k);have:=h.len;rw[List.length_append];simp;omega⟩
theorem VI.cg {s:StM} {D E:List Str} (h:VI s D) (e:D=E):VI s E:=e▸h
abbrev S4:=StM×StM×StM×StM
def eo_ (x:Con) (s:S4):S4:=if x.kind=3 then (s.1.add x.name,s.2) else if x.kind=6 then (s.1,s.2.1.add x.name,s.2.2) else if x.kind=7 then (s.1,s.2.1,s.2.2.1.add x.name,s.2.2.2) else if x.kind=4 then (s.1,s.2.1,s.2.2.1,s.2.2.2.add x.name) else s
structure V4 (s:S4) (D:Int→List Str):Prop where
  c:VI s.1 (D 3)
  r:VI s.2.1 (D 6)
  f:VI s.2.2.1 (D 7)
  i:VI s.2.2.2 (D 4)
theorem V4.nil:V4 (StM.nil,StM.nil,StM.nil,StM.nil) (fun _=>[]):=⟨⟨fun n=>by simp[StM.nil],by simp[StM.nil]⟩,⟨fun n=>by simp[StM.nil],by simp[StM.nil]⟩,⟨fun n=>by simp[StM.nil],by simp[StM.nil]⟩,⟨fun n=>by simp[StM.nil],by simp[StM.nil]⟩⟩
theorem V4.cg {s:S4} {D E:Int→List Str} (h:V4 s D) (e:∀ k,D k=E k):V4 s E:=⟨h.c.cg (e 3),h.r.cg (e 6),h.f.cg (e 7),h.i.cg (e 4)⟩
theorem V4.put {s:S4} {D:Int→List Str} (h:V4 s D) (x:Con):V4 (eo_ x s) (fun k=>D k++if x.kind=k then [x.name] else []):=by
 unfold eo_
 split
 ·rename_i q;exact⟨(h.c.add _).cg (by rw[if_pos q]),h.r.cg (by rw[if_neg zs_];simp),h.f.cg (by rw[if_neg zs_];simp),h.i.cg (by rw[if_neg zs_];simp)⟩
 split
 ·rename_i q;exact⟨h.c.cg (by rw[if_neg zs_];simp),(h.r.add _).cg (by rw[if_pos q]),h.f.cg (by rw[if_neg zs_];simp),h.i.cg (by rw[if_neg zs_];simp)⟩
 split
 ·rename_i q;exact⟨h.c.cg (by rw[if_neg zs_];simp),h.r.cg (by rw[if_neg zs_];simp),(h.f.add _).cg (by rw[if_pos q]),h.i.cg (by rw[if_neg zs_];simp)⟩
 split
 ·rename_i q;exact⟨h.c.cg (by rw[if_neg zs_];simp),h.r.cg (by rw[if_neg zs_];simp),h.f.cg (by rw[if_neg zs_];simp),(h.i.add _).cg (by rw[if_pos q])⟩
 rename_i d m v e;exact⟨h.c.cg (by rw[if_neg d];simp),h.r.cg (by rw[if_neg m];simp),h.f.cg (by rw[if_neg v];simp),h.i.cg (by rw[if_neg e];simp)⟩
theorem V4.fold:∀ (L:List Con) {s:S4} {D:Int→List Str},V4 s D→V4 (L.foldl (fun s x=>eo_ x s) s) (fun k=>D k++(L.filter fun x=>decide (x.kind=k)).map Con.name)
  | [],s,D,h=>h.cg fun k=>by simp
  | x::L,s,D,h=>(V4.fold L (h.put x)).cg fun k=>by
    rw[List.filter_cons,List.append_assoc]
    by_cases q:x.kind=k<;>simp[q]
theorem V4.side {s:S4} {D:Int→List Str} {C:List Con} {j:Nat} {c:Con} (h:V4 s fun k=>D k++(C.take j).flatMap (Con.nms k)) (d:C[j]? = some c):V4 (c.nds.foldl (fun s x=>eo_ x s) s) (fun k=>D k++(C.take (j+1)).flatMap (Con.nms k)) :=
  (V4.fold c.nds h).cg fun k=>by
    rw[tk1 d,List.flatMap_append,List.append_assoc];simp[Con.nms]
def S4.addR (s:S4) (n:Str):S4:=(s.1,s.2.1.add n,s.2.2)
def S4.addI (s:S4) (n:Str):S4:=(s.1,s.2.1,s.2.2.1,s.2.2.2.add n)
theorem V4.addR {s:S4} {D:Int→List Str} (h:V4 s D) (n:Str):V4 (s.addR n) (fun k=>D k++if k=6 then [n] else []) :=
  ⟨h.c.cg zB_,(h.r.add n).cg zB_,h.f.cg zB_,h.i.cg zB_⟩
theorem V4.addI {s:S4} {D:Int→List Str} (h:V4 s D) (n:Str):V4 (s.addI n) (fun k=>D k++if k=4 then [n] else []) :=
  ⟨h.c.cg zB_,h.r.cg zB_,h.f.cg zB_,(h.i.add n).cg zB_⟩
theorem V4.role {s:S4} {D:Int→List Str} {L:List Str} {j:Nat} {n:Str} (h:V4 s fun k=>D k++if k=6 then L.take j else []) (d:L[j]? = some n):V4 (s.addR n) (fun k=>D k++if k=6 then L.take (j+1) else []) :=
  (h.addR n).cg fun k=>by by_cases q:k=6<;>simp[q,tk1 d]
theorem V4.axm {s:S4} {l:List Ax} {i:Nat} {x:Ax} (h:V4 s fun k=>(vcL k (l.take i)++[x.left,x.right].flatMap (Con.nms k))++if k=6 then x.roles else []) (e:l[i]? = some x):V4 (((s.addR x.role).addI x.a).addI x.b) (fun k=>vcL k (l.take (i+1))) :=
 (((h.addR x.role).addI x.a).addI x.b).cg fun k=>by
   rw[vd_ e];unfold Ax.vc
   by_cases q:k=6
   · subst q;simp
   · by_cases d:k=4
     · subst d;simp
     · simp[q,d]
theorem vc_len {x:Ax} {k:Int} (e:x.left.sz≤1000000) (h:x.right.sz≤1000000) (d:x.roles.length≤1000000):(x.vc k).length≤4000000:=by
  unfold Ax.vc;have:=Con.nms_len k x.left;have:=Con.nms_len k x.right;rw[List.length_append,List.length_append,List.length_append]
  split<;>split<;>simp<;>omega
theorem tb_ {k:Int}:∀ {l:List Ax},(∀ x∈l,x.left.sz≤1000000∧x.right.sz≤1000000∧x.roles.length≤1000000)→(vcL k l).length≤4000000*l.length
  | [],_=>by simp[vcL]
  | x::l,h=>by
    have e:=tb_ (k:=k) (l:=l) fun y d=>h y zaa_
    obtain⟨a,b,c⟩:=h x zB_;have m:=vc_len (k:=k) a b c;unfold vcL at e ⊢;rw[List.flatMap_cons,List.length_append,List.length_cons];omega
theorem gS_ {l:List Str} (hl:l.Nodup):SrS (aS_ l):=by
 have e:=fY_ l;have d:(aS_ l).Nodup:=(List.mergeSort_perm _ _).nodup_iff.2 hl;unfold List.Nodup at d;refine List.Pairwise.imp (fun {a b} hab=>?_) (e.and d)
 by_cases g:a<b
 ·exact g
 exact absurd (List.le_antisymm hab.1 (List.not_lt.1 g)) hab.2
def jh_ (k:Int) (l:List Ax) (Y:List Str):Prop:=SrS Y∧∀ n,n∈Y↔n∈vcL k l∧(k=6∨k=4→n≠[])
theorem jh_.of {k:Int} {l:List Ax} {s:StM} (h:VI s (vcL k l)) (hk:k≠6∧k≠4):jh_ k l (aS_ s.ks) :=
  ⟨gS_ s.hE.nd,fun n=>by rw[List.mem_mergeSort,h.mem];exact⟨fun q=>⟨q,fun r=>by rcases r with r|r;exact absurd r hk.1;exact absurd r hk.2⟩,fun q=>q.1⟩⟩
theorem jh_.ofD {k:Int} {l:List Ax} {s:StM} (h:VI s (vcL k l)) (hk:k=6∨k=4):jh_ k l (aS_ (s.ks.filter fun q=>decide (q≠[]))) :=
  ⟨gS_ (s.hE.nd.filter _),fun n=>by rw[List.mem_mergeSort,List.mem_filter,h.mem];exact⟨fun q=>⟨q.1,fun _=>by simpa using q.2⟩,fun q=>⟨q.1,by simpa using q.2 hk⟩⟩⟩
theorem jh_.uniq {k:Int} {l:List Ax} {Y Z:List Str} (h:jh_ k l Y) (g:jh_ k l Z):Y=Z:=gv_ h.1 g.1 fun n=>(h.2 n).trans (g.2 n).symm
end Go.Vs
