/-
  Part of the proof of the law CanonRoles over this seat: the small logic, the data, the contracts of functions (no condition).
-/
import Derived.Test.YtpbnmnfdgckaiaaGreatDoorQCanonRoles11
import Derived.Test.YtpbnmnfdgckaiaaGreatDoorQCanonRoles3
import Derived.Test.YtpbnmnfdgckaiaaGreatDoorQCanonRoles8
import Derived.Test.YtpbnmnfdgckaiaaGreatDoorQCanonRoles10
import Derived.Test.YtpbnmnfdgckaiaaGreatDoorQCanonRoles2
import Derived.Test.YtpbnmnfdgckaiaaGreatDoorQCanonRoles6
set_option linter.unusedVariables false
set_option linter.unusedSimpArgs false
set_option linter.unusedSectionVars false
set_option maxHeartbeats 1000000
namespace Go.Proofs.YtpbnmnfdgckaiaaGreatDoor
open Go Go.Sx Go.Proofs
attribute [local irreducible] Code.wp wpList wpAnyH
open Go.Vs
theorem kQ_ {G:Prop} (h:G:=by
 refine z_ dO_ (Zz 14 ?_);exact x_ ⟨(k+1,(List.set (List.set M k d) (Int.toNat ((List.length L:Int) - 1 - (k:Int))) h),x,C),(by have q:=U.step I (show M[List.length L - 1 - k]? = some d from by rw[show List.length L - 1 - k=(Int.toNat ((List.length L:Int) - 1 - (k:Int))) by omega];exact v) m;rw[show List.length L - 1 - k=(Int.toNat ((List.length L:Int) - 1 - (k:Int))) by omega]at q;exact q),O,G⟩ zb_ ⟨rfl,rfl,(ce_ rfl zb_),trivial⟩ ac_ zt):G:=h
theorem tr_ (L:List Int) (sv:Value) (Hr:Hp) (Y:zR 3 1 fz_ sv L Hr) (hl:L.length≤1000000000):Tri Tryz.prog 108 #[sv] Hr [] (fun _:{H:Hp // zR 3 1 fz_ sv L.reverse H}=>.tuple #[]) (fun y=>y.1) (fun _=>[]):=by
 refine i_ Tryz.func108 rfl rfl Tryz.ntmps108 rfl fun Z=>?_;refine Zz 3 ?_;refine e_ (dF_ Y at_ rfl) rfl (Zz 6 ?_);refine bt_ [(0,sv),(2,.int .i64 0),(3,.int .i64 ((List.length L:Int) - 1 - ((0:Nat):Int)))] ⟨rfl,rfl,(ce_ rfl za_),trivial⟩ ?_;refine L_ (ι:={y:Nat×List Int×Value×Hp // RevI L y.2.1 y.1∧y.2.2.1=sv∧zR 3 1 fz_ y.2.2.1 y.2.1 y.2.2.2}) (fun y=>[(0,y.1.2.2.1),(2,.int .i64 (y.1.1:Int)),(3,.int .i64 ((List.length L:Int) - 1 - (y.1.1:Int)))]) (fun y=>(y.1.2.2.2)) (fun y=>[]) (fun y=>List.length L - y.1.1) ⟨((0:Nat),L,sv,Hr),RevI.zero L,rfl,Y⟩ zl ac_ zt ?_;rintro ⟨⟨k,M,x,V⟩,U,O,e⟩;dsimp only at U O e ⊢;refine Zi 5 (fun B=>?_) fun B=>?_
 ·refine Zz 5 ?_
  have eM:=U.done B;subst eM;rw[O]at e;exact cl_ Tryz.results108 ⟨V,e⟩ rfl ac_ zt
 have I:=B;have hML:=U.len;have R:(Int.toNat ((List.length L:Int) - 1 - (k:Int)))<List.length M:=by omega
 obtain⟨d,v⟩:∃ P,M[(Int.toNat ((List.length L:Int) - 1 - (k:Int)))]? = some P:=⟨_,List.getElem?_eq_getElem R⟩;have X:d∈M:=List.mem_of_getElem? v;have S:k<List.length M:=by omega
 obtain⟨h,m⟩:∃ P,M[k]? = some P:=⟨_,List.getElem?_eq_getElem S⟩;have W:h∈M:=List.mem_of_getElem? m;refine Zz 7 ?_;refine ag_ ([]) zk ?_;refine J_ 6 [0,1,2,3,4,5,6,8,9,10] zk zs (Zz 6 ?_);refine N_ rfl (bE_ e at_ ak_ rfl rfl za_ za_) rfl (Zz 2 ?_);refine N_ rfl (bE_ e at_ ak_ rfl rfl za_ za_) rfl (bv_ ?_);refine gx_ 7 11 rfl rfl zk ?_ ?_
 ·refine e_ (cC_ e ac_ aN_ rfl (o_ dK_ v 0 _ rfl)) rfl (Zz 3 ?_)
  refine s_ 11 rfl zk (e_ (cC_ e ac_ aN_ rfl (o_ dK_ m 0 _ rfl)) rfl (Zz 3 ?_));refine J_ 3 [12] zk zs (N_ rfl (bE_ e at_ ak_ rfl rfl za_ za_) rfl (bv_ (s_ 13 rfl zk (fe_ (k:=(k:Int).toNat*1+0) e ac_ ak_ rfl rfl za_ rfl rfl fun F B=>?_))));have J:=(iq_ fz_ 1 dK_ M k 0 h d (.int .i64 d) m ze_ rfl).trans (congrArg _ (rfl));have A:aw_ 3 1 x (List.length (List.set M k d)) (List.flatMap fz_ (List.set M k d)) F:=by rw[← J,show List.length (List.set M k d)=List.length M from (List.length_set ..)];exact B
  refine z_ dO_ (Zz 3 ?_);refine s_ 14 rfl zk ?_;have K:(List.set M k d)[(Int.toNat ((List.length L:Int) - 1 - (k:Int)))]? = some d:=by rw[List.getElem?_set_ne za_];exact v
  have Q:(Int.toNat ((List.length L:Int) - 1 - (k:Int)))<List.length (List.set M k d):=by rw[List.length_set];omega
  refine e_ (bE_ A at_ ak_ rfl rfl za_ za_) rfl (Zz 3 ?_);refine s_ 15 rfl zk (fe_ (k:=((Int.toNat ((List.length L:Int) - 1 - (k:Int))):Int).toNat*1+0) A ac_ ak_ rfl rfl za_ rfl rfl fun C E=>?_);have N:=(iq_ fz_ 1 dK_ (List.set M k d) (Int.toNat ((List.length L:Int) - 1 - (k:Int))) 0 d h (.int .i64 h) K ze_ rfl).trans (congrArg _ (rfl));have G:aw_ 3 1 x (List.length (List.set (List.set M k d) (Int.toNat ((List.length L:Int) - 1 - (k:Int))) h)) (List.flatMap fz_ (List.set (List.set M k d) (Int.toNat ((List.length L:Int) - 1 - (k:Int))) h)) C:=by rw[← N,show List.length (List.set (List.set M k d) (Int.toNat ((List.length L:Int) - 1 - (k:Int))) h)=List.length (List.set M k d) from (List.length_set ..)];exact E
  exact kQ_
 refine e_ (cC_ e ac_ aN_ rfl (o_ dK_ m 0 _ rfl)) rfl (Zz 3 ?_);refine s_ 7 rfl zk (e_ (cC_ e ac_ aN_ rfl (o_ dK_ v 0 _ rfl)) rfl (Zz 3 ?_));refine J_ 3 [12] zk zs (N_ rfl (bE_ e at_ ak_ rfl rfl za_ za_) rfl (bv_ (s_ 13 rfl zk (fe_ (k:=(k:Int).toNat*1+0) e ac_ ak_ rfl rfl za_ rfl rfl fun F E=>?_))));have J:=(iq_ fz_ 1 dK_ M k 0 h d (.int .i64 d) m ze_ rfl).trans (congrArg _ (rfl));have A:aw_ 3 1 x (List.length (List.set M k d)) (List.flatMap fz_ (List.set M k d)) F:=by rw[← J,show List.length (List.set M k d)=List.length M from (List.length_set ..)];exact E
 refine z_ dO_ (Zz 3 ?_);refine s_ 14 rfl zk ?_;have K:(List.set M k d)[(Int.toNat ((List.length L:Int) - 1 - (k:Int)))]? = some d:=by rw[List.getElem?_set_ne za_];exact v
 have Q:(Int.toNat ((List.length L:Int) - 1 - (k:Int)))<List.length (List.set M k d):=by rw[List.length_set];omega
 refine e_ (bE_ A at_ ak_ rfl rfl za_ za_) rfl (Zz 3 ?_);refine s_ 15 rfl zk (fe_ (k:=((Int.toNat ((List.length L:Int) - 1 - (k:Int))):Int).toNat*1+0) A ac_ ak_ rfl rfl za_ rfl rfl fun C T=>?_);have N:=(iq_ fz_ 1 dK_ (List.set M k d) (Int.toNat ((List.length L:Int) - 1 - (k:Int))) 0 d h (.int .i64 h) K ze_ rfl).trans (congrArg _ (rfl));have G:aw_ 3 1 x (List.length (List.set (List.set M k d) (Int.toNat ((List.length L:Int) - 1 - (k:Int))) h)) (List.flatMap fz_ (List.set (List.set M k d) (Int.toNat ((List.length L:Int) - 1 - (k:Int))) h)) C:=by rw[← N,show List.length (List.set (List.set M k d) (Int.toNat ((List.length L:Int) - 1 - (k:Int))) h)=List.length (List.set M k d) from (List.length_set ..)];exact T
 exact kQ_
def b2C (e:Bool×Bool):List Value:=[.bool e.1,.bool e.2]
theorem ke_ (e:Bool×Bool):(b2C e).length=2:=rfl
structure SeenI (W:List Wy) (B:List (Bool×Bool)) (n:Nat):Prop where
  len:B.length=n
  at':∀ r,r<n→B[r]? = some (lF_ W r false,lF_ W r true)
theorem om_ (W:List Wy) (w:Wy) (r:Nat) (b:Bool):lF_ (W++[w]) r b=(lF_ W r b||(w.role==r&&w.strict==b)):=by simp[lF_]
theorem SeenI.push {W:List Wy} {B:List (Bool×Bool)} {n r:Nat} {b:Bool} {bf m:Nat} {u:Bool×Bool} (h:SeenI W B n) (v:B[r]? = some u):SeenI (W++[⟨r,b,bf,m⟩]) (B.set r (if b then (u.1,true) else (true,u.2))) n:=by
 have k:=(List.getElem?_eq_some_iff.1 v).1;have hl:=h.len;refine⟨by rw[List.length_set,h.len],fun q x=>?_⟩;have d:=h.at' q x;rw[om_,om_,List.getElem?_set]
 by_cases e:r=q
 ·subst e
  rw[if_pos rfl,if_pos k];rw[v]at d;simp only[Option.some.injEq]at d;subst d;cases b<;>simp
 rw[if_neg e,d];have:(r==q)=false:=by simp[e]
 simp[this]
theorem SeenI.init {n s:Nat} (h:s<n):SeenI [⟨s,false,0,0⟩] (List.set (List.replicate n (false,false)) s (true,false)) n:=by
  have e:SeenI [] (List.replicate n (false,false)) n:=⟨List.length_replicate,fun r d=>by rw[List.getElem?_replicate,if_pos d];rfl⟩;have k:(List.replicate n (false,false))[s]? = some (false,false):=by rw[List.getElem?_replicate,if_pos h]
  have:=e.push (b:=false) (bf:=0) (m:=0) k;simpa using this
def CirR (G:List (List (Nat×Bool))) (start most:Nat) (L:List Int) (ad:Option Addr) (cap:Nat):Prop :=
  (L=[]∧ad=none∧cap=0∧∀ (n:Nat) (f:Nat→Nat) (c:Nat→Bool),Clw (gE G) n f c→f 0=start→most≤n) ∨
  (ad≠none∧(∃ n,Clo (gE G) n)∧(∀ x∈L,0≤x∧x<(G.length:Int))∧L.length≤2*G.length+1)
theorem hY_ {P:Program} {N:Nf} {fr:Fr} {H:Hp} {Γ:List Fct} {t e ty:TypeId} {x y:Operand} {b k i:Nat} (h:∀ w,(underlying t).run P w=.ok (.array 2 e) w) (m:∀ w,(sizeOf e).run P w=.ok 1 w) (q:Fr.ev fr x=some (zp_ b k)) (d:Fr.ev fr y=some (.int .i64 (i:Int))) (hi:i<2) :
    Yld P N fr H Γ (.indexAddr t x y) ty (.pointer (some ⟨b,k+i,none⟩)):=by
  have:=dV_ (P:=P) (N:=N) (fr:=fr) (H:=H) (Γ:=Γ) (ty:=ty) h m q d za_ za_;rwa [Nat.mul_one,Int.toNat_natCast]at this
theorem aw_.lit {e:TypeId} {sz b:Nat} {d:List Value} {n:Nat} (hl:d.length=n*sz) (h:n≤maxLen):aw_ e sz (.slice (some ⟨b,0,none⟩) n n) n d [(b,.cells d.toArray e (0,0))] :=
  ⟨hl,.inr ⟨b,n,d.toArray,rfl,rfl,Nat.le_refl _,h,by simpa using hl,by rw[← hl];simp⟩⟩
theorem kP_ {G:Prop} (h:G:=by
 have Z:=U;refine Zz 8 ?_;exact x_ ⟨(k+1,V,N,K,O,I,a9),(J.skip G hGw T (fun q=>by have F:=hcll;rw[q.2]at F;simp[q.1]at F) (by rw[a0];have F:=Z;rw[hbe]at F;exact F)),M,G,Y,A,C⟩ zb_ zl (j_ (c_ d_) (j_ (c_ d_) (A_ (c_ t_) C_))) zh):G:=h
theorem wc_ (R:List Str) (rad:Option Addr) (a8:Nat) (X:List Grw) (a5:Option Addr) (a7 d most:Nat) (hlen:X.length=R.length) (hs:d<X.length) (hto:∀ (i:Nat) (l:List (Nat×Bool)),(List.map Grw.st X)[i]? = some l→∀ s∈l,s.1<((List.map Grw.st X)).length) (hXl:X.length≤100000) (hrows:∀ y∈X,y.st.length≤100000000) (hmost:most≤200000):Tri Tryz.prog 68 #[.agg #[.slice rad (List.length R) a8,.slice a5 (List.length X) a7],.int .i64 (d:Int),.int .i64 (most:Int)] [] [ah_ rad (List.flatMap af_ R),ah_ a5 (List.flatMap Grw.cells X),hK_ X] (fun y:{y:List Int×Option Addr×Nat // CirR (List.map Grw.st X) d most y.1 y.2.1 y.2.2∧List.length y.1≤y.2.2∧y.2.2≤maxLen∧(y.2.1=none→y.2.2=0)}=>.slice y.1.2.1 (List.length y.1.1) y.1.2.2) (fun _=>[]) (fun y=>[ah_ y.1.2.1 (List.flatMap fz_ y.1.1)]):=by
 refine i_ Tryz.func68 rfl rfl Tryz.ntmps68 rfl fun v_1=>?_;refine Zz 2 ?_;refine aa_ rfl rfl fun a4=>Zz 3 ?_
 refine kp_ (Zz 3 ?_);refine e_ (H_ oA_ rfl rfl) rfl (U_ ec_ fS_ nI_ rfl rfl rfl rfl rfl rfl fun b_2=>Zz 4 ?_);have hqW:aw_ 164 4 (.slice (some ⟨b_2,0,none⟩) 1 1) (List.length [(Wy.mk d false 0 0)]) (List.flatMap wyC [(Wy.mk d false 0 0)]) [(b_2,.cells #[.int .i64 (d:Int),.bool false,.int .i64 (0:Int),.int .i64 (0:Int)] 164 (0,0))]:=aw_.lit rfl ze_;refine z_ (H':=([(b_2,.cells #[.int .i64 (d:Int),.bool false,.int .i64 (0:Int),.int .i64 (0:Int)] 164 (0,0))]++((a4,.cells #[.slice rad (List.length R) a8,.slice a5 (List.length X) a7] 103 (0,0))::[]))) (List.Perm.refl _) (Zz 4 ?_);refine qg_ (n:=List.length R) (by':=2) Tryz.underlying166 (z:=.agg #[.bool false,.bool false]) zk rfl ze_ rfl rfl za_ zm_ rfl fun svB HrB hrB=>?_;have hqB:aw_ 167 2 svB (List.length (List.replicate (List.length R) (false,false))) (List.flatMap b2C (List.replicate (List.length R) (false,false))) HrB:=by rw[List.length_replicate,← pu_ b2C];exact hrB
 have hzl:List.length (List.replicate (List.length R) (false,false))=List.length R:=List.length_replicate;have hz_1:(List.replicate (List.length R) (false,false))[d]? = some (false,false):=by rw[List.getElem?_replicate,if_pos za_]
 refine Zz 3 ?_;refine z_ (bb_ (f_ aP_)) (Zz 4 ?_);refine e_ (bE_ hqB iV_ uH_ rfl rfl za_ za_) rfl (e_ (hY_ (i:=0) iU_ dN_ rfl rfl ze_) rfl (fe_ (k:=(d:Int).toNat*2+0) hqB zp dN_ rfl rfl za_ rfl rfl fun Hr_1 hr_1=>?_));have hs_1:=(iq_ b2C 2 ke_ (List.replicate (List.length R) (false,false)) d 0 (false,false) (true,false) (.bool true) hz_1 ze_ rfl).trans (congrArg _ (rfl));have hq_1:aw_ 167 2 svB (List.length (List.set (List.replicate (List.length R) (false,false)) d (true,false))) (List.flatMap b2C (List.set (List.replicate (List.length R) (false,false)) d (true,false))) Hr_1:=by rw[← hs_1,show List.length (List.set (List.replicate (List.length R) (false,false)) d (true,false))=List.length (List.replicate (List.length R) (false,false)) from (List.length_set ..)];exact hr_1
 refine Zz 3 ?_;refine kr_ (Zz 2 ?_);refine z_ (bb_ (f_ d_)) (Zz 6 ?_);refine L_ (ι:={y:Nat×List Wy×List (Bool×Bool)×Value×Hp×Value×Hp // BI (List.map Grw.st X) d y.2.1 y.1 0∧SeenI y.2.1 y.2.2.1 (List.length X)∧y.1≤List.length y.2.1∧zR 164 4 wyC y.2.2.2.1 y.2.1 y.2.2.2.2.1∧zR 167 2 b2C y.2.2.2.2.2.1 y.2.2.1 y.2.2.2.2.2.2}) (fun y=>[(1,.int .i64 (d:Int)),(2,.int .i64 (most:Int)),(3,zp_ a4 0),(6,.slice none 0 0),(7,y.1.2.2.2.1),(8,y.1.2.2.2.2.2.1),(9,.int .i64 (y.1.1:Int))]) (fun y=>((a4,.cells #[.slice rad (List.length R) a8,.slice a5 (List.length X) a7] 103 (0,0))::(y.1.2.2.2.2.1++y.1.2.2.2.2.2.2))) (fun y=>[ah_ rad (List.flatMap af_ R),ah_ a5 (List.flatMap Grw.cells X),hK_ X]) (fun y=>2*List.length X - y.1.1) ⟨((0:Nat),[(Wy.mk d false 0 0)],(List.set (List.replicate (List.length R) (false,false)) d (true,false)),(.slice (some ⟨b_2,0,none⟩) 1 1),[(b_2,.cells #[.int .i64 (d:Int),.bool false,.int .i64 (0:Int),.int .i64 (0:Int)] 164 (0,0))],svB,Hr_1),BI.init (by rw[List.length_map];exact hs),(by rw[hlen];exact SeenI.init za_),zj_,hqW,hq_1⟩ zl zp zh ?_;rintro ⟨⟨a,W,Bl,K,O,I,a9⟩,hI,hSn,ha,A,C⟩;dsimp only at hI hSn ha A C ⊢;refine Zz 5 ?_;refine e_ (dF_ A ec_ rfl) rfl ?_;refine Zi 0 (fun hr_1=>?_) fun hr_1=>?_
 ·refine Zz 12 ?_
  exact ae_ Tryz.results68 ⟨([],none,0),.inl ⟨rfl,rfl,rfl,fun n f c hc hf=>hI.none (fun w hw=>by have:=(List.getElem?_eq_some_iff.1 hw).1;omega) hto hc hf⟩,by simp[maxLen]⟩ rfl m_ (fun v _ h=>⟨.inl rfl,trivial⟩)
 have hlw_1:a<List.length W:=by omega
 obtain⟨E,a6⟩:∃ B,W[a]? = some B:=⟨_,List.getElem?_eq_getElem hlw_1⟩;have hmw_1:E∈W:=List.mem_of_getElem? a6;have hrole:=hI.role a E a6;rw[List.length_map]at hrole;have hmny:=hI.many a E a6;have hWl:=hI.len;rw[List.length_map]at hWl;have hly_1:(Wy.role E)<List.length X:=hrole;obtain⟨H,hy_1⟩:∃ B,X[(Wy.role E)]? = some B:=⟨_,List.getElem?_eq_getElem hly_1⟩;have b2:H∈X:=List.mem_of_getElem? hy_1;have hGw:(List.map Grw.st X)[Wy.role E]? = some (Grw.st H):=by rw[List.getElem?_map,hy_1];rfl
 have hyl:=hrows H b2;refine Zz 11 ?_;refine e_ (bE_ A ec_ fS_ rfl rfl za_ za_) rfl (e_ (eT_ A zp Tryz.isAgg164 fS_ rfl (lL_ _) ze_ (o_ lL_ a6)) rfl (G_ nI_ rfl fun b_3=>u_ 0 fS_ rfl rfl rfl rfl rfl rfl (Zz 7 ?_)));refine e_ (ar_ (bc_ rfl rfl rfl (ck_ za_ za_)) (show _=Value.int .i64 ((Wy.many E+1:Nat):Int) from congrArg _ za_)) rfl (Zi 1 (fun hr_2=>?_) fun hr_2=>?_)
 ·refine Zz 18 ?_
  refine L_ (ι:={y:Nat×List Wy×List (Bool×Bool)×Value×Hp×Value×Hp // BI (List.map Grw.st X) d y.2.1 a y.1∧SeenI y.2.1 y.2.2.1 (List.length X)∧y.2.1[a]? = some E∧y.1≤List.length (Grw.st H)∧zR 164 4 wyC y.2.2.2.1 y.2.1 y.2.2.2.2.1∧zR 167 2 b2C y.2.2.2.2.2.1 y.2.2.1 y.2.2.2.2.2.2}) (fun y=>[(1,.int .i64 (d:Int)),(2,.int .i64 (most:Int)),(3,zp_ a4 0),(6,.slice none 0 0),(7,y.1.2.2.2.1),(8,y.1.2.2.2.2.2.1),(9,.int .i64 (a:Int)),(10,zp_ b_3 0),(46,.slice (Grw.ad H) (List.length (Grw.st H)) (Grw.cap H)),(47,.int .i64 (List.length (Grw.st H):Int)),(48,.int .i64 (y.1.1:Int))]) (fun y=>((b_3,.cells #[.int .i64 (Wy.role E:Int),.bool (Wy.strict E),.int .i64 (Wy.before E:Int),.int .i64 (Wy.many E:Int)] 164 (0,0))::((a4,.cells #[.slice rad (List.length R) a8,.slice a5 (List.length X) a7] 103 (0,0))::(y.1.2.2.2.2.1++y.1.2.2.2.2.2.2)))) (fun y=>[ah_ rad (List.flatMap af_ R),ah_ a5 (List.flatMap Grw.cells X),hK_ X]) (fun y=>List.length (Grw.st H) - y.1.1) ⟨((0:Nat),W,Bl,K,O,I,a9),hI,hSn,a6,za_,A,C⟩ zl zp zh ?_;rintro ⟨⟨k,V,N,K,O,I,a9⟩,J,M,G,hk,A,C⟩;dsimp only at J M G hk A C ⊢;refine Zi 2 (fun hr_3=>?_) fun hr_3=>?_
  ·refine Zz 8 ?_
   refine e_ (ar_ (bc_ rfl rfl rfl (ck_ za_ za_)) (show _=Value.int .i64 ((a+1:Nat):Int) from congrArg _ za_)) rfl (Zz 3 ?_);exact x_ ⟨(a+1,V,N,K,O,I,a9),J.next G hGw za_,M,(by have:=(List.getElem?_eq_some_iff.1 G).1;dsimp only;omega),A,C⟩ (by have q_1:=J.len;have q_2:=(List.getElem?_eq_some_iff.1 G).1;rw[List.length_map]at q_1;dsimp only;omega) zl (j_ (c_ d_) (A_ (c_ t_) C_)) zh
  have Y:k<List.length (Grw.st H):=by omega
  obtain⟨B,T⟩:∃ B,(Grw.st H)[k]? = some B:=⟨_,List.getElem?_eq_getElem Y⟩;have hme_1:B∈(Grw.st H):=List.mem_of_getElem? T;have hto_1:=hto _ _ hGw B hme_1;have hto_2:Prod.fst B<List.length X:=by have q:=hto_1;rw[List.length_map]at q;exact q
  have hWl_1:=J.len;rw[List.length_map]at hWl_1;have hbl:=M.len;have hal:=(List.getElem?_eq_some_iff.1 G).1;have hbv_1:=M.at' (Prod.fst B) hto_2;obtain⟨bv,hbv,hbe⟩:∃ bv,N[Prod.fst B]? = some bv∧bv=(lF_ V (Prod.fst B) false,lF_ V (Prod.fst B) true):=⟨_,hbv_1,rfl⟩;refine Zz 10 ?_;refine e_ (Q_ bZ_ Tryz.sizeOf160 rfl rfl (fun v _ h=>as_ (n:=2) no_ ze_ (by exact (h.2.2.1 H b2)) T) za_ zh_) rfl ?_;refine e_ (aj_ (ad:=(Grw.ad H)) (us:=qI_ B) Tryz.isAgg160 Tryz.sizeOf160 rfl (fun v _ h=>by exact (h.2.2.1 H b2)) (no_ _) (o_ no_ T)) rfl (G_ Tryz.zeroValue160 rfl fun b_4=>u_ 0 Tryz.sizeOf160 rfl rfl rfl rfl rfl rfl (Zz 5 ?_));refine B_ (aE_ 1 Tryz.isAgg4 rfl rfl rfl) rfl fun r_1 hr_4=>Zz 1 ?_
  refine ai_ 3 (((Wy.strict E))||((Prod.snd B))) (fun r=>[(1,.int .i64 (d:Int)),(2,.int .i64 (most:Int)),(3,zp_ a4 0),(6,.slice none 0 0),(7,K),(8,I),(9,.int .i64 (a:Int)),(10,zp_ b_3 0),(46,.slice (Grw.ad H) (List.length (Grw.st H)) (Grw.cap H)),(47,.int .i64 (List.length (Grw.st H):Int)),(48,.int .i64 (k:Int)),(12,zp_ b_4 0),(57,.bool r)]) ?_ fun r_2 b0=>?_
  ·cases r_1
   ·have a1:=hr_4
    refine Zz 3 ?_;refine B_ (aE_ 0 Tryz.isAgg4 rfl rfl rfl) rfl fun r_3 P=>Zz 3 ?_
    exact met (zm (jof a1 P))
   have a1:=hr_4;refine Zz 5 ?_;exact met ⟨rfl,rfl,rfl,rfl,rfl,rfl,rfl,rfl,rfl,rfl,rfl,rfl,(n_ rfl (jot a1)),trivial⟩
  refine Zz 9 ?_;refine B_ (bJ_ rfl rfl) rfl fun r_3 P=>Zz 1 ?_
  refine ai_ 2 ((((Prod.fst B:Nat):Int)==(d:Int))&&((((Wy.strict E))||((Prod.snd B))))) (fun r=>[(1,.int .i64 (d:Int)),(2,.int .i64 (most:Int)),(3,zp_ a4 0),(6,.slice none 0 0),(7,K),(8,I),(9,.int .i64 (a:Int)),(10,zp_ b_3 0),(46,.slice (Grw.ad H) (List.length (Grw.st H)) (Grw.cap H)),(47,.int .i64 (List.length (Grw.st H):Int)),(48,.int .i64 (k:Int)),(12,zp_ b_4 0),(13,.bool r_2),(64,.bool r)]) ?_ fun r_4 hr_7=>?_
  ·cases r_3
   ·have a1:=P
    replace P:=znb P;refine Zz 4 ?_;exact met ⟨rfl,rfl,rfl,rfl,rfl,rfl,rfl,rfl,rfl,rfl,rfl,rfl,rfl,(n_ rfl (jaf a1)),trivial⟩
   have a1:=P;replace P:=zeb P;refine Zz 5 ?_;exact met ⟨rfl,rfl,rfl,rfl,rfl,rfl,rfl,rfl,rfl,rfl,rfl,rfl,rfl,(n_ rfl (jat a1 b0)),trivial⟩
  refine Zz 2 ?_;cases r_4
  ·have hcll:=hr_7
   refine Zz 14 ?_;cases r_2
   ·have a0:=b0
    refine Zz 10 ?_;refine e_ (bE_ C iV_ uH_ rfl rfl za_ za_) rfl (e_ (hY_ (i:=0) iU_ dN_ rfl rfl ze_) rfl (B_ (cC_ C (c_ (c_ (c_ aP_))) Tryz.isAgg4 rfl (o_ ke_ hbv 0 _ rfl)) rfl fun r_5 U=>Zz 2 ?_));cases r_5
    ·have Z:=U
     refine Zz 9 ?_;refine e_ (bE_ C iV_ uH_ rfl rfl za_ za_) rfl (e_ (hY_ (i:=0) iU_ dN_ rfl rfl ze_) rfl (fe_ (k:=((Prod.fst B:Nat):Int).toNat*2+0) C (c_ (c_ (c_ aP_))) dN_ rfl rfl za_ rfl rfl fun S hr_2=>?_));have hs_2:=(iq_ b2C 2 ke_ N (Prod.fst B:Nat) 0 bv (true,Prod.snd bv) (.bool true) hbv ze_ rfl).trans (congrArg _ (rfl));have a3:aw_ 167 2 I (List.length (List.set N (Prod.fst B:Nat) (true,Prod.snd bv))) (List.flatMap b2C (List.set N (Prod.fst B:Nat) (true,Prod.snd bv))) S:=by rw[← hs_2,show List.length (List.set N (Prod.fst B:Nat) (true,Prod.snd bv))=List.length N from (List.length_set ..)];exact hr_2
     refine Zz 2 ?_;refine z_ (S_ (f_ d_) (S_ (f_ d_) (bb_ (f_ d_)))) (Zz 8 ?_);refine e_ (ar_ (bc_ rfl rfl rfl (ck_ za_ za_)) (show _=Value.int .i64 ((Wy.many E+1:Nat):Int) from congrArg _ za_)) rfl (e_ (H_ oA_ rfl rfl) rfl (U_ ec_ fS_ nI_ rfl rfl rfl rfl rfl rfl fun b_5=>?_));refine an_ (news:=List.flatMap wyC [(Wy.mk (Prod.fst B:Nat) false a (Wy.many E+1:Nat))]) vN_ A rfl rfl zp rfl (aO_ 0 rfl) (fun u hu=>aA_ sl_ hu) zo_ zs_ rfl fun Q Hr_3 hr_3=>?_;have hq_3:=zsa hr_3;refine Zz 3 ?_;refine z_ (S_ (f_ d_) (S_ (f_ d_) (S_ (f_ d_) (bb_ (f_ d_))))) (Zz 5 ?_);exact x_ ⟨(k+1,(V++[(Wy.mk (Prod.fst B:Nat) false a (Wy.many E+1:Nat))]),(List.set N (Prod.fst B:Nat) (true,Prod.snd bv)),Q,Hr_3,I,S),zH_,(M.push (b:=false) (bf:=a) (m:=Wy.many E+1) hbv),zal_,Y,hq_3,a3⟩ zb_ zl (j_ (c_ (c_ d_)) (j_ (c_ (c_ d_)) (A_ (c_ (c_ t_)) (c_ C_)))) zh
    exact kP_
   have a0:=b0;refine Zz 12 ?_;refine e_ (bE_ C iV_ uH_ rfl rfl za_ za_) rfl (e_ (hY_ (i:=1) iU_ dN_ rfl rfl ze_) rfl (B_ (cC_ C (c_ (c_ (c_ aP_))) Tryz.isAgg4 rfl (o_ ke_ hbv 1 _ rfl)) rfl fun r_5 U=>Zz 2 ?_));cases r_5
   ·have Z:=U
    refine Zz 9 ?_;refine e_ (bE_ C iV_ uH_ rfl rfl za_ za_) rfl (e_ (hY_ (i:=1) iU_ dN_ rfl rfl ze_) rfl (fe_ (k:=((Prod.fst B:Nat):Int).toNat*2+1) C (c_ (c_ (c_ aP_))) dN_ rfl rfl za_ rfl rfl fun S hr_4=>?_));have hs_2:=(iq_ b2C 2 ke_ N (Prod.fst B:Nat) 1 bv (Prod.fst bv,true) (.bool true) hbv ze_ rfl).trans (congrArg _ (rfl));have a3:aw_ 167 2 I (List.length (List.set N (Prod.fst B:Nat) (Prod.fst bv,true))) (List.flatMap b2C (List.set N (Prod.fst B:Nat) (Prod.fst bv,true))) S:=by rw[← hs_2,show List.length (List.set N (Prod.fst B:Nat) (Prod.fst bv,true))=List.length N from (List.length_set ..)];exact hr_4
    refine Zz 2 ?_;refine z_ (S_ (f_ d_) (S_ (f_ d_) (bb_ (f_ d_)))) (Zz 8 ?_);refine e_ (ar_ (bc_ rfl rfl rfl (ck_ za_ za_)) (show _=Value.int .i64 ((Wy.many E+1:Nat):Int) from congrArg _ za_)) rfl (e_ (H_ oA_ rfl rfl) rfl (U_ ec_ fS_ nI_ rfl rfl rfl rfl rfl rfl fun b_5=>?_));refine an_ (news:=List.flatMap wyC [(Wy.mk (Prod.fst B:Nat) true a (Wy.many E+1:Nat))]) vN_ A rfl rfl zp rfl (aO_ 0 rfl) (fun u hu=>aA_ sl_ hu) zo_ zs_ rfl fun Q Hr_3 b0=>?_;have hq_3:=zsa b0;refine Zz 3 ?_;refine z_ (S_ (f_ d_) (S_ (f_ d_) (S_ (f_ d_) (bb_ (f_ d_))))) (Zz 5 ?_);exact x_ ⟨(k+1,(V++[(Wy.mk (Prod.fst B:Nat) true a (Wy.many E+1:Nat))]),(List.set N (Prod.fst B:Nat) (Prod.fst bv,true)),Q,Hr_3,I,S),zH_,(M.push (b:=true) (bf:=a) (m:=Wy.many E+1) hbv),zal_,Y,hq_3,a3⟩ zb_ zl (j_ (c_ (c_ d_)) (j_ (c_ (c_ d_)) (A_ (c_ (c_ t_)) (c_ C_)))) zh
   exact kP_
  have hclT:=hr_7;refine Zz 3 ?_;refine z_ (H':=((b_4,.cells #[.int .i64 ((Prod.fst B:Nat):Int),.bool (Prod.snd B)] 160 (0,0))::((b_3,.cells #[.int .i64 (Wy.role E:Int),.bool (Wy.strict E),.int .i64 (Wy.before E:Int),.int .i64 (Wy.many E:Int)] 164 (0,0))::((a4,.cells #[.slice rad (List.length R) a8,.slice a5 (List.length X) a7] 103 (0,0))::(O++(a9++([]:Hp))))))) (List.Perm.cons _ (List.Perm.cons _ (List.Perm.cons _ (List.Perm.append_left O (List.Perm.of_eq (List.append_nil _).symm))))) ?_;refine L_ (ι:={y:Nat×List Int×Value×Hp×Value×Hp // y.1≤a∧(∀ x∈y.2.1,0≤x∧x<(List.length X:Int))∧List.length y.2.1+y.1≤a∧zR 164 4 wyC y.2.2.1 V y.2.2.2.1∧zR 3 1 fz_ y.2.2.2.2.1 y.2.1 y.2.2.2.2.2}) (fun y=>[(1,.int .i64 (d:Int)),(2,.int .i64 (most:Int)),(3,zp_ a4 0),(6,y.1.2.2.2.2.1),(7,y.1.2.2.1),(8,I),(9,.int .i64 (y.1.1:Int)),(10,zp_ b_3 0),(46,.slice (Grw.ad H) (List.length (Grw.st H)) (Grw.cap H)),(47,.int .i64 (List.length (Grw.st H):Int)),(48,.int .i64 (k:Int)),(12,zp_ b_4 0)]) (fun y=>((b_4,.cells #[.int .i64 ((Prod.fst B:Nat):Int),.bool (Prod.snd B)] 160 (0,0))::((b_3,.cells #[.int .i64 (Wy.role E:Int),.bool (Wy.strict E),.int .i64 (Wy.before E:Int),.int .i64 (Wy.many E:Int)] 164 (0,0))::((a4,.cells #[.slice rad (List.length R) a8,.slice a5 (List.length X) a7] 103 (0,0))::(y.1.2.2.2.1++y.1.2.2.2.2.2))))) (fun y=>[ah_ rad (List.flatMap af_ R),ah_ a5 (List.flatMap Grw.cells X),hK_ X]) (fun y=>y.1.1) ⟨(a,([]:List Int),K,O,(.slice none 0 0),([]:Hp)),(Nat.le_refl _),zj_,zj_,A,(aw_.nil _ _)⟩ zl zp zh ?_;rintro ⟨⟨a_1,L,K,O,sv_RL,H_RL⟩,ha_1,hLx,hLl,A,b3⟩;dsimp only at ha_1 hLx hLl A b3 ⊢;refine Zi 4 (fun U=>?_) fun U=>?_
  ·refine Zz 9 ?_
   refine U_ at_ ak_ kk_ rfl rfl rfl rfl rfl rfl fun b_5=>?_;refine an_ (news:=List.flatMap fz_ [(d:Int)]) sM_ b3 rfl rfl zp rfl (aO_ 0 rfl) (fun u hu=>aA_ qz_ hu) zo_ zs_ rfl fun Q S hr_9=>?_;have a3:=zsa hr_9;refine Zz 3 ?_;refine z_ (S_ (f_ d_) (S_ (f_ d_) (S_ (f_ d_) (bb_ (f_ d_))))) (Zz 3 ?_);refine g_ (tr_ (L++[(d:Int)]) Q S a3 (by have:=(List.getElem?_eq_some_iff.1 G).1;simp only[List.length_append,List.length_singleton];omega)) rfl (c_ (c_ (c_ (c_ t_)))) zt rfl fun⟨Hv_1,hv_1⟩=>?_;dsimp only;have hqL_1:aw_ 3 1 Q (List.length (List.reverse (L++[(d:Int)]))) (List.flatMap fz_ (List.reverse (L++[(d:Int)]))) Hv_1:=hv_1;refine Zz 4 ?_;refine z_ (S_ (f_ d_) (S_ (f_ d_) (S_ (f_ d_) (bb_ (f_ d_))))) (Zz 7 ?_);have hnz:aw_ 3 1 Q (List.length (List.reverse (L++[(d:Int)]))) (List.flatMap fz_ (List.reverse (L++[(d:Int)]))) Hv_1:=hqL_1;refine bj_ hqL_1 (c_ (c_ (c_ (c_ t_)))) fun lad lcap hlad hclad hmlad hzlad=>?_;have hln:lad≠none:=fun e=>by have q:=hzlad e;have q_1:=hclad;rw[q]at q_1;simp only[List.length_reverse,List.length_append,List.length_singleton]at q_1;omega
   exact ae_ Tryz.results68 ⟨((List.reverse (L++[(d:Int)])),lad,lcap),.inr ⟨hln,⟨_,J.found G hGw T (by have F:=hclT;simp only[Bool.and_eq_true,beq_iff_eq]at F;omega) (by have F:=hclT;simp only[Bool.and_eq_true]at F;exact F.2)⟩,(fun x hx=>by rw[List.mem_reverse]at hx;rw[List.length_map];rcases List.mem_append.1 hx with hx|hx;exact hLx x hx;rw[List.mem_singleton]at hx;subst hx;omega),(by have:=J.len;rw[List.length_map]at this;simp only[List.length_reverse,List.length_append,List.length_singleton,List.length_map];omega)⟩,hclad,hmlad,hzlad⟩ (fG_ rfl hlad) m_ zf
  have hlw_2:a_1<List.length V:=by have:=(List.getElem?_eq_some_iff.1 G).1;omega
  obtain⟨b1,a2⟩:∃ B,V[a_1]? = some B:=⟨_,List.getElem?_eq_getElem hlw_2⟩;have hmw_2:b1∈V:=List.mem_of_getElem? a2;refine Zz 11 ?_;refine e_ (bE_ A ec_ fS_ rfl rfl za_ za_) rfl (Zz 1 ?_);refine e_ (cC_ A zp aN_ rfl (o_ lL_ a2 0 _ rfl)) rfl (U_ at_ ak_ kk_ rfl rfl rfl rfl rfl rfl fun b_5=>?_);refine an_ (news:=List.flatMap fz_ [(Wy.role b1:Int)]) sM_ b3 rfl rfl zp rfl (aO_ 0 rfl) (fun u hu=>aA_ qz_ hu) zo_ zs_ rfl fun Q S P=>?_;have a3:=zsa P;refine Zz 3 ?_;refine z_ (S_ (f_ d_) (S_ (f_ d_) (S_ (f_ d_) (bb_ (f_ d_))))) (Zz 3 ?_);refine e_ (bE_ A ec_ fS_ rfl rfl za_ za_) rfl (Zz 1 ?_);refine e_ (cC_ A zp aN_ rfl (o_ lL_ a2 2 _ rfl)) rfl (Zz 3 ?_);exact x_ ⟨((Wy.before b1),(L++[(Wy.role b1:Int)]),K,O,Q,S),(by have:=J.bef a_1 b1 a2 za_;omega),(fun x hx=>by rcases List.mem_append.1 hx with hx|hx;exact hLx x hx;rw[List.mem_singleton]at hx;subst hx;have:=J.role a_1 b1 a2;rw[List.length_map]at this;omega),(by have:=J.bef a_1 b1 a2 za_;simp only[List.length_append,List.length_singleton];omega),A,a3⟩ (by have:=J.bef a_1 b1 a2 za_;dsimp only;omega) zl (j_ (c_ d_) (j_ (c_ d_) (j_ (c_ d_) (A_ (c_ aP_) C_)))) zh
 refine Zz 12 ?_;exact ae_ Tryz.results68 ⟨([],none,0),.inl ⟨rfl,rfl,rfl,fun n f c hc hf=>hI.none (fun w hw=>by rw[a6]at hw;simp only[Option.some.injEq]at hw;subst hw;omega) hto hc hf⟩,by simp[maxLen]⟩ rfl m_ (fun v _ h=>⟨.inl rfl,trivial⟩)
theorem sQ_ (x:Ax):∀ i,(x.chs i).length≤i
 | 0=>by simp[Ax.chs]
 | i+1=>by
   have:=sQ_ x i;rw[Ax.chs,List.length_append]
   split
   · split<;>simp<;>omega
   · simp;omega
theorem rj_ {x:Ax} (h:x.check=0):x.steps.length≤4:=by
 unfold Ax.steps
 split
 ·split
  ·split<;>simp
  simp
 split
 ·rename_i d
  have:=(Ax.good_of h).chain d;have:=sQ_ x x.roles.length;omega
 simp
theorem mq_:∀ (l:List Ax),(∀ x∈l,x.check=0)→(cU_ l).length≤4*l.length
  | [],_=>by simp[cU_]
  | x::l,h=>by
    have e:=mq_ l fun y d=>h y (List.mem_cons_of_mem _ d)
    have k:=rj_ (h x zj_);unfold cU_ at *;rw[List.flatMap_cons,List.length_append,List.length_cons];omega
theorem MmO.ksl {m:Nat} {ks:List (Str×Nat)} {S:List RSt} {H:Hp} (h:MmO m ks S H) (v:Frm ks S):ks.length≤S.length:=by
  obtain⟨es,c,E,_,hE⟩:=h
  have e:ks.map (·.1) ⊆ S.map (·.1):=fun k hk=>by
    obtain⟨s,d,q⟩:=v k hk;exact List.mem_map.2 ⟨_,q,rfl⟩
  have:=hE.nd.length_le_of_subset e;rwa [List.length_map,List.length_map]at this
def iy_ (G:List (List (Nat×Bool))) (i most:Nat) (L:List Int) (ad:Option Addr) (cap:Nat):Prop :=
  (L=[]∧ad=none∧cap=0∧most=G.length+1∧∀ (n:Nat) (f:Nat→Nat) (c:Nat→Bool),Clw (gE G) n f c→f 0<i→most≤n) ∨
  (ad≠none∧most≤2*G.length+1∧(∃ n,Clo (gE G) n)∧(∀ x∈L,0≤x∧x<(G.length:Int))∧L.length≤2*G.length+1)
theorem iy_.init {G:List (List (Nat×Bool))}:iy_ G 0 (G.length+1) [] none 0:=.inl ⟨rfl,rfl,rfl,rfl,fun _ _ _ _ h=>by omega⟩
theorem iy_.skip {G:List (List (Nat×Bool))} {i most:Nat} {L M:List Int} {ad:Option Addr} {cap cp:Nat} (h:iy_ G i most L ad cap) (k:CirR G i most M none cp):iy_ G (i+1) most L ad cap:=by
 rcases h with⟨y,q,x,v,m⟩|h
 ·rcases k with⟨_,_,_,k⟩|⟨k,_⟩
  ·refine .inl ⟨y,q,x,v,fun n f c d A=>?_⟩
   by_cases e:f 0=i
   ·exact k n f c d e
   exact m n f c d za_
  exact absurd rfl k
 exact .inr h
theorem iy_.take {G:List (List (Nat×Bool))} {i most:Nat} {L M:List Int} {ad d:Option Addr} {cap cp:Nat} (h:iy_ G i most L ad cap) (e:CirR G i most M d cp) (x:d≠none):iy_ G (i+1) M.length M d cp:=by
 rcases e with⟨_,e,_⟩|⟨q,v,m,k⟩
 ·exact absurd e x
 exact .inr ⟨q,k,v,m,k⟩
theorem iy_.none {G:List (List (Nat×Bool))} {most:Nat} {L:List Int} {cap:Nat} (h:iy_ G G.length most L none cap):∀ n,¬ Clo (gE G) n:=by
 rcases h with⟨_,_,_,m,e⟩|⟨h,_⟩
 ·exact wb_ fun n f c d k=>by have:=e n f c d k;omega
 exact absurd rfl h
theorem iy_.some {G:List (List (Nat×Bool))} {i most:Nat} {L:List Int} {ad:Option Addr} {cap:Nat} (h:iy_ G i most L ad cap) (m:ad≠Option.none):(∃ n,Clo (gE G) n)∧(∀ x∈L,0≤x∧x<(G.length:Int))∧L.length≤2*G.length+1:=by
 rcases h with⟨_,h,_⟩|⟨_,_,e,k,d⟩
 ·exact absurd h m
 exact⟨e,k,d⟩
theorem iy_.most {G:List (List (Nat×Bool))} {i most:Nat} {L:List Int} {ad:Option Addr} {cap:Nat} (h:iy_ G i most L ad cap):most≤2*G.length+1:=by
  rcases h with⟨_,_,_,h,_⟩|⟨_,h,_⟩<;>omega
def RlR (l:List Ax) (e:Int):Prop:=(e=0∧¬ pt_ (cU_ l))∨(e=60∧pt_ (cU_ l))
theorem ta_ {P:Program} {N:Nf} {fr:Fr} {H:Hp} {Γ:List Fct} {ty t B e:TypeId} {x y:Operand} {ad:Option Addr} {m c:Nat} (k:P.underlying t=some (.slice e)) (q:Fr.ev fr x=some (.slice ad m c)) (h:Fr.ev fr y=some (.slice none 0 0)):Yld P N fr H Γ (.binOp .neq t x y B) ty (.bool (!decide (ad=none))) :=
  fun a v d _ _ _ _ _=>by
    have A:decide (ad=none)=ad.isNone:=by cases ad<;>simp
    rw[A];simp[execOp,d.ev q,d.ev h,eqGuard,binOp,sL_ v.w t e ad m c k]
theorem tp_ (l:List Ax) (ad:Option Addr) (cap:Nat) (a5:∀ x∈l,x.ok) (hC:∀ x∈l,x.check=0) (hll:l.length≤20000):Tri Tryz.prog 30 #[.slice ad (List.length l) cap] [] [eg_ ad l,cj_] (fun y:{y:Value×Int // RlR l y.2}=>.tuple #[y.1.1,.int .i64 y.1.2]) (fun _=>[]) (fun _=>[]):=by
 refine i_ Tryz.func30 rfl rfl Tryz.ntmps30 rfl fun v_1=>?_;refine Zz 10 ?_;refine g_ (nT_ l ad cap a5 hC za_) rfl m_ zf rfl fun _=>Zz 6 ?_
 refine e_ (ar_ (bU_ rfl rfl) (show _=Value.bool false from congrArg Value.bool ze_)) rfl (Zz 8 ?_);refine g_ (wJ_ l ad cap a5 hC za_) rfl m_ zf rfl fun⟨⟨mb,ks,Hm⟩,hM,U⟩=>?_;dsimp only;simp only[List.append_nil];dsimp only at hM U;have hSl:=mq_ l hC;have hkl:=MmO.ksl hM U;refine g_ (rC_ mb ks (cU_ l) Hm hM U za_ za_) rfl ac_ zt rfl fun⟨⟨X,rad,F,K,J⟩,hG,a2,hXk,⟨hrs_1,hrs_2,hrs_3⟩,⟨hgs_1,hgs_2,hgs_3⟩⟩=>?_;dsimp only;dsimp only at hG a2 hXk;have hrl:List.length (aS_ (List.map (fun p:Str×Nat=>p.1) ks))=List.length ks:=by rw[List.length_mergeSort,List.length_map]
 have a8:List.length (List.map Grw.st X)=List.length X:=List.length_map ..;refine G_ Tryz.zeroValue103 rfl fun N=>u_ 0 Tryz.sizeOf103 rfl rfl rfl rfl rfl rfl (Zz 7 ?_)
 refine e_ (ar_ (bc_ rfl rfl rfl (ck_ za_ za_)) (show _=Value.int .i64 ((List.length X+1:Nat):Int) from congrArg _ za_)) rfl (Zz 18 ?_);refine L_ (ι:={y:Nat×Nat×List Int×Option Addr×Nat // y.1≤List.length (aS_ (List.map (fun p:Str×Nat=>p.1) ks))∧iy_ (List.map Grw.st X) y.1 y.2.1 y.2.2.1 y.2.2.2.1 y.2.2.2.2}) (fun y=>[(2,.slice none 0 0),(3,.int .i64 0),(5,zp_ N 0),(6,.int .i64 (y.1.2.1:Int)),(7,.slice y.1.2.2.2.1 (List.length y.1.2.2.1) y.1.2.2.2.2),(26,.int .i64 (List.length (aS_ (List.map (fun p:Str×Nat=>p.1) ks)):Int)),(27,.int .i64 (y.1.1:Int))]) (fun y=>((N,.cells #[.slice rad (List.length (aS_ (List.map (fun p:Str×Nat=>p.1) ks))) F,.slice K (List.length X) J] 103 (0,0))::[])) (fun y=>[ah_ y.1.2.2.2.1 (List.flatMap fz_ y.1.2.2.1),ah_ rad (List.flatMap af_ (aS_ (List.map (fun p:Str×Nat=>p.1) ks))),ah_ K (List.flatMap Grw.cells X),hK_ X]) (fun y=>List.length (aS_ (List.map (fun p:Str×Nat=>p.1) ks)) - y.1.1) ⟨((0:Nat),(List.length X+1),([]:List Int),none,0),zj_,(by have q:=iy_.init (G:=(List.map Grw.st X));rw[a8]at q;exact q)⟩ zl d_ (fun v _ h=>by exact⟨(.inl rfl),h.1,h.2.1,h.2.2.1,trivial⟩) ?_;rintro ⟨⟨i,mo,L,lad,lcap⟩,b1,Y⟩;dsimp only at b1 Y ⊢;refine Zi 2 (fun H=>?_) fun H=>?_
 ·refine Zz 10 ?_
  refine B_ (mb_ (ad:=lad) Tryz.underlying107 rfl rfl) rfl fun R d=>Zz 2 ?_
  cases R
  ·replace d:=zdf d
   have Q:=Y.some d;refine Zz 12 ?_;refine L_ (ι:={y:Nat×List Str×Value×Hp // y.1≤List.length L∧List.length y.2.1≤y.1∧zR 9 1 af_ y.2.2.1 y.2.1 y.2.2.2}) (fun y=>[(2,y.1.2.2.1),(3,.int .i64 0),(5,zp_ N 0),(6,.int .i64 (mo:Int)),(7,.slice lad (List.length L) lcap),(26,.int .i64 (List.length (aS_ (List.map (fun p:Str×Nat=>p.1) ks)):Int)),(27,.int .i64 (i:Int)),(42,.slice lad (List.length L) lcap),(43,.int .i64 (List.length L:Int)),(44,.int .i64 (y.1.1:Int))]) (fun y=>((N,.cells #[.slice rad (List.length (aS_ (List.map (fun p:Str×Nat=>p.1) ks))) F,.slice K (List.length X) J] 103 (0,0))::y.1.2.2.2)) (fun y=>[ah_ lad (List.flatMap fz_ L),ah_ rad (List.flatMap af_ (aS_ (List.map (fun p:Str×Nat=>p.1) ks))),ah_ K (List.flatMap Grw.cells X),hK_ X]) (fun y=>List.length L - y.1.1) ⟨((0:Nat),([]:List Str),(.slice none 0 0),[]),by simp,zj_,(aw_.nil _ _)⟩ zl d_ zh ?_;rintro ⟨⟨k,C,sv_RC,H_RC⟩,a3,hCl,e⟩;dsimp only at a3 hCl e ⊢;refine Zi 2 (fun A=>?_) fun A=>?_
   ·refine Zz 14 ?_
    refine bj_ e C_ fun cad ccap a1 hccad hmcad hzcad=>?_;exact kv_ Tryz.results30 ⟨(_,60),.inr ⟨rfl,hG.circ.2 Q.1⟩⟩ (fG_ rfl a1) rfl rfl m_ zt
   have E:k<List.length L:=by omega
   obtain⟨O,a6⟩:∃ B,L[k]? = some B:=⟨_,List.getElem?_eq_getElem E⟩;have S:O∈L:=List.mem_of_getElem? a6;have hzb:=Q.2.1 O S;rw[a8]at hzb;have hcs_1:=Q.2.2;have a4:(Int.toNat O)<List.length (aS_ (List.map (fun p:Str×Nat=>p.1) ks)):=by omega
   obtain⟨rz,hrz⟩:∃ B,(aS_ (List.map (fun p:Str×Nat=>p.1) ks))[(Int.toNat O)]? = some B:=⟨_,List.getElem?_eq_getElem a4⟩;have hmrz:rz∈(aS_ (List.map (fun p:Str×Nat=>p.1) ks)):=List.mem_of_getElem? hrz;refine Zz 22 ?_;refine U_ l_ E_ av_ rfl rfl rfl rfl rfl rfl fun b_2=>?_;refine an_ (news:=List.flatMap af_ [rz]) cB_ e rfl rfl zp rfl (aO_ 0 rfl) (fun u hu=>aA_ ch_ hu) zo_ zs_ rfl fun a7 Z H=>?_;refine z_ List.perm_append_comm ?_;have a0:=zsa H;refine Zz 8 ?_;exact x_ ⟨(k+1,(C++[rz]),a7,Z),E,zap_,a0⟩ zb_ zl (j_ (c_ d_) C_) zh
  replace d:=zdt d;refine Zz 8 ?_;exact kv_ Tryz.results30 ⟨(.slice none 0 0,0),.inl ⟨rfl,fun q=>by obtain⟨n,hn⟩:=hG.circ.1 q;exact iy_.none (by have b0:=Y;rw[d,show i=List.length (List.map Grw.st X) from za_]at b0;exact b0) n hn⟩⟩ rfl rfl rfl m_ zt
 have m:i<List.length (aS_ (List.map (fun p:Str×Nat=>p.1) ks)):=by omega
 obtain⟨R,d⟩:∃ B,(aS_ (List.map (fun p:Str×Nat=>p.1) ks))[i]? = some B:=⟨_,List.getElem?_eq_getElem m⟩;have hmr_1:R∈(aS_ (List.map (fun p:Str×Nat=>p.1) ks)):=List.mem_of_getElem? d;refine Zz 19 ?_;refine g_ (wc_ (aS_ (List.map (fun p:Str×Nat=>p.1) ks)) rad F X K J i mo za_ za_ hG.to za_ (fun z hz=>by have:=a2 z hz;omega) (by have:=Y.most;omega)) rfl m_ zf rfl fun⟨⟨M,T,a9⟩,I,P,W,V⟩=>?_;dsimp only;dsimp only at I P W V;refine Zz 6 ?_;refine B_ (ta_ (ad:=T) Tryz.underlying107 rfl rfl) rfl fun r_2 A=>Zz 2 ?_
 cases r_2
 ·refine Zz 8 ?_
  exact x_ ⟨(i+1,mo,L,lad,lcap),m,(Y.skip (by have q:=I;rw[show T=none from by simpa using A]at q;exact q))⟩ zb_ zl d_ (fun _ _ h=>h.2)
 refine Zz 14 ?_;exact x_ ⟨(i+1,(List.length M),M,T,a9),m,(Y.take I (by simpa using A))⟩ zb_ zl d_ zf
end Go.Proofs.YtpbnmnfdgckaiaaGreatDoor
namespace Go.Sx
open Go Go.Vs
theorem mV_ {α β:Type} (f:α→β):∀ (l:List α) (i:Nat),(l.eraseIdx i).map f=(l.map f).eraseIdx i
  | [],_=>rfl
  | _::_,0=>rfl
  | x::l,i+1=>by simp only[List.eraseIdx_cons_succ,List.map_cons];rw[mV_ f l i]
structure StM where
  es:Array MapEntry
  c:Nat
  ks:List Str
  hE:SetE str es ks
  hB:Born es c
def StM.add (s:StM) (k:Str):StM:=if h:k∈s.ks then s else ⟨s.es.push ⟨str k,.bool true,s.c⟩,s.c+1,s.ks++[k],s.hE.push h s.c,s.hB.push _ _⟩
theorem StM.mem {s:StM} {k n:Str}:n∈(s.add k).ks↔n∈s.ks∨n=k:=by
 unfold StM.add
 split
 ·rename_i h
  exact⟨.inl,fun q=>q.elim id fun e=>e▸h⟩
 simp
theorem StM.len {s:StM} {k:Str}:(s.add k).ks.length≤s.ks.length+1:=by
  unfold StM.add
  split<;>simp
section
variable {P:Program} {N:Nat} {v0:Vw} {H0:Hp} {R:Exit→Act→World→Prop} {Kk:List Kt} {fr:Fr} {H:Hp} {Γ:List Fct}
variable {ops:Array Oper} {lo:List Oper} {d:Nat} {ty:TypeId} {ps:String} {af:Array Edge}
theorem he_ {t h F:TypeId} {x y:Operand} {b c i:Nat} {es:Array MapEntry} {e u:Value} (q:∀ w,(underlying t).run P w=.ok (.map h F) w) (E:Fr.ev fr x=some (.map (some b))) (m:Fr.ev fr y=some e) (n:Nat)
    (hi:H[n]? = some (b,.map es c)) (hk:gZ_ P h e) (A:dp_ P h e es.toList (some (i,u))):Yld P N fr H Γ (.lookup t x y true) ty (.tuple #[u,.bool true]) :=
  fun a v k C G _ _ _=>by
    have B:=MapKept.run_getObj_map (P:=P) (C.own _ (List.mem_of_getElem? hi)).1;simp[execOp,k.ev E,k.ev m,Instr.lookup,q,B,hk _ _,A _]
theorem rd_ {t h k:TypeId} {x y:Operand} {b c:Nat} {es:Array MapEntry} {e z:Value} (A:∀ w,(underlying t).run P w=.ok (.map h k) w) (q:∀ w,(zeroValue k).run P w=.ok z w) (G:Fr.ev fr x=some (.map (some b))) (B:Fr.ev fr y=some e) (n:Nat)
    (hi:H[n]? = some (b,.map es c)) (hk:gZ_ P h e) (C:dp_ P h e es.toList none):Yld P N fr H Γ (.lookup t x y true) ty (.tuple #[z,.bool false]) :=
  fun a v m F I _ _ _=>by
    have E:=MapKept.run_getObj_map (P:=P) (F.own _ (List.mem_of_getElem? hi)).1;simp[execOp,m.ev G,m.ev B,Instr.lookup,A,E,hk _ _,C _,q]
theorem hr_ {Fc:Fence} {S:Nat} {D:List Deferred} {o:Op} {t K et:TypeId} {x y z:Operand} {b:Nat} (V:Opn Fc) (n:Nat) (s:StM) {k:Str} (A:KeyT P K str) (E:o=.insert t x y z∨o=.mapUpdate t x y z) (L:∀ w,(underlying t).run P w=.ok (.map K et) w)
    (Q:Fr.ev fr x=some (.map (some b))) (I:Fr.ev fr y=some (str k)) (J:Fr.ev fr z=some (.bool true)) (hi:H[n]? = some (b,.map s.es s.c))
    (G:fC_ Fc S P R N D v0 H0 ops lo Kk fr (H.set n (b,.map (s.add k).es (s.add k).c)) Γ):fC_ Fc S P R N D v0 H0 ops (⟨none,o,ty,ps,af,none⟩::lo) Kk fr H Γ :=
  dY_ (by rfl) fun a v h F X Z=>by
    refine⟨fun f _=>V.fn f,?_⟩;rw[semAt_eq (by rcases E with rfl|rfl<;>rfl)];have B:=(F.own _ (List.mem_of_getElem? hi)).1;have M:=MapKept.run_getObj_map (P:=P) B;have m:=MapKept.run_setObj_map (P:=P) (.map (s.add k).es (s.add k).c) B
    have he:(execOp (Act.eval ⟨a.tmps,[]⟩) ⟨none,o,ty,ps,af,none⟩).run P v.w=.ok .skip { v.w with heap:=v.w.heap.setIfInBounds b (.map (s.add k).es (s.add k).c) }:=by
      by_cases hk:k∈s.ks
      · have C:s.add k=s:=by unfold StM.add;rw[dif_pos hk]
        rw[C]at m ⊢;obtain⟨i,e,O,q,T,W,g5⟩:=s.hE.yes A hk;have em:=im_ q T W;rcases E with rfl|rfl<;>simp[execOp,h.sat.ev Q,h.sat.ev I,h.sat.ev J,Instr.mapUpdate,L,M,A.ok _ _ _,g5 _,m,Instr.keyThatStays,q,T,A.same,em]
      · have C:s.add k=⟨s.es.push ⟨str k,.bool true,s.c⟩,s.c+1,s.ks++[k],s.hE.push hk s.c,s.hB.push _ _⟩:=by unfold StM.add;rw[dif_neg hk]
        rw[C]at m ⊢;dsimp only at m ⊢;have Y:=s.hE.no A hk;rcases E with rfl|rfl<;>simp[execOp,h.sat.ev Q,h.sat.ev I,h.sat.ev J,Instr.mapUpdate,L,M,A.ok _ _ _,Y _,m]
    rw[show a.eval=Act.eval ⟨a.tmps,[]⟩ from rfl,he];have U:=MapKept.heap_set (o':=.map (s.add k).es (s.add k).c) B;obtain⟨O,q⟩:=eF_ (w':={ v.w with heap:=v.w.heap.setIfInBounds b (.map (s.add k).es (s.add k).c) }) F hi rfl rfl rfl (Nat.le_refl _) zj_ U.1 (fun k hk=>U.2 k hk);exact G _ _ h O (X.trans q) (ao_ (q.le F) Z)
theorem qh_ {N:Nf} {t J et:TypeId} {x y:Operand} {b:Nat} {C:Option Nat} (n:Nat) {es:Array MapEntry} {c:Nat} {ks:List Str} {k:Str} (I:KeyT P J str) (Y:∀ w,(underlying t).run P w=.ok (.map J et) w)
    (B:Fr.ev fr x=some (.map (some b))) (X:Fr.ev fr y=some (str k)) (hi:H[n]? = some (b,.map es c)) (hE:SetE str es ks) (hB:Born es c) (hd:C=none)
    (U:∀ h,SetE str h (ks.filter fun q=>decide (q≠k))→Born h c→Ops P R N v0 H0 ops lo Kk fr (H.set n (b,.map h c)) Γ):Ops P R N v0 H0 ops (⟨C,.call ⟨.builtin .delete,#[x,y],#[t,J]⟩,ty,ps,af,none⟩::lo) Kk fr H Γ :=
  cn_ rfl fun a v E S h3 h4=>by
    subst hd;have F:=(S.own _ (List.mem_of_getElem? hi)).1;have Z:=MapKept.run_getObj_map (P:=P) F
    obtain⟨h,W,V,M⟩:∃ h,(execOp a.eval ⟨none,.call ⟨.builtin .delete,#[x,y],#[t,J]⟩,ty,ps,af,none⟩).run P v.w=.ok (.value (.tuple #[])) { v.w with heap:=v.w.heap.setIfInBounds b (.map h c) }∧SetE str h (ks.filter fun q=>decide (q≠k))∧Born h c:=by
      by_cases hk:k∈ks
      · obtain⟨i,e,K,G,g3,g4,g5⟩:=hE.yes I hk
        have O:i<es.size:=by
          have:=(Array.getElem?_eq_some_iff.1 G).1;exact this
        have m:(es.eraseIdxIfInBounds i).toList=es.toList.eraseIdx i:=by
          unfold Array.eraseIdxIfInBounds;rw[dif_pos O];simp
        have L:=MapKept.run_setObj_map (P:=P) (.map (es.eraseIdxIfInBounds i) c) F
        have A:ks.eraseIdx i=ks.filter fun q=>decide (q≠k):=by
          have h9:ks.erase k=ks.filter (fun q=>q != k):=hE.nd.erase_eq_filter k
          have h8:ks.erase k=ks.eraseIdx i:=by
            have Q:=(List.getElem?_eq_some_iff.1 K).1;rw[List.erase_eq_eraseIdx_of_idxOf (i:=i)];have e1:=(List.getElem?_eq_some_iff.1 K).2;rw[← e1];exact hE.nd.idxOf_getElem i Q
          rw[← h8,h9]
          congr 1
          funext q
          by_cases T:q=k<;>simp[T]
        refine⟨es.eraseIdxIfInBounds i,?_,⟨?_,fun x B=>?_,?_⟩,⟨fun x B=>?_,?_⟩⟩
        · simp[execOp,resolve,invoke,builtin,E.ev B,E.ev X,Builtin.delete_,Y,Z,I.ok _ _ _,g5 _,L,Result.andThen]
        · rw[m,← A,mV_,mV_,hE.keys]
        · rw[m]at B;exact hE.vals x ((List.eraseIdx_sublist _ _).subset B)
        · exact hE.nd.filter _
        · rw[m]at B;exact hB.lt x ((List.eraseIdx_sublist _ _).subset B)
        · rw[m];exact hB.nd.sublist ((List.eraseIdx_sublist _ _).map _)
      · have L:=MapKept.run_setObj_map (P:=P) (.map es c) F
        have hf:=hE.no I hk
        have A:(ks.filter fun q=>decide (q≠k))=ks:=List.filter_eq_self.2 fun q T=>by
          have:q≠k:=fun e=>hk (e▸T)
          simpa using this
        refine⟨es,?_,by rw[A];exact hE,hB⟩;simp[execOp,resolve,invoke,builtin,E.ev B,E.ev X,Builtin.delete_,Y,Z,I.ok _ _ _,hf _,L,Result.andThen]
    unfold Oper.wp;rw[W];have hh:=MapKept.heap_set (o':=.map h c) F;obtain⟨K,G⟩:=eF_ (w':={ v.w with heap:=v.w.heap.setIfInBounds b (.map h c) }) S hi rfl rfl rfl (Nat.le_refl _) zj_ hh.1 (fun k hk=>hh.2 k hk);exact U h V M a _ E K (h3.trans G) (ao_ (G.le S) h4)
end
end Go.Sx
namespace Go.Vs
open Go Go.Sx
def Con.nds:Con→List Con
  | .mk k nm lo hi ad cap ps=>.mk k nm lo hi ad cap ps::ndsL ps
where ndsL:List Con→List Con
  | []=>[]
  | p::ps=>nds p++ndsL ps
theorem sD_:∀ ps:List Con,Con.nds.ndsL ps=ps.flatMap Con.nds
  | []=>rfl
  | p::ps=>by rw[Con.nds.ndsL,sD_ ps,List.flatMap_cons]
theorem Con.nds_eq (c:Con):c.nds=c::c.parts.flatMap Con.nds:=by cases c;rw[Con.nds,sD_];rfl
theorem sC_:∀ (n:Nat) (c:Con),c.sz≤n→c.nds.length≤c.sz
  | 0,c,h=>by have:=c.sz_pos;omega
  | n+1,c,h=>by
    have e:∀ ps:List Con,(∀ p∈ps,p.nds.length≤p.sz)→(ps.flatMap Con.nds).length≤Con.sz.szs ps:=by
      intro ps
      induction ps with
      | nil=>intro _;simp[Con.sz.szs]
      | cons p ps ih =>
        intro d;rw[List.flatMap_cons,List.length_append,Con.sz.szs];have m:=d p zj_;have v:=ih fun q k=>d q (by simp[k])
        omega
    rw[Con.nds_eq,List.length_cons,Con.sz_eq];have:=e c.parts fun p d=>sC_ n p (by have:=Con.sz_part d;omega)
    omega
def Con.nms (k:Int) (c:Con):List Str:=(c.nds.filter fun x=>decide (x.kind=k)).map Con.name
theorem Con.nms_eq (k:Int) (c:Con):c.nms k=(if c.kind=k then [c.name] else [])++c.parts.flatMap (Con.nms k):=by
 unfold Con.nms;rw[Con.nds_eq,List.filter_cons]
 have d:∀ ps:List Con,((ps.flatMap Con.nds).filter fun x=>decide (x.kind=k)).map Con.name=ps.flatMap fun c=>(c.nds.filter fun x=>decide (x.kind=k)).map Con.name:=by
   intro ps
   induction ps with
   | nil=>rfl
   | cons p ps ih=>rw[List.flatMap_cons,List.filter_append,List.map_append,ih,List.flatMap_cons]
 by_cases h:c.kind=k
 ·rw[if_pos zM_,if_pos h,List.map_cons,d];rfl
 rw[if_neg zM_,if_neg h,d];rfl
theorem Con.nms_len (k:Int) (c:Con):(c.nms k).length≤c.sz:=by
  unfold Con.nms;rw[List.length_map];exact Nat.le_trans (List.length_filter_le _ _) (sC_ _ c (Nat.le_refl _))
theorem of_:∀ (n:Nat) (c:Con),c.sz≤n→c.check=0→∀ x∈c.nds,x.check=0
 | 0,c,h,_=>by have:=c.sz_pos;omega
 | n+1,c,h,hc=>by
   intro x d;rw[Con.nds_eq,List.mem_cons,List.mem_flatMap]at d;rcases d with rfl|⟨p,e,d⟩
   · exact hc
   · exact of_ n p (by have:=Con.sz_part e;omega) (Con.check_part hc e) x d
structure W2I (l:List Str) (s:Str) (i:Nat) (R:List Str) (dn:Bool):Prop where
  no:dn=false→R=l.take i∧∀ x∈l.take i,x<s
  yes:dn=true→R++l.drop i=un_ l s
theorem tk1 {α:Type} {l:List α} {i:Nat} {x:α} (h:l[i]? = some x):l.take (i+1)=l.take i++[x]:=by rw[List.take_add_one,h];rfl
theorem sN_ {α:Type} {l:List α} {i:Nat} {x:α} (h:l[i]? = some x):l.drop i=x::l.drop (i+1):=by
  obtain⟨hi,rfl⟩:=List.getElem?_eq_some_iff.1 h;exact List.drop_eq_getElem_cons hi
theorem W2I.t {l:List Str} {s x:Str} {i:Nat} {R:List Str} (h:W2I l s i R true) (d:l[i]? = some x):W2I l s (i+1) (R++[x]) true :=
  ⟨fun q=>zaB_,fun _=>by have:=h.yes rfl;rw[sN_ d]at this;rw[List.append_assoc];exact this⟩
theorem W2I.lt {l:List Str} {s x:Str} {i:Nat} {R:List Str} (h:W2I l s i R false) (hl:SrS l) (B:s≠[]) (k:l[i]? = some x) (e:s<x):W2I l s (i+1) ((R++[s])++[x]) true:=by
 obtain⟨E,A⟩:=h.no rfl;refine⟨fun q=>zaB_,fun _=>?_⟩;have hi:=(List.getElem?_eq_some_iff.1 k).1
 have hk:kS l s=i:=yn_ za_ A fun z y=>by
   rw[k,Option.some.injEq]at y;subst y;exact fun q=>List.lt_irrefl _ (List.lt_trans q e)
 have C:s ∉ l:=fun v=>by
   have m:s∈l.take i∨s∈l.drop i:=by rw[← List.mem_append,List.take_append_drop];exact v
   rcases m with q|q
   · exact List.lt_irrefl _ (A s q)
   · rw[sN_ k]at q
     rcases List.mem_cons.1 q with rfl|q
     · exact List.lt_irrefl _ e
     · have d:SrS (l.drop i):=hl.sublist (List.drop_sublist _ _)
       rw[sN_ k]at d;exact List.lt_irrefl _ (List.lt_trans ((List.pairwise_cons.1 d).1 s q) e)
 rw[td_ B C,hk,E,sN_ k];simp
theorem qD_ {σ τ:Type} (f:Con→σ→σ):∀ (n:Nat) (c:Con),c.sz≤n→∀ s:σ,Con.fold (fun x s=>(.inl (f x s):σ ⊕ τ)) c s=.inl (c.nds.foldl (fun s x=>f x s) s)
  | 0,c,h=>by have:=c.sz_pos;omega
  | n+1,c,h=>fun s=>by
    rw[Con.fold_eq,Con.nds_eq,List.foldl_cons];dsimp only
    have e:∀ (ps:List Con),(∀ p∈ps,p.sz≤n)→∀ s:σ,Con.fold.folds (fun x s=>(.inl (f x s):σ ⊕ τ)) ps s=.inl ((ps.flatMap Con.nds).foldl (fun s x=>f x s) s):=by
      intro ps
      induction ps with
      | nil=>intro _ s;rfl
      | cons p ps ih =>
        intro d s;rw[Con.fold.folds,qD_ f n p (d p zj_) s];dsimp only;rw[ih (fun q k=>d q (by simp[k])),List.flatMap_cons,List.foldl_append]
    exact e c.parts (fun p d=>by have:=Con.sz_part d;omega) _
end Go.Vs
namespace Go.Sx
open Go
section
variable {P:Program} {v0:Vw} {H0:Hp} {R:Exit→Act→World→Prop} {K:List Kt} {fr:Fr} {H:Hp} {Γ:List Fct}
def mks (Ds:List Nat):List Deferred:=Ds.map fun D=>{ target:=.collected D,args:=#[] }
def mkH (Ds:List Nat):Hp:=Ds.map fun D=>(D,.deferred (some []))
def ws_ {ι:Type} (N:ι→Nf) (v0:Vw) (H0:Hp) (frs:ι→Fr) (Hs:ι→Hp) (Γs:ι→List Fct) (μ:ι→Nat) (n:Nat) (a:Act) (w:World):Prop :=
  ∃ j v,v.w=w∧Fr.sat (N j) (frs j) a∧v.sat (Hs j)∧v0.to H0 v (Hs j)∧Z_ (Γs j) v∧μ j<n
theorem kq_ {ι:Type} {c:Code} {A:Nf} (N:ι→Nf) (d:ι→Fr) (Hs:ι→Hp) (q:ι→List Fct) (μ:ι→Nat) (k:ι) {F:Hp} (y:Fr.le (d k) fr) (J:H.Perm (Hs k++F)) (W:∀ v,v.sat H→Z_ Γ v→Z_ (q k) v)
    (h:∀ i,Run P R (N i) v0 H0 c (.inv (ws_ N v0 H0 d Hs q μ (μ i))::K) (d i) (Hs i) (q i)) (M:A=N k:=by rfl):Run P R A v0 H0 (.loop c) K fr H Γ:=by
  subst M;refine bt_ _ y (dG_ J W ?_);intro a v U O L S;refine wp_loop_ghost (fun n a w=>∃ i v,v.w=w∧Fr.sat (N i) (d i) a∧v.sat (Hs i)∧v0.to H0 v (Hs i)∧Z_ (q i) v∧μ i=n) (μ k) ⟨k,v,rfl,U,O,L,S,rfl⟩ ?_;rintro n a w ⟨i,v,rfl,T,E,V,G,rfl⟩;refine wp_mono (h i a v T E V G) fun e X w' m=>?_;cases e with
  | normal =>
    obtain⟨j,B,C,k1,k2,Q,I,x⟩:=m;exact⟨μ j,x,j,B,C,k1,k2,Q,I,rfl⟩
  | exit id=>exact m
  | goto l=>exact m
  | ret=>exact m
  | panic ch=>exact m
  | outgrown=>exact m
theorem iF_ {ι:Type} {k:Nf} {N:ι→Nf} {d:ι→Fr} {Hs:ι→Hp} {h:ι→List Fct} {μ:ι→Nat} {n:Nat} (j:ι) {F:Hp} (B:μ j<n) (e:Fr.le (d j) fr) (m:H.Perm (Hs j++F))
    (E:∀ v,v.sat H→Z_ Γ v→Z_ (h j) v) (x:k=N j:=by rfl):Ok k v0 H0 (ws_ N v0 H0 d Hs h μ n) fr H Γ:=by
  subst x;exact bt_ (d j) e (dG_ m E fun _ v C y q A=>⟨j,v,rfl,C,y,q,A,B⟩)
variable {N:Nat} {Ds:List Nat}
theorem retMs {fn:Func} {ι:Type} {G:Hp} {ret:ι→Value} {H':ι→Hp} {Γ':ι→List Fct} (x:ι) (S:∀ (a:Act) (v:Vw),Fr.sat (⟨N,mks Ds⟩:Nf) fr a→v.sat G→Z_ Γ v→(results fn a.tmps).run P v.w=.ok (ret x) v.w) (C:H.Perm (mkH Ds++G))
    (L:∃ y,G.Perm (H' x++y)) (T:∀ v,v.sat G→Z_ Γ v→Z_ (Γ' x) v):Ok ⟨N,mks Ds⟩ v0 H0 (bodyPostM Fence.wide 0 P fn (kj_ v0 H0 ret H' Γ') .ret) fr H Γ:=by
  intro a v F O J Q;show LeavesInM Fence.wide 0 P fn a.tmps _ a.defers .returning v.w
  rw[F.defers];obtain⟨y,m⟩:=L
  have B:∀ (e:List Nat) (d:Vw),d.sat (mkH e++G)→v0.to H0 d (mkH e++G)→Z_ Γ d→LeavesInM Fence.wide 0 P fn a.tmps (kj_ v0 H0 ret H' Γ') (mks e) .returning d.w:=by
    intro e
    induction e with
    | nil =>
      intro d k1 k2 q
      exact⟨ret x,S a d F k1 q,x,d,rfl,rfl,(Vw.sat.perm k1 m).sub,T d k1 q,k2.subR fun b h=>by
        have:b∈(H' x++y).map Prod.fst:=by rw[List.map_append];exact List.mem_append_left _ h
        exact (m.map Prod.fst).mem_iff.2 this⟩
    | cons D e ih =>
      intro d k1 k2 q;have hl:=(k1.own (D,.deferred (some [])) List.mem_cons_self).1;have k:d.sat ((D,.deferred (some []))::(mkH e++G)):=k1;obtain⟨A,E⟩:=eG_ (o':=.deferred none) k;have I:(⟨d.im,d.w.putObj D (.deferred none),d.sl⟩:Vw).sat (mkH e++G):=⟨fun p M=>A.own p (List.mem_cons_of_mem _ M),by have:=A.nodup;rw[List.map_cons,List.nodup_cons]at this;exact this.2,A.lt⟩;exact⟨by simp,.inl ⟨D,_,rfl,run_takeDeferred hl,ih ⟨d.im,_,d.sl⟩ I ((k2.trans E).subR fun b h=>List.mem_cons_of_mem _ h) (ao_ (E.le k) q)⟩⟩
  exact B Ds v (O.perm C) (J.subR fun b h=>(C.map Prod.fst).mem_iff.2 h) Q
theorem rq_ {σ α:Type} {g:Operand} {L:Nat} {assign body:Code} {J:FuncId} {caps:List Value} {Hj:σ→Hp} {Hc:Hp} {Γx:α→List Fct} {Γi:List Fct} {xv:α→Value} {good:α→Prop} {stp:α→σ→σ ⊕ Empty}
    (T:σ) (res:σ ⊕ Empty) (hg:Fr.ev fr g=some (.func (.func J) #[] caps.toArray)) (hH:H.Perm (Hc++Hj T)) (V:∀ v,v.sat H→Z_ Γ v→Z_ Γi v)
    (y:∀ l D (d:Loop),d.params=#[L]→d.state=.ready→d.pending=none→Fr.sat N fr ⟨d.tmps,[]⟩→d.assign=assign→d.body=body→∀ s x,good x →
      iT_ P l (xv x) (Hj s++HLp l D d) (Γx x) (fun _:Unit=>.bool (stp x s).isLeft) (fun _=>nh_ (fun s'=>Hj s'++HLp l D d) (fun _=>HLp l D { d with state:=.done,pending:=some .ret }) (stp x s)) (fun _=>[]))
    (a0:∀ l (Gj:σ→Hp) (Gx:Empty→Hp),(∀ s x,good x→iT_ P l (xv x) (Gj s) (Γx x) (fun _:Unit=>.bool (stp x s).isLeft) (fun _=>nh_ Gj Gx (stp x s)) (fun _=>[])) →
      Tri P J (.func (.yield l) #[] #[]::caps).toArray (Hc++Gj T) Γi (fun _:Unit=>.tuple #[]) (fun _=>Hc++nh_ Gj Gx res) (fun _=>[]))
    (B:∀ s',res=.inl s'→∀ D l r,Fin P R ⟨N,mks (D::Ds)⟩ v0 H0 K fr (Hc++Hj s'++HLp l D r) Γ) :
    Run P R ⟨N,mks Ds⟩ v0 H0 (.rangeFunc g #[L] assign body) K fr H Γ:=by
  intro a v E G h3 O;refine wpIn_wide (n:=0) |>.1 (wpIn_mono (Q:=ee_ Fence.wide 0 P R K) (wpIn_rangeFunc fun fn _=>?_) fun e a w hq=>bh_ K e a w hq)
  obtain⟨a1,a2⟩:=fE_ (w':=v.w.alloc (.deferred (some []))) (o:=.deferred (some [])) G rfl rfl rfl rfl (Nat.le_refl _);obtain⟨d,k⟩:∃ d:Loop,d={ state:=.ready,pending:=none,fn,tmps:=a.tmps,params:=#[L],assign,body,defers:=v.w.heap.size }:=⟨_,rfl⟩;obtain⟨b1,b2⟩:=fE_ (w':=(v.w.alloc (.deferred (some []))).alloc (.loop d)) (o:=.loop d) a1 rfl rfl rfl rfl (Nat.le_refl _);have F:(v.w.alloc (Obj.deferred (some []))).heap.size=v.w.heap.size+1:=by simp
  have M:(⟨v.im,(v.w.alloc (.deferred (some []))).alloc (.loop d),v.sl⟩:Vw).sat ((v.w.heap.size+1,.loop d)::(v.w.heap.size,.deferred (some []))::H):=F▸b1;have C:v.to H ⟨v.im,(v.w.alloc (.deferred (some []))).alloc (.loop d),v.sl⟩ ((v.w.heap.size+1,.loop d)::(v.w.heap.size,.deferred (some []))::H):=a2.trans (F▸b2)
  have m:((v.w.heap.size+1,Obj.loop d)::(v.w.heap.size,.deferred (some []))::H).Perm (Hc++(Hj T++HLp (v.w.heap.size+1) v.w.heap.size d)):=by
    rw[← List.append_assoc];exact (List.perm_append_comm (l₁:=HLp (v.w.heap.size+1) v.w.heap.size d) (l₂:=H)).trans (hH.append_right _)
  have hT:=a0 (v.w.heap.size+1) (fun s=>Hj s++HLp (v.w.heap.size+1) v.w.heap.size d) (fun _=>HLp (v.w.heap.size+1) v.w.heap.size { d with state:=.done,pending:=some .ret })
    (y _ _ d zaC_ zaC_ zaC_ (by rw[k];exact⟨E.size,rfl,E.val⟩) zaC_ zaC_)
  have U:=ao_ (C.le G) (V v G O);have hΓ3:=ao_ (C.le G) O;have he:=E.ev hg;refine⟨v.w.heap.size+1,nB_ v.w.heap.size,(v.w.alloc (.deferred (some []))).alloc (.loop d),⟨.fn (.func J) caps.toArray,#[.func (.yield (v.w.heap.size+1)) #[] #[]]⟩,(v.w.alloc (.deferred (some []))).alloc (.loop d),J,(.func (.yield (v.w.heap.size+1)) #[] #[]::caps).toArray,_,?_,?_,fun _ _=>trivial,?_,fun h=>(by cases h),callsIn_wide.2 ((hT.run ⟨v.im,_,v.sl⟩ (M.perm m) U).mono ?_)⟩
  · rw[k];exact run_enterLoop_outer _ _ _ _ _
  · simp only[resolve,rangeCall,List.map_toArray,List.map_cons,List.map_nil,he,Deferred.ofValue]
    rfl
  · have:=hT.callable (.func (.yield (v.w.heap.size+1)) #[] #[]::caps).toArray ((v.w.alloc (.deferred (some []))).alloc (.loop d))
    simpa [invoke] using this
  · rintro e w' ⟨_,v',rfl,rfl,g1,g2,g3⟩
    have I:=C.trans (g3.permL m.symm);have S:=ao_ (I.le G) O;have W:∀ D,Fr.sat ⟨N,mks (D::Ds)⟩ fr { a with defers:=nB_ D++a.defers }:=fun D=>⟨E.size,by show nB_ D++a.defers=_;rw[E.defers];rfl,E.val⟩
    have A:∀ (X Y:Hp) r,(Y++(X++HLp (v.w.heap.size+1) v.w.heap.size r)).Perm ((v.w.heap.size+1,.loop r)::(Y++X++[(v.w.heap.size,.deferred (some []))])):=fun X Y r=>by
      unfold HLp;rw[← List.append_assoc];exact List.perm_middle
    cases res with
    | inl s' =>
      have q:=g1.perm (A (Hj s') Hc d);have hl:=(q.own _ List.mem_cons_self).1;obtain⟨z1,z2⟩:=eG_ (o':=.loop { d with state:=.exhausted }) q
      have zp:((v.w.heap.size+1,Obj.loop { d with state:=.exhausted })::(Hc++Hj s'++[(v.w.heap.size,.deferred (some []))])).Perm (Hc++Hj s'++HLp (v.w.heap.size+1) v.w.heap.size { d with state:=.exhausted }):=by
        have:=(A (Hj s') Hc { d with state:=.exhausted }).symm;rw[← List.append_assoc]at this;exact this
      refine⟨d.pending,_,run_endLoop hl (by rw[k];simp),?_⟩;have Z:d.pending=none:=by rw[k]
      split
      case h_2=>rename_i c hc;rw[Z]at hc;cases hc
      exact bP_ K .normal _ _ (B s' rfl _ _ _ _ ⟨v'.im,_,v'.sl⟩ (W _) (z1.perm zp) (h3.trans (I.trans ((z2.permL (A _ _ _).symm).subR fun b hb=>(zp.map Prod.fst).mem_iff.2 hb))) (ao_ (z2.le q) S))
    | inr t=>exact nomatch t
end
end Go.Sx
namespace Go.Vs
open Go Go.Sx
def Ax.vc (k:Int) (x:Ax):List Str:=x.left.nms k++x.right.nms k++(if k=6 then x.roles++[x.role] else [])++(if k=4 then [x.a,x.b] else [])
def vcL (k:Int) (l:List Ax):List Str:=l.flatMap (Ax.vc k)
theorem up_ {k:Int} {l:List Ax} {i:Nat} {x:Ax} (h:l[i]? = some x):vcL k (l.take (i+1))=vcL k (l.take i)++x.vc k:=by
  unfold vcL;rw[List.take_add_one,h,List.flatMap_append];simp
def StM.nil:StM:=⟨#[],0,[],SetE.nil,Born.nil 0⟩
structure VI (s:StM) (D:List Str):Prop where
  mem:∀ n,n∈s.ks↔n∈D
  len:s.ks.length≤D.length
theorem VI.add {s:StM} {D:List Str} (h:VI s D) (k:Str):VI (s.add k) (D++[k]) :=
  ⟨fun n=>by rw[StM.mem,h.mem];simp,by have:=StM.len (s:=s) (k:=k);have:=h.len;rw[List.length_append];simp;omega⟩
theorem VI.cg {s:StM} {D E:List Str} (h:VI s D) (e:D=E):VI s E:=e▸h
abbrev S4:=StM×StM×StM×StM
def ej_ (x:Con) (s:S4):S4:=if x.kind=3 then (s.1.add x.name,s.2) else if x.kind=6 then (s.1,s.2.1.add x.name,s.2.2) else if x.kind=7 then (s.1,s.2.1,s.2.2.1.add x.name,s.2.2.2) else if x.kind=4 then (s.1,s.2.1,s.2.2.1,s.2.2.2.add x.name) else s
structure V4 (s:S4) (D:Int→List Str):Prop where
  c:VI s.1 (D 3)
  r:VI s.2.1 (D 6)
  f:VI s.2.2.1 (D 7)
  i:VI s.2.2.2 (D 4)
theorem V4.nil:V4 (StM.nil,StM.nil,StM.nil,StM.nil) (fun _=>[]):=⟨⟨fun n=>by simp[StM.nil],by simp[StM.nil]⟩,⟨fun n=>by simp[StM.nil],by simp[StM.nil]⟩,⟨fun n=>by simp[StM.nil],by simp[StM.nil]⟩,⟨fun n=>by simp[StM.nil],by simp[StM.nil]⟩⟩
theorem V4.cg {s:S4} {D E:Int→List Str} (h:V4 s D) (e:∀ k,D k=E k):V4 s E:=⟨h.c.cg (e 3),h.r.cg (e 6),h.f.cg (e 7),h.i.cg (e 4)⟩
theorem V4.put {s:S4} {D:Int→List Str} (h:V4 s D) (x:Con):V4 (ej_ x s) (fun k=>D k++if x.kind=k then [x.name] else []):=by
 unfold ej_
 split
 ·rename_i q;exact⟨(h.c.add _).cg (by rw[if_pos q]),h.r.cg (by rw[if_neg za_];simp),h.f.cg (by rw[if_neg za_];simp),h.i.cg (by rw[if_neg za_];simp)⟩
 split
 ·rename_i q;exact⟨h.c.cg (by rw[if_neg za_];simp),(h.r.add _).cg (by rw[if_pos q]),h.f.cg (by rw[if_neg za_];simp),h.i.cg (by rw[if_neg za_];simp)⟩
 split
 ·rename_i q;exact⟨h.c.cg (by rw[if_neg za_];simp),h.r.cg (by rw[if_neg za_];simp),(h.f.add _).cg (by rw[if_pos q]),h.i.cg (by rw[if_neg za_];simp)⟩
 split
 ·rename_i q;exact⟨h.c.cg (by rw[if_neg za_];simp),h.r.cg (by rw[if_neg za_];simp),h.f.cg (by rw[if_neg za_];simp),(h.i.add _).cg (by rw[if_pos q])⟩
 rename_i m v d e;exact⟨h.c.cg (by rw[if_neg m];simp),h.r.cg (by rw[if_neg v];simp),h.f.cg (by rw[if_neg d];simp),h.i.cg (by rw[if_neg e];simp)⟩
theorem V4.fold:∀ (L:List Con) {s:S4} {D:Int→List Str},V4 s D→V4 (L.foldl (fun s x=>ej_ x s) s) (fun k=>D k++(L.filter fun x=>decide (x.kind=k)).map Con.name)
  | [],s,D,h=>h.cg fun k=>by simp
  | x::L,s,D,h=>(V4.fold L (h.put x)).cg fun k=>by
    rw[List.filter_cons,List.append_assoc]
    by_cases q:x.kind=k<;>simp[q]
theorem V4.side {s:S4} {D:Int→List Str} {C:List Con} {j:Nat} {c:Con} (h:V4 s fun k=>D k++(C.take j).flatMap (Con.nms k)) (d:C[j]? = some c):V4 (c.nds.foldl (fun s x=>ej_ x s) s) (fun k=>D k++(C.take (j+1)).flatMap (Con.nms k)) :=
  (V4.fold c.nds h).cg fun k=>by
    rw[tk1 d,List.flatMap_append,List.append_assoc];simp[Con.nms]
def S4.addR (s:S4) (n:Str):S4:=(s.1,s.2.1.add n,s.2.2)
def S4.addI (s:S4) (n:Str):S4:=(s.1,s.2.1,s.2.2.1,s.2.2.2.add n)
theorem V4.addR {s:S4} {D:Int→List Str} (h:V4 s D) (n:Str):V4 (s.addR n) (fun k=>D k++if k=6 then [n] else []) :=
  ⟨h.c.cg zj_,(h.r.add n).cg zj_,h.f.cg zj_,h.i.cg zj_⟩
theorem V4.addI {s:S4} {D:Int→List Str} (h:V4 s D) (n:Str):V4 (s.addI n) (fun k=>D k++if k=4 then [n] else []) :=
  ⟨h.c.cg zj_,h.r.cg zj_,h.f.cg zj_,(h.i.add n).cg zj_⟩
theorem V4.role {s:S4} {D:Int→List Str} {L:List Str} {j:Nat} {n:Str} (h:V4 s fun k=>D k++if k=6 then L.take j else []) (d:L[j]? = some n):V4 (s.addR n) (fun k=>D k++if k=6 then L.take (j+1) else []) :=
  (h.addR n).cg fun k=>by by_cases q:k=6<;>simp[q,tk1 d]
theorem V4.axm {s:S4} {l:List Ax} {i:Nat} {x:Ax} (h:V4 s fun k=>(vcL k (l.take i)++[x.left,x.right].flatMap (Con.nms k))++if k=6 then x.roles else []) (e:l[i]? = some x):V4 (((s.addR x.role).addI x.a).addI x.b) (fun k=>vcL k (l.take (i+1))) :=
 (((h.addR x.role).addI x.a).addI x.b).cg fun k=>by
   rw[up_ e];unfold Ax.vc
   by_cases q:k=6
   · subst q;simp
   · by_cases d:k=4
     · subst d;simp
     · simp[q,d]
theorem vc_len {x:Ax} {k:Int} (d:x.left.sz≤1000000) (e:x.right.sz≤1000000) (h:x.roles.length≤1000000):(x.vc k).length≤4000000:=by
  unfold Ax.vc;have:=Con.nms_len k x.left;have:=Con.nms_len k x.right;rw[List.length_append,List.length_append,List.length_append]
  split<;>split<;>simp<;>omega
theorem so_ {k:Int}:∀ {l:List Ax},(∀ x∈l,x.left.sz≤1000000∧x.right.sz≤1000000∧x.roles.length≤1000000)→(vcL k l).length≤4000000*l.length
  | [],_=>by simp[vcL]
  | x::l,h=>by
    have e:=so_ (k:=k) (l:=l) fun y d=>h y zL_
    obtain⟨a,b,c⟩:=h x zj_;have m:=vc_len (k:=k) a b c;unfold vcL at e ⊢;rw[List.flatMap_cons,List.length_append,List.length_cons];omega
theorem gJ_ {l:List Str} (hl:l.Nodup):SrS (aS_ l):=by
 have e:=fR_ l;have d:(aS_ l).Nodup:=(List.mergeSort_perm _ _).nodup_iff.2 hl;unfold List.Nodup at d;refine List.Pairwise.imp (fun {a b} hab=>?_) (e.and d)
 by_cases g:a<b
 ·exact g
 exact absurd (List.le_antisymm hab.1 (List.not_lt.1 g)) hab.2
def kI_ (k:Int) (l:List Ax) (Y:List Str):Prop:=SrS Y∧∀ n,n∈Y↔n∈vcL k l∧(k=6∨k=4→n≠[])
theorem kI_.of {k:Int} {l:List Ax} {s:StM} (h:VI s (vcL k l)) (hk:k≠6∧k≠4):kI_ k l (aS_ s.ks) :=
  ⟨gJ_ s.hE.nd,fun n=>by rw[List.mem_mergeSort,h.mem];exact⟨fun q=>⟨q,fun r=>by rcases r with r|r;exact absurd r hk.1;exact absurd r hk.2⟩,fun q=>q.1⟩⟩
theorem kI_.ofD {k:Int} {l:List Ax} {s:StM} (h:VI s (vcL k l)) (hk:k=6∨k=4):kI_ k l (aS_ (s.ks.filter fun q=>decide (q≠[]))) :=
  ⟨gJ_ (s.hE.nd.filter _),fun n=>by rw[List.mem_mergeSort,List.mem_filter,h.mem];exact⟨fun q=>⟨q.1,fun _=>by simpa using q.2⟩,fun q=>⟨q.1,by simpa using q.2 hk⟩⟩⟩
end Go.Vs
