/-
  Part of the proof of the law CanonAsksSpec over this seat: the small logic, the data, the contracts of functions (no condition).
-/
import Derived.Test.YtpbnmnfdgckaiaaGreatDoorQCanonAsksSpec11
import Derived.Test.YtpbnmnfdgckaiaaGreatDoorQCanonAsksSpec3
import Derived.Test.YtpbnmnfdgckaiaaGreatDoorQCanonAsksSpec8
import Derived.Test.YtpbnmnfdgckaiaaGreatDoorQCanonAsksSpec10
import Derived.Test.YtpbnmnfdgckaiaaGreatDoorQCanonAsksSpec2
import Derived.Test.YtpbnmnfdgckaiaaGreatDoorQCanonAsksSpec6
set_option linter.unusedVariables false
set_option linter.unusedSimpArgs false
set_option linter.unusedSectionVars false
set_option maxHeartbeats 1000000
namespace Go.Proofs.YtpbnmnfdgckaiaaGreatDoor
open Go Go.Sx Go.Proofs
attribute [local irreducible] Code.wp wpList wpAnyH
open Go.Vs
theorem lh_ {G:Prop} (h:G:=by
 refine C_ dV_ (Zz 14 ?_);exact x_ ⟨(k+1,(List.set (List.set M k d) (Int.toNat ((List.length L:Int) - 1 - (k:Int))) h),B,C),(by have q:=W.step I (show M[List.length L - 1 - k]? = some d from by rw[show List.length L - 1 - k=(Int.toNat ((List.length L:Int) - 1 - (k:Int))) by omega];exact A) x;rw[show List.length L - 1 - k=(Int.toNat ((List.length L:Int) - 1 - (k:Int))) by omega]at q;exact q),Q,K⟩ zb_ ⟨rfl,rfl,(cd_ rfl zb_),trivial⟩ ad_ zt):G:=h
theorem tP_ (L:List Int) (sv:Value) (Hr:Hp) (hr:zR 3 1 fz_ sv L Hr) (hl:L.length≤1000000000):Tri Tryz.prog 108 #[sv] Hr [] (fun _:{H:Hp // zR 3 1 fz_ sv L.reverse H}=>.tuple #[]) (fun y=>y.1) (fun _=>[]):=by
 refine i_ Tryz.func108 rfl rfl Tryz.ntmps108 rfl fun v_1=>?_;refine Zz 3 ?_;refine e_ (eU_ hr av_ rfl) rfl (Zz 6 ?_);refine bJ_ [(0,sv),(2,.int .i64 0),(3,.int .i64 ((List.length L:Int) - 1 - ((0:Nat):Int)))] ⟨rfl,rfl,(cd_ rfl za_),trivial⟩ ?_;refine K_ (ι:={y:Nat×List Int×Value×Hp // RevI L y.2.1 y.1∧y.2.2.1=sv∧zR 3 1 fz_ y.2.2.1 y.2.1 y.2.2.2}) (fun y=>[(0,y.1.2.2.1),(2,.int .i64 (y.1.1:Int)),(3,.int .i64 ((List.length L:Int) - 1 - (y.1.1:Int)))]) (fun y=>(y.1.2.2.2)) (fun y=>[]) (fun y=>List.length L - y.1.1) ⟨((0:Nat),L,sv,Hr),RevI.zero L,rfl,hr⟩ zl ad_ zt ?_;rintro ⟨⟨k,M,B,X⟩,W,Q,e⟩;dsimp only at W Q e ⊢;refine Zi 5 (fun F=>?_) fun F=>?_
 ·refine Zz 5 ?_
  have eM:=W.done F;subst eM;rw[Q]at e;exact cp_ Tryz.results108 ⟨X,e⟩ rfl ad_ zt
 have I:=F;have hML:=W.len;have T:(Int.toNat ((List.length L:Int) - 1 - (k:Int)))<List.length M:=by omega
 obtain⟨d,A⟩:∃ R,M[(Int.toNat ((List.length L:Int) - 1 - (k:Int)))]? = some R:=⟨_,List.getElem?_eq_getElem T⟩;have Z:d∈M:=List.mem_of_getElem? A;have U:k<List.length M:=by omega
 obtain⟨h,x⟩:∃ R,M[k]? = some R:=⟨_,List.getElem?_eq_getElem U⟩;have Y:h∈M:=List.mem_of_getElem? x;refine Zz 7 ?_;refine ah_ ([]) zk ?_;refine t_ 6 [0,1,2,3,4,5,6,8,9,10] zk zs (Zz 6 ?_);refine N_ rfl (bH_ e av_ au_ rfl rfl za_ za_) rfl (Zz 2 ?_);refine N_ rfl (bH_ e av_ au_ rfl rfl za_ za_) rfl (bh_ ?_);refine gC_ 7 11 rfl rfl zk ?_ ?_
 ·refine e_ (cU_ e ad_ aQ_ rfl (p_ dR_ A 0 _ rfl)) rfl (Zz 3 ?_)
  refine o_ 11 rfl zk (e_ (cU_ e ad_ aQ_ rfl (p_ dR_ x 0 _ rfl)) rfl (Zz 3 ?_));refine t_ 3 [12] zk zs (N_ rfl (bH_ e av_ au_ rfl rfl za_ za_) rfl (bh_ (o_ 13 rfl zk (fg_ (k:=(k:Int).toNat*1+0) e ad_ au_ rfl rfl za_ rfl rfl fun G F=>?_))));have N:=(iv_ fz_ 1 dR_ M k 0 h d (.int .i64 d) x ze_ rfl).trans (congrArg _ (rfl));have E:ax_ 3 1 B (List.length (List.set M k d)) (List.flatMap fz_ (List.set M k d)) G:=by rw[← N,show List.length (List.set M k d)=List.length M from (List.length_set ..)];exact F
  refine C_ dV_ (Zz 3 ?_);refine o_ 14 rfl zk ?_;have P:(List.set M k d)[(Int.toNat ((List.length L:Int) - 1 - (k:Int)))]? = some d:=by rw[List.getElem?_set_ne za_];exact A
  have S:(Int.toNat ((List.length L:Int) - 1 - (k:Int)))<List.length (List.set M k d):=by rw[List.length_set];omega
  refine e_ (bH_ E av_ au_ rfl rfl za_ za_) rfl (Zz 3 ?_);refine o_ 15 rfl zk (fg_ (k:=((Int.toNat ((List.length L:Int) - 1 - (k:Int))):Int).toNat*1+0) E ad_ au_ rfl rfl za_ rfl rfl fun C O=>?_);have J:=(iv_ fz_ 1 dR_ (List.set M k d) (Int.toNat ((List.length L:Int) - 1 - (k:Int))) 0 d h (.int .i64 h) P ze_ rfl).trans (congrArg _ (rfl));have K:ax_ 3 1 B (List.length (List.set (List.set M k d) (Int.toNat ((List.length L:Int) - 1 - (k:Int))) h)) (List.flatMap fz_ (List.set (List.set M k d) (Int.toNat ((List.length L:Int) - 1 - (k:Int))) h)) C:=by rw[← J,show List.length (List.set (List.set M k d) (Int.toNat ((List.length L:Int) - 1 - (k:Int))) h)=List.length (List.set M k d) from (List.length_set ..)];exact O
  exact lh_
 refine e_ (cU_ e ad_ aQ_ rfl (p_ dR_ x 0 _ rfl)) rfl (Zz 3 ?_);refine o_ 7 rfl zk (e_ (cU_ e ad_ aQ_ rfl (p_ dR_ A 0 _ rfl)) rfl (Zz 3 ?_));refine t_ 3 [12] zk zs (N_ rfl (bH_ e av_ au_ rfl rfl za_ za_) rfl (bh_ (o_ 13 rfl zk (fg_ (k:=(k:Int).toNat*1+0) e ad_ au_ rfl rfl za_ rfl rfl fun G O=>?_))));have N:=(iv_ fz_ 1 dR_ M k 0 h d (.int .i64 d) x ze_ rfl).trans (congrArg _ (rfl));have E:ax_ 3 1 B (List.length (List.set M k d)) (List.flatMap fz_ (List.set M k d)) G:=by rw[← N,show List.length (List.set M k d)=List.length M from (List.length_set ..)];exact O
 refine C_ dV_ (Zz 3 ?_);refine o_ 14 rfl zk ?_;have P:(List.set M k d)[(Int.toNat ((List.length L:Int) - 1 - (k:Int)))]? = some d:=by rw[List.getElem?_set_ne za_];exact A
 have S:(Int.toNat ((List.length L:Int) - 1 - (k:Int)))<List.length (List.set M k d):=by rw[List.length_set];omega
 refine e_ (bH_ E av_ au_ rfl rfl za_ za_) rfl (Zz 3 ?_);refine o_ 15 rfl zk (fg_ (k:=((Int.toNat ((List.length L:Int) - 1 - (k:Int))):Int).toNat*1+0) E ad_ au_ rfl rfl za_ rfl rfl fun C V=>?_);have J:=(iv_ fz_ 1 dR_ (List.set M k d) (Int.toNat ((List.length L:Int) - 1 - (k:Int))) 0 d h (.int .i64 h) P ze_ rfl).trans (congrArg _ (rfl));have K:ax_ 3 1 B (List.length (List.set (List.set M k d) (Int.toNat ((List.length L:Int) - 1 - (k:Int))) h)) (List.flatMap fz_ (List.set (List.set M k d) (Int.toNat ((List.length L:Int) - 1 - (k:Int))) h)) C:=by rw[← J,show List.length (List.set (List.set M k d) (Int.toNat ((List.length L:Int) - 1 - (k:Int))) h)=List.length (List.set M k d) from (List.length_set ..)];exact V
 exact lh_
def b2C (e:Bool×Bool):List Value:=[.bool e.1,.bool e.2]
theorem ku_ (e:Bool×Bool):(b2C e).length=2:=rfl
structure SeenI (W:List Wy) (B:List (Bool×Bool)) (n:Nat):Prop where
  len:B.length=n
  at':∀ r,r<n→B[r]? = some (lV_ W r false,lV_ W r true)
theorem oK_ (W:List Wy) (w:Wy) (r:Nat) (b:Bool):lV_ (W++[w]) r b=(lV_ W r b||(w.role==r&&w.strict==b)):=by simp[lV_]
theorem SeenI.push {W:List Wy} {B:List (Bool×Bool)} {n r:Nat} {b:Bool} {bf m:Nat} {u:Bool×Bool} (h:SeenI W B n) (y:B[r]? = some u):SeenI (W++[⟨r,b,bf,m⟩]) (B.set r (if b then (u.1,true) else (true,u.2))) n:=by
 have x:=(List.getElem?_eq_some_iff.1 y).1;have hl:=h.len;refine⟨by rw[List.length_set,h.len],fun q A=>?_⟩;have d:=h.at' q A;rw[oK_,oK_,List.getElem?_set]
 by_cases e:r=q
 ·subst e
  rw[if_pos rfl,if_pos x];rw[y]at d;simp only[Option.some.injEq]at d;subst d;cases b<;>simp
 rw[if_neg e,d];have:(r==q)=false:=by simp[e]
 simp[this]
theorem SeenI.init {n s:Nat} (e:s<n):SeenI [⟨s,false,0,0⟩] (List.set (List.replicate n (false,false)) s (true,false)) n:=by
  have d:SeenI [] (List.replicate n (false,false)) n:=⟨List.length_replicate,fun r q=>by rw[List.getElem?_replicate,if_pos q];rfl⟩;have h:(List.replicate n (false,false))[s]? = some (false,false):=by rw[List.getElem?_replicate,if_pos e]
  have:=d.push (b:=false) (bf:=0) (m:=0) h;simpa using this
def CirR (G:List (List (Nat×Bool))) (start most:Nat) (L:List Int) (ad:Option Addr) (cap:Nat):Prop :=
  (L=[]∧ad=none∧cap=0∧∀ (n:Nat) (f:Nat→Nat) (c:Nat→Bool),Clw (gE G) n f c→f 0=start→most≤n) ∨
  (ad≠none∧(∃ n,Clo (gE G) n)∧(∀ x∈L,0≤x∧x<(G.length:Int))∧L.length≤2*G.length+1)
theorem ib_ {P:Program} {N:Nf} {fr:Fr} {H:Hp} {Γ:List Fct} {t e ty:TypeId} {x y:Operand} {b k i:Nat} (q:∀ w,(underlying t).run P w=.ok (.array 2 e) w) (A:∀ w,(sizeOf e).run P w=.ok 1 w) (h:Fr.ev fr x=some (zp_ b k)) (d:Fr.ev fr y=some (.int .i64 (i:Int))) (hi:i<2) :
    Yld P N fr H Γ (.indexAddr t x y) ty (.pointer (some ⟨b,k+i,none⟩)):=by
  have:=ea_ (P:=P) (N:=N) (fr:=fr) (H:=H) (Γ:=Γ) (ty:=ty) q A h d za_ za_;rwa [Nat.mul_one,Int.toNat_natCast]at this
theorem ax_.lit {e:TypeId} {sz b:Nat} {d:List Value} {n:Nat} (hl:d.length=n*sz) (h:n≤maxLen):ax_ e sz (.slice (some ⟨b,0,none⟩) n n) n d [(b,.cells d.toArray e (0,0))] :=
  ⟨hl,.inr ⟨b,n,d.toArray,rfl,rfl,Nat.le_refl _,h,by simpa using hl,by rw[← hl];simp⟩⟩
theorem lg_ {G:Prop} (h:G:=by
 have a1:=Z;refine Zz 8 ?_;exact x_ ⟨(k+1,Y,N,K,P,I,a8),(J.skip G b2 T (fun q=>by have F:=hcll;rw[q.2]at F;simp[q.1]at F) (by rw[V];have F:=a1;rw[hbe]at F;exact F)),M,G,U,A,C⟩ zb_ zl (l_ (c_ d_) (l_ (c_ d_) (B_ (c_ y_) H_))) zh):G:=h
theorem wH_ (R:List Str) (rad:Option Addr) (a9:Nat) (X:List Grw) (a4:Option Addr) (a6 d most:Nat) (hlen:X.length=R.length) (hs:d<X.length) (hto:∀ (i:Nat) (l:List (Nat×Bool)),(List.map Grw.st X)[i]? = some l→∀ s∈l,s.1<((List.map Grw.st X)).length) (hXl:X.length≤100000) (hrows:∀ y∈X,y.st.length≤100000000) (hmost:most≤200000):Tri Tryz.prog 68 #[.agg #[.slice rad (List.length R) a9,.slice a4 (List.length X) a6],.int .i64 (d:Int),.int .i64 (most:Int)] [] [ai_ rad (List.flatMap ak_ R),ai_ a4 (List.flatMap Grw.cells X),hN_ X] (fun y:{y:List Int×Option Addr×Nat // CirR (List.map Grw.st X) d most y.1 y.2.1 y.2.2∧List.length y.1≤y.2.2∧y.2.2≤maxLen∧(y.2.1=none→y.2.2=0)}=>.slice y.1.2.1 (List.length y.1.1) y.1.2.2) (fun _=>[]) (fun y=>[ai_ y.1.2.1 (List.flatMap fz_ y.1.1)]):=by
 refine i_ Tryz.func68 rfl rfl Tryz.ntmps68 rfl fun v_1=>?_;refine Zz 2 ?_;refine V_ rfl rfl fun a5=>Zz 3 ?_
 refine kF_ (Zz 3 ?_);refine e_ (J_ pa_ rfl rfl) rfl (X_ ei_ fR_ og_ rfl rfl rfl rfl rfl rfl fun b_2=>Zz 4 ?_);have hqW:ax_ 164 4 (.slice (some ⟨b_2,0,none⟩) 1 1) (List.length [(Wy.mk d false 0 0)]) (List.flatMap wyC [(Wy.mk d false 0 0)]) [(b_2,.cells #[.int .i64 (d:Int),.bool false,.int .i64 (0:Int),.int .i64 (0:Int)] 164 (0,0))]:=ax_.lit rfl ze_;refine C_ (H':=([(b_2,.cells #[.int .i64 (d:Int),.bool false,.int .i64 (0:Int),.int .i64 (0:Int)] 164 (0,0))]++((a5,.cells #[.slice rad (List.length R) a9,.slice a4 (List.length X) a6] 103 (0,0))::[]))) (List.Perm.refl _) (Zz 4 ?_);refine qC_ (n:=List.length R) (by':=2) Tryz.underlying166 (z:=.agg #[.bool false,.bool false]) zk rfl ze_ rfl rfl za_ zm_ rfl fun svB HrB hrB=>?_;have hqB:ax_ 167 2 svB (List.length (List.replicate (List.length R) (false,false))) (List.flatMap b2C (List.replicate (List.length R) (false,false))) HrB:=by rw[List.length_replicate,← pR_ b2C];exact hrB
 have hzl:List.length (List.replicate (List.length R) (false,false))=List.length R:=List.length_replicate;have hz_1:(List.replicate (List.length R) (false,false))[d]? = some (false,false):=by rw[List.getElem?_replicate,if_pos za_]
 refine Zz 3 ?_;refine C_ (bj_ (g_ aX_)) (Zz 4 ?_);refine e_ (bH_ hqB je_ vg_ rfl rfl za_ za_) rfl (e_ (ib_ (i:=0) jd_ dU_ rfl rfl ze_) rfl (fg_ (k:=(d:Int).toNat*2+0) hqB zp dU_ rfl rfl za_ rfl rfl fun Hr_1 hr_1=>?_));have hs_1:=(iv_ b2C 2 ku_ (List.replicate (List.length R) (false,false)) d 0 (false,false) (true,false) (.bool true) hz_1 ze_ rfl).trans (congrArg _ (rfl));have hq_1:ax_ 167 2 svB (List.length (List.set (List.replicate (List.length R) (false,false)) d (true,false))) (List.flatMap b2C (List.set (List.replicate (List.length R) (false,false)) d (true,false))) Hr_1:=by rw[← hs_1,show List.length (List.set (List.replicate (List.length R) (false,false)) d (true,false))=List.length (List.replicate (List.length R) (false,false)) from (List.length_set ..)];exact hr_1
 refine Zz 3 ?_;refine kH_ (Zz 2 ?_);refine C_ (bj_ (g_ d_)) (Zz 6 ?_);refine K_ (ι:={y:Nat×List Wy×List (Bool×Bool)×Value×Hp×Value×Hp // BI (List.map Grw.st X) d y.2.1 y.1 0∧SeenI y.2.1 y.2.2.1 (List.length X)∧y.1≤List.length y.2.1∧zR 164 4 wyC y.2.2.2.1 y.2.1 y.2.2.2.2.1∧zR 167 2 b2C y.2.2.2.2.2.1 y.2.2.1 y.2.2.2.2.2.2}) (fun y=>[(1,.int .i64 (d:Int)),(2,.int .i64 (most:Int)),(3,zp_ a5 0),(6,.slice none 0 0),(7,y.1.2.2.2.1),(8,y.1.2.2.2.2.2.1),(9,.int .i64 (y.1.1:Int))]) (fun y=>((a5,.cells #[.slice rad (List.length R) a9,.slice a4 (List.length X) a6] 103 (0,0))::(y.1.2.2.2.2.1++y.1.2.2.2.2.2.2))) (fun y=>[ai_ rad (List.flatMap ak_ R),ai_ a4 (List.flatMap Grw.cells X),hN_ X]) (fun y=>2*List.length X - y.1.1) ⟨((0:Nat),[(Wy.mk d false 0 0)],(List.set (List.replicate (List.length R) (false,false)) d (true,false)),(.slice (some ⟨b_2,0,none⟩) 1 1),[(b_2,.cells #[.int .i64 (d:Int),.bool false,.int .i64 (0:Int),.int .i64 (0:Int)] 164 (0,0))],svB,Hr_1),BI.init (by rw[List.length_map];exact hs),(by rw[hlen];exact SeenI.init za_),zj_,hqW,hq_1⟩ zl zp zh ?_;rintro ⟨⟨a,W,Bl,K,P,I,a8⟩,hI,hSn,ha,A,C⟩;dsimp only at hI hSn ha A C ⊢;refine Zz 5 ?_;refine e_ (eU_ A ei_ rfl) rfl ?_;refine Zi 0 (fun hr_1=>?_) fun hr_1=>?_
 ·refine Zz 12 ?_
  exact Y_ Tryz.results68 ⟨([],none,0),.inl ⟨rfl,rfl,rfl,fun n f c hc hf=>hI.none (fun w hw=>by have:=(List.getElem?_eq_some_iff.1 hw).1;omega) hto hc hf⟩,by simp[maxLen]⟩ rfl f_ (fun v _ h=>⟨.inl rfl,trivial⟩)
 have hlw_1:a<List.length W:=by omega
 obtain⟨E,a7⟩:∃ B,W[a]? = some B:=⟨_,List.getElem?_eq_getElem hlw_1⟩;have hmw_1:E∈W:=List.mem_of_getElem? a7;have hrole:=hI.role a E a7;rw[List.length_map]at hrole;have hmny:=hI.many a E a7;have hWl:=hI.len;rw[List.length_map]at hWl;have hly_1:(Wy.role E)<List.length X:=hrole;obtain⟨H,hy_1⟩:∃ B,X[(Wy.role E)]? = some B:=⟨_,List.getElem?_eq_getElem hly_1⟩;have hmy_1:H∈X:=List.mem_of_getElem? hy_1;have b2:(List.map Grw.st X)[Wy.role E]? = some (Grw.st H):=by rw[List.getElem?_map,hy_1];rfl
 have hyl:=hrows H hmy_1;refine Zz 11 ?_;refine e_ (bH_ A ei_ fR_ rfl rfl za_ za_) rfl (e_ (eV_ A zp Tryz.isAgg164 fR_ rfl (md_ _) ze_ (p_ md_ a7)) rfl (E_ og_ rfl fun b_3=>z_ 0 fR_ rfl rfl rfl rfl rfl rfl (Zz 7 ?_)));refine e_ (ar_ (aZ_ rfl rfl rfl (ce_ za_ za_)) (show _=Value.int .i64 ((Wy.many E+1:Nat):Int) from congrArg _ za_)) rfl (Zi 1 (fun hr_2=>?_) fun hr_2=>?_)
 ·refine Zz 18 ?_
  refine K_ (ι:={y:Nat×List Wy×List (Bool×Bool)×Value×Hp×Value×Hp // BI (List.map Grw.st X) d y.2.1 a y.1∧SeenI y.2.1 y.2.2.1 (List.length X)∧y.2.1[a]? = some E∧y.1≤List.length (Grw.st H)∧zR 164 4 wyC y.2.2.2.1 y.2.1 y.2.2.2.2.1∧zR 167 2 b2C y.2.2.2.2.2.1 y.2.2.1 y.2.2.2.2.2.2}) (fun y=>[(1,.int .i64 (d:Int)),(2,.int .i64 (most:Int)),(3,zp_ a5 0),(6,.slice none 0 0),(7,y.1.2.2.2.1),(8,y.1.2.2.2.2.2.1),(9,.int .i64 (a:Int)),(10,zp_ b_3 0),(46,.slice (Grw.ad H) (List.length (Grw.st H)) (Grw.cap H)),(47,.int .i64 (List.length (Grw.st H):Int)),(48,.int .i64 (y.1.1:Int))]) (fun y=>((b_3,.cells #[.int .i64 (Wy.role E:Int),.bool (Wy.strict E),.int .i64 (Wy.before E:Int),.int .i64 (Wy.many E:Int)] 164 (0,0))::((a5,.cells #[.slice rad (List.length R) a9,.slice a4 (List.length X) a6] 103 (0,0))::(y.1.2.2.2.2.1++y.1.2.2.2.2.2.2)))) (fun y=>[ai_ rad (List.flatMap ak_ R),ai_ a4 (List.flatMap Grw.cells X),hN_ X]) (fun y=>List.length (Grw.st H) - y.1.1) ⟨((0:Nat),W,Bl,K,P,I,a8),hI,hSn,a7,za_,A,C⟩ zl zp zh ?_;rintro ⟨⟨k,Y,N,K,P,I,a8⟩,J,M,G,hk,A,C⟩;dsimp only at J M G hk A C ⊢;refine Zi 2 (fun hr_3=>?_) fun hr_3=>?_
  ·refine Zz 8 ?_
   refine e_ (ar_ (aZ_ rfl rfl rfl (ce_ za_ za_)) (show _=Value.int .i64 ((a+1:Nat):Int) from congrArg _ za_)) rfl (Zz 3 ?_);exact x_ ⟨(a+1,Y,N,K,P,I,a8),J.next G b2 za_,M,(by have:=(List.getElem?_eq_some_iff.1 G).1;dsimp only;omega),A,C⟩ (by have q_1:=J.len;have q_2:=(List.getElem?_eq_some_iff.1 G).1;rw[List.length_map]at q_1;dsimp only;omega) zl (l_ (c_ d_) (B_ (c_ y_) H_)) zh
  have U:k<List.length (Grw.st H):=by omega
  obtain⟨B,T⟩:∃ B,(Grw.st H)[k]? = some B:=⟨_,List.getElem?_eq_getElem U⟩;have hme_1:B∈(Grw.st H):=List.mem_of_getElem? T;have hto_1:=hto _ _ b2 B hme_1;have hto_2:Prod.fst B<List.length X:=by have q:=hto_1;rw[List.length_map]at q;exact q
  have hWl_1:=J.len;rw[List.length_map]at hWl_1;have hbl:=M.len;have hal:=(List.getElem?_eq_some_iff.1 G).1;have hbv_1:=M.at' (Prod.fst B) hto_2;obtain⟨bv,hbv,hbe⟩:∃ bv,N[Prod.fst B]? = some bv∧bv=(lV_ Y (Prod.fst B) false,lV_ Y (Prod.fst B) true):=⟨_,hbv_1,rfl⟩;refine Zz 10 ?_;refine e_ (O_ bX_ Tryz.sizeOf160 rfl rfl (fun v _ h=>aq_ (n:=2) nJ_ ze_ (by exact (h.2.2.1 H hmy_1)) T) za_ zg_) rfl ?_;refine e_ (ae_ (ad:=(Grw.ad H)) (us:=rd_ B) Tryz.isAgg160 Tryz.sizeOf160 rfl (fun v _ h=>by exact (h.2.2.1 H hmy_1)) (nJ_ _) (p_ nJ_ T)) rfl (E_ Tryz.zeroValue160 rfl fun b_4=>z_ 0 Tryz.sizeOf160 rfl rfl rfl rfl rfl rfl (Zz 5 ?_));refine G_ (aG_ 1 Tryz.isAgg4 rfl rfl rfl) rfl fun r_1 hr_4=>Zz 1 ?_
  refine aj_ 3 (((Wy.strict E))||((Prod.snd B))) (fun r=>[(1,.int .i64 (d:Int)),(2,.int .i64 (most:Int)),(3,zp_ a5 0),(6,.slice none 0 0),(7,K),(8,I),(9,.int .i64 (a:Int)),(10,zp_ b_3 0),(46,.slice (Grw.ad H) (List.length (Grw.st H)) (Grw.cap H)),(47,.int .i64 (List.length (Grw.st H):Int)),(48,.int .i64 (k:Int)),(12,zp_ b_4 0),(57,.bool r)]) ?_ fun r_2 b1=>?_
  ·cases r_1
   ·have a2:=hr_4
    refine Zz 3 ?_;refine G_ (aG_ 0 Tryz.isAgg4 rfl rfl rfl) rfl fun r_3 O=>Zz 3 ?_
    exact met (zm (jof a2 O))
   have a2:=hr_4;refine Zz 5 ?_;exact met ⟨rfl,rfl,rfl,rfl,rfl,rfl,rfl,rfl,rfl,rfl,rfl,rfl,(m_ rfl (jot a2)),trivial⟩
  refine Zz 9 ?_;refine G_ (br_ rfl rfl) rfl fun r_3 O=>Zz 1 ?_
  refine aj_ 2 ((((Prod.fst B:Nat):Int)==(d:Int))&&((((Wy.strict E))||((Prod.snd B))))) (fun r=>[(1,.int .i64 (d:Int)),(2,.int .i64 (most:Int)),(3,zp_ a5 0),(6,.slice none 0 0),(7,K),(8,I),(9,.int .i64 (a:Int)),(10,zp_ b_3 0),(46,.slice (Grw.ad H) (List.length (Grw.st H)) (Grw.cap H)),(47,.int .i64 (List.length (Grw.st H):Int)),(48,.int .i64 (k:Int)),(12,zp_ b_4 0),(13,.bool r_2),(64,.bool r)]) ?_ fun r_4 hr_7=>?_
  ·cases r_3
   ·have a2:=O
    replace O:=znb O;refine Zz 4 ?_;exact met ⟨rfl,rfl,rfl,rfl,rfl,rfl,rfl,rfl,rfl,rfl,rfl,rfl,rfl,(m_ rfl (jaf a2)),trivial⟩
   have a2:=O;replace O:=zeb O;refine Zz 5 ?_;exact met ⟨rfl,rfl,rfl,rfl,rfl,rfl,rfl,rfl,rfl,rfl,rfl,rfl,rfl,(m_ rfl (jat a2 b1)),trivial⟩
  refine Zz 2 ?_;cases r_4
  ·have hcll:=hr_7
   refine Zz 14 ?_;cases r_2
   ·have V:=b1
    refine Zz 10 ?_;refine e_ (bH_ C je_ vg_ rfl rfl za_ za_) rfl (e_ (ib_ (i:=0) jd_ dU_ rfl rfl ze_) rfl (G_ (cU_ C (c_ (c_ (c_ aX_))) Tryz.isAgg4 rfl (p_ ku_ hbv 0 _ rfl)) rfl fun r_5 Z=>Zz 2 ?_));cases r_5
    ·have a1:=Z
     refine Zz 9 ?_;refine e_ (bH_ C je_ vg_ rfl rfl za_ za_) rfl (e_ (ib_ (i:=0) jd_ dU_ rfl rfl ze_) rfl (fg_ (k:=((Prod.fst B:Nat):Int).toNat*2+0) C (c_ (c_ (c_ aX_))) dU_ rfl rfl za_ rfl rfl fun Q hr_2=>?_));have hs_2:=(iv_ b2C 2 ku_ N (Prod.fst B:Nat) 0 bv (true,Prod.snd bv) (.bool true) hbv ze_ rfl).trans (congrArg _ (rfl));have a3:ax_ 167 2 I (List.length (List.set N (Prod.fst B:Nat) (true,Prod.snd bv))) (List.flatMap b2C (List.set N (Prod.fst B:Nat) (true,Prod.snd bv))) Q:=by rw[← hs_2,show List.length (List.set N (Prod.fst B:Nat) (true,Prod.snd bv))=List.length N from (List.length_set ..)];exact hr_2
     refine Zz 2 ?_;refine C_ (W_ (g_ d_) (W_ (g_ d_) (bj_ (g_ d_)))) (Zz 8 ?_);refine e_ (ar_ (aZ_ rfl rfl rfl (ce_ za_ za_)) (show _=Value.int .i64 ((Wy.many E+1:Nat):Int) from congrArg _ za_)) rfl (e_ (J_ pa_ rfl rfl) rfl (X_ ei_ fR_ og_ rfl rfl rfl rfl rfl rfl fun b_5=>?_));refine am_ (news:=List.flatMap wyC [(Wy.mk (Prod.fst B:Nat) false a (Wy.many E+1:Nat))]) wu_ A rfl rfl zp rfl (aR_ 0 rfl) (fun u hu=>aE_ sF_ hu) zo_ zr_ rfl fun S Hr_3 hr_3=>?_;have hq_3:=zsa hr_3;refine Zz 3 ?_;refine C_ (W_ (g_ d_) (W_ (g_ d_) (W_ (g_ d_) (bj_ (g_ d_))))) (Zz 5 ?_);exact x_ ⟨(k+1,(Y++[(Wy.mk (Prod.fst B:Nat) false a (Wy.many E+1:Nat))]),(List.set N (Prod.fst B:Nat) (true,Prod.snd bv)),S,Hr_3,I,Q),zG_,(M.push (b:=false) (bf:=a) (m:=Wy.many E+1) hbv),zap_,U,hq_3,a3⟩ zb_ zl (l_ (c_ (c_ d_)) (l_ (c_ (c_ d_)) (B_ (c_ (c_ y_)) (c_ H_)))) zh
    exact lg_
   have V:=b1;refine Zz 12 ?_;refine e_ (bH_ C je_ vg_ rfl rfl za_ za_) rfl (e_ (ib_ (i:=1) jd_ dU_ rfl rfl ze_) rfl (G_ (cU_ C (c_ (c_ (c_ aX_))) Tryz.isAgg4 rfl (p_ ku_ hbv 1 _ rfl)) rfl fun r_5 Z=>Zz 2 ?_));cases r_5
   ·have a1:=Z
    refine Zz 9 ?_;refine e_ (bH_ C je_ vg_ rfl rfl za_ za_) rfl (e_ (ib_ (i:=1) jd_ dU_ rfl rfl ze_) rfl (fg_ (k:=((Prod.fst B:Nat):Int).toNat*2+1) C (c_ (c_ (c_ aX_))) dU_ rfl rfl za_ rfl rfl fun Q hr_4=>?_));have hs_2:=(iv_ b2C 2 ku_ N (Prod.fst B:Nat) 1 bv (Prod.fst bv,true) (.bool true) hbv ze_ rfl).trans (congrArg _ (rfl));have a3:ax_ 167 2 I (List.length (List.set N (Prod.fst B:Nat) (Prod.fst bv,true))) (List.flatMap b2C (List.set N (Prod.fst B:Nat) (Prod.fst bv,true))) Q:=by rw[← hs_2,show List.length (List.set N (Prod.fst B:Nat) (Prod.fst bv,true))=List.length N from (List.length_set ..)];exact hr_4
    refine Zz 2 ?_;refine C_ (W_ (g_ d_) (W_ (g_ d_) (bj_ (g_ d_)))) (Zz 8 ?_);refine e_ (ar_ (aZ_ rfl rfl rfl (ce_ za_ za_)) (show _=Value.int .i64 ((Wy.many E+1:Nat):Int) from congrArg _ za_)) rfl (e_ (J_ pa_ rfl rfl) rfl (X_ ei_ fR_ og_ rfl rfl rfl rfl rfl rfl fun b_5=>?_));refine am_ (news:=List.flatMap wyC [(Wy.mk (Prod.fst B:Nat) true a (Wy.many E+1:Nat))]) wu_ A rfl rfl zp rfl (aR_ 0 rfl) (fun u hu=>aE_ sF_ hu) zo_ zr_ rfl fun S Hr_3 b1=>?_;have hq_3:=zsa b1;refine Zz 3 ?_;refine C_ (W_ (g_ d_) (W_ (g_ d_) (W_ (g_ d_) (bj_ (g_ d_))))) (Zz 5 ?_);exact x_ ⟨(k+1,(Y++[(Wy.mk (Prod.fst B:Nat) true a (Wy.many E+1:Nat))]),(List.set N (Prod.fst B:Nat) (Prod.fst bv,true)),S,Hr_3,I,Q),zG_,(M.push (b:=true) (bf:=a) (m:=Wy.many E+1) hbv),zap_,U,hq_3,a3⟩ zb_ zl (l_ (c_ (c_ d_)) (l_ (c_ (c_ d_)) (B_ (c_ (c_ y_)) (c_ H_)))) zh
   exact lg_
  have hclT:=hr_7;refine Zz 3 ?_;refine C_ (H':=((b_4,.cells #[.int .i64 ((Prod.fst B:Nat):Int),.bool (Prod.snd B)] 160 (0,0))::((b_3,.cells #[.int .i64 (Wy.role E:Int),.bool (Wy.strict E),.int .i64 (Wy.before E:Int),.int .i64 (Wy.many E:Int)] 164 (0,0))::((a5,.cells #[.slice rad (List.length R) a9,.slice a4 (List.length X) a6] 103 (0,0))::(P++(a8++([]:Hp))))))) (List.Perm.cons _ (List.Perm.cons _ (List.Perm.cons _ (List.Perm.append_left P (List.Perm.of_eq (List.append_nil _).symm))))) ?_;refine K_ (ι:={y:Nat×List Int×Value×Hp×Value×Hp // y.1≤a∧(∀ x∈y.2.1,0≤x∧x<(List.length X:Int))∧List.length y.2.1+y.1≤a∧zR 164 4 wyC y.2.2.1 Y y.2.2.2.1∧zR 3 1 fz_ y.2.2.2.2.1 y.2.1 y.2.2.2.2.2}) (fun y=>[(1,.int .i64 (d:Int)),(2,.int .i64 (most:Int)),(3,zp_ a5 0),(6,y.1.2.2.2.2.1),(7,y.1.2.2.1),(8,I),(9,.int .i64 (y.1.1:Int)),(10,zp_ b_3 0),(46,.slice (Grw.ad H) (List.length (Grw.st H)) (Grw.cap H)),(47,.int .i64 (List.length (Grw.st H):Int)),(48,.int .i64 (k:Int)),(12,zp_ b_4 0)]) (fun y=>((b_4,.cells #[.int .i64 ((Prod.fst B:Nat):Int),.bool (Prod.snd B)] 160 (0,0))::((b_3,.cells #[.int .i64 (Wy.role E:Int),.bool (Wy.strict E),.int .i64 (Wy.before E:Int),.int .i64 (Wy.many E:Int)] 164 (0,0))::((a5,.cells #[.slice rad (List.length R) a9,.slice a4 (List.length X) a6] 103 (0,0))::(y.1.2.2.2.1++y.1.2.2.2.2.2))))) (fun y=>[ai_ rad (List.flatMap ak_ R),ai_ a4 (List.flatMap Grw.cells X),hN_ X]) (fun y=>y.1.1) ⟨(a,([]:List Int),K,P,(.slice none 0 0),([]:Hp)),(Nat.le_refl _),zj_,zj_,A,(ax_.nil _ _)⟩ zl zp zh ?_;rintro ⟨⟨a_1,L,K,P,sv_RL,H_RL⟩,ha_1,hLx,hLl,A,hr_RL⟩;dsimp only at ha_1 hLx hLl A hr_RL ⊢;refine Zi 4 (fun Z=>?_) fun Z=>?_
  ·refine Zz 9 ?_
   refine X_ av_ au_ kA_ rfl rfl rfl rfl rfl rfl fun b_5=>?_;refine am_ (news:=List.flatMap fz_ [(d:Int)]) tk_ hr_RL rfl rfl zp rfl (aR_ 0 rfl) (fun u hu=>aE_ qU_ hu) zo_ zr_ rfl fun S Q hr_9=>?_;have a3:=zsa hr_9;refine Zz 3 ?_;refine C_ (W_ (g_ d_) (W_ (g_ d_) (W_ (g_ d_) (bj_ (g_ d_))))) (Zz 3 ?_);refine j_ (tP_ (L++[(d:Int)]) S Q a3 (by have:=(List.getElem?_eq_some_iff.1 G).1;simp only[List.length_append,List.length_singleton];omega)) rfl (c_ (c_ (c_ (c_ y_)))) zt rfl fun⟨Hv_1,hv_1⟩=>?_;dsimp only;have hqL_1:ax_ 3 1 S (List.length (List.reverse (L++[(d:Int)]))) (List.flatMap fz_ (List.reverse (L++[(d:Int)]))) Hv_1:=hv_1;refine Zz 4 ?_;refine C_ (W_ (g_ d_) (W_ (g_ d_) (W_ (g_ d_) (bj_ (g_ d_))))) (Zz 7 ?_);have hnz:ax_ 3 1 S (List.length (List.reverse (L++[(d:Int)]))) (List.flatMap fz_ (List.reverse (L++[(d:Int)]))) Hv_1:=hqL_1;refine bn_ hqL_1 (c_ (c_ (c_ (c_ y_)))) fun lad lcap hlad hclad hmlad hzlad=>?_;have hln:lad≠none:=fun e=>by have q:=hzlad e;have q_1:=hclad;rw[q]at q_1;simp only[List.length_reverse,List.length_append,List.length_singleton]at q_1;omega
   exact Y_ Tryz.results68 ⟨((List.reverse (L++[(d:Int)])),lad,lcap),.inr ⟨hln,⟨_,J.found G b2 T (by have F:=hclT;simp only[Bool.and_eq_true,beq_iff_eq]at F;omega) (by have F:=hclT;simp only[Bool.and_eq_true]at F;exact F.2)⟩,(fun x hx=>by rw[List.mem_reverse]at hx;rw[List.length_map];rcases List.mem_append.1 hx with hx|hx;exact hLx x hx;rw[List.mem_singleton]at hx;subst hx;omega),(by have:=J.len;rw[List.length_map]at this;simp only[List.length_reverse,List.length_append,List.length_singleton,List.length_map];omega)⟩,hclad,hmlad,hzlad⟩ (fG_ rfl hlad) f_ zf
  have hlw_2:a_1<List.length Y:=by have:=(List.getElem?_eq_some_iff.1 G).1;omega
  obtain⟨b0,a0⟩:∃ B,Y[a_1]? = some B:=⟨_,List.getElem?_eq_getElem hlw_2⟩;have hmw_2:b0∈Y:=List.mem_of_getElem? a0;refine Zz 11 ?_;refine e_ (bH_ A ei_ fR_ rfl rfl za_ za_) rfl (Zz 1 ?_);refine e_ (cU_ A zp aQ_ rfl (p_ md_ a0 0 _ rfl)) rfl (X_ av_ au_ kA_ rfl rfl rfl rfl rfl rfl fun b_5=>?_);refine am_ (news:=List.flatMap fz_ [(Wy.role b0:Int)]) tk_ hr_RL rfl rfl zp rfl (aR_ 0 rfl) (fun u hu=>aE_ qU_ hu) zo_ zr_ rfl fun S Q O=>?_;have a3:=zsa O;refine Zz 3 ?_;refine C_ (W_ (g_ d_) (W_ (g_ d_) (W_ (g_ d_) (bj_ (g_ d_))))) (Zz 3 ?_);refine e_ (bH_ A ei_ fR_ rfl rfl za_ za_) rfl (Zz 1 ?_);refine e_ (cU_ A zp aQ_ rfl (p_ md_ a0 2 _ rfl)) rfl (Zz 3 ?_);exact x_ ⟨((Wy.before b0),(L++[(Wy.role b0:Int)]),K,P,S,Q),(by have:=J.bef a_1 b0 a0 za_;omega),(fun x hx=>by rcases List.mem_append.1 hx with hx|hx;exact hLx x hx;rw[List.mem_singleton]at hx;subst hx;have:=J.role a_1 b0 a0;rw[List.length_map]at this;omega),(by have:=J.bef a_1 b0 a0 za_;simp only[List.length_append,List.length_singleton];omega),A,a3⟩ (by have:=J.bef a_1 b0 a0 za_;dsimp only;omega) zl (l_ (c_ d_) (l_ (c_ d_) (l_ (c_ d_) (B_ (c_ aX_) H_)))) zh
 refine Zz 12 ?_;exact Y_ Tryz.results68 ⟨([],none,0),.inl ⟨rfl,rfl,rfl,fun n f c hc hf=>hI.none (fun w hw=>by rw[a7]at hw;simp only[Option.some.injEq]at hw;subst hw;omega) hto hc hf⟩,by simp[maxLen]⟩ rfl f_ (fun v _ h=>⟨.inl rfl,trivial⟩)
theorem to_ (x:Ax):∀ i,(x.chs i).length≤i
 | 0=>by simp[Ax.chs]
 | i+1=>by
   have:=to_ x i;rw[Ax.chs,List.length_append]
   split
   · split<;>simp<;>omega
   · simp;omega
theorem rE_ {x:Ax} (h:x.check=0):x.steps.length≤4:=by
 unfold Ax.steps
 split
 ·split
  ·split<;>simp
  simp
 split
 ·rename_i d
  have:=(Ax.good_of h).chain d;have:=to_ x x.roles.length;omega
 simp
theorem mI_:∀ (l:List Ax),(∀ x∈l,x.check=0)→(cV_ l).length≤4*l.length
  | [],_=>by simp[cV_]
  | x::l,h=>by
    have q:=mI_ l fun y d=>h y (List.mem_cons_of_mem _ d)
    have e:=rE_ (h x zj_);unfold cV_ at *;rw[List.flatMap_cons,List.length_append,List.length_cons];omega
theorem MmO.ksl {x:Nat} {ks:List (Str×Nat)} {S:List RSt} {H:Hp} (h:MmO x ks S H) (q:Frm ks S):ks.length≤S.length:=by
  obtain⟨es,c,E,_,hE⟩:=h
  have e:ks.map (·.1) ⊆ S.map (·.1):=fun k hk=>by
    obtain⟨s,d,y⟩:=q k hk;exact List.mem_map.2 ⟨_,y,rfl⟩
  have:=hE.nd.length_le_of_subset e;rwa [List.length_map,List.length_map]at this
def iE_ (G:List (List (Nat×Bool))) (i most:Nat) (L:List Int) (ad:Option Addr) (cap:Nat):Prop :=
  (L=[]∧ad=none∧cap=0∧most=G.length+1∧∀ (n:Nat) (f:Nat→Nat) (c:Nat→Bool),Clw (gE G) n f c→f 0<i→most≤n) ∨
  (ad≠none∧most≤2*G.length+1∧(∃ n,Clo (gE G) n)∧(∀ x∈L,0≤x∧x<(G.length:Int))∧L.length≤2*G.length+1)
theorem iE_.init {G:List (List (Nat×Bool))}:iE_ G 0 (G.length+1) [] none 0:=.inl ⟨rfl,rfl,rfl,rfl,fun _ _ _ _ h=>by omega⟩
theorem iE_.skip {G:List (List (Nat×Bool))} {i most:Nat} {L M:List Int} {ad:Option Addr} {cap cp:Nat} (h:iE_ G i most L ad cap) (d:CirR G i most M none cp):iE_ G (i+1) most L ad cap:=by
 rcases h with⟨x,C,y,B,A⟩|h
 ·rcases d with⟨_,_,_,d⟩|⟨d,_⟩
  ·refine .inl ⟨x,C,y,B,fun n f c q E=>?_⟩
   by_cases e:f 0=i
   ·exact d n f c q e
   exact A n f c q za_
  exact absurd rfl d
 exact .inr h
theorem iE_.take {G:List (List (Nat×Bool))} {i most:Nat} {L M:List Int} {ad e:Option Addr} {cap cp:Nat} (h:iE_ G i most L ad cap) (d:CirR G i most M e cp) (B:e≠none):iE_ G (i+1) M.length M e cp:=by
 rcases d with⟨_,d,_⟩|⟨A,x,y,q⟩
 ·exact absurd d B
 exact .inr ⟨A,q,x,y,q⟩
theorem iE_.none {G:List (List (Nat×Bool))} {most:Nat} {L:List Int} {cap:Nat} (h:iE_ G G.length most L none cap):∀ n,¬ Clo (gE G) n:=by
 rcases h with⟨_,_,_,x,q⟩|⟨h,_⟩
 ·exact wG_ fun n f c e d=>by have:=q n f c e d;omega
 exact absurd rfl h
theorem iE_.some {G:List (List (Nat×Bool))} {i most:Nat} {L:List Int} {ad:Option Addr} {cap:Nat} (h:iE_ G i most L ad cap) (y:ad≠Option.none):(∃ n,Clo (gE G) n)∧(∀ x∈L,0≤x∧x<(G.length:Int))∧L.length≤2*G.length+1:=by
 rcases h with⟨_,h,_⟩|⟨_,_,q,d,e⟩
 ·exact absurd h y
 exact⟨q,d,e⟩
theorem iE_.most {G:List (List (Nat×Bool))} {i most:Nat} {L:List Int} {ad:Option Addr} {cap:Nat} (h:iE_ G i most L ad cap):most≤2*G.length+1:=by
  rcases h with⟨_,_,_,h,_⟩|⟨_,h,_⟩<;>omega
def RlR (l:List Ax) (e:Int):Prop:=(e=0∧¬ pQ_ (cV_ l))∨(e=60∧pQ_ (cV_ l))
theorem ty_ {P:Program} {N:Nf} {fr:Fr} {H:Hp} {Γ:List Fct} {ty t h e:TypeId} {x y:Operand} {ad:Option Addr} {m c:Nat} (C:P.underlying t=some (.slice e)) (B:Fr.ev fr x=some (.slice ad m c)) (A:Fr.ev fr y=some (.slice none 0 0)):Yld P N fr H Γ (.binOp .neq t x y h) ty (.bool (!decide (ad=none))) :=
  fun a v d _ _ _ _ _=>by
    have q:decide (ad=none)=ad.isNone:=by cases ad<;>simp
    rw[q];simp[execOp,d.ev B,d.ev A,eqGuard,binOp,tj_ v.w t e ad m c C]
theorem tN_ (l:List Ax) (ad:Option Addr) (cap:Nat) (a5:∀ x∈l,x.ok) (hC:∀ x∈l,x.check=0) (hll:l.length≤20000):Tri Tryz.prog 30 #[.slice ad (List.length l) cap] [] [ge_ ad l,cn_] (fun y:{y:Value×Int // RlR l y.2}=>.tuple #[y.1.1,.int .i64 y.1.2]) (fun _=>[]) (fun _=>[]):=by
 refine i_ Tryz.func30 rfl rfl Tryz.ntmps30 rfl fun v_1=>?_;refine Zz 10 ?_;refine j_ (os_ l ad cap a5 hC za_) rfl f_ zf rfl fun _=>Zz 6 ?_
 refine e_ (ar_ (cg_ rfl rfl) (show _=Value.bool false from congrArg Value.bool ze_)) rfl (Zz 8 ?_);refine j_ (xn_ l ad cap a5 hC za_) rfl f_ zf rfl fun⟨⟨mb,ks,Hm⟩,hM,S⟩=>?_;dsimp only;simp only[List.append_nil];dsimp only at hM S;have hSl:=mI_ l hC;have hkl:=MmO.ksl hM S;refine j_ (rX_ mb ks (cV_ l) Hm hM S za_ za_) rfl ad_ zt rfl fun⟨⟨X,rad,K,J,F⟩,hG,a1,hXk,⟨hrs_1,hrs_2,hrs_3⟩,⟨hgs_1,hgs_2,hgs_3⟩⟩=>?_;dsimp only;dsimp only at hG a1 hXk;have hrl:List.length (aT_ (List.map (fun p:Str×Nat=>p.1) ks))=List.length ks:=by rw[List.length_mergeSort,List.length_map]
 have a9:List.length (List.map Grw.st X)=List.length X:=List.length_map ..;refine E_ Tryz.zeroValue103 rfl fun P=>z_ 0 Tryz.sizeOf103 rfl rfl rfl rfl rfl rfl (Zz 7 ?_)
 refine e_ (ar_ (aZ_ rfl rfl rfl (ce_ za_ za_)) (show _=Value.int .i64 ((List.length X+1:Nat):Int) from congrArg _ za_)) rfl (Zz 18 ?_);refine K_ (ι:={y:Nat×Nat×List Int×Option Addr×Nat // y.1≤List.length (aT_ (List.map (fun p:Str×Nat=>p.1) ks))∧iE_ (List.map Grw.st X) y.1 y.2.1 y.2.2.1 y.2.2.2.1 y.2.2.2.2}) (fun y=>[(2,.slice none 0 0),(3,.int .i64 0),(5,zp_ P 0),(6,.int .i64 (y.1.2.1:Int)),(7,.slice y.1.2.2.2.1 (List.length y.1.2.2.1) y.1.2.2.2.2),(26,.int .i64 (List.length (aT_ (List.map (fun p:Str×Nat=>p.1) ks)):Int)),(27,.int .i64 (y.1.1:Int))]) (fun y=>((P,.cells #[.slice rad (List.length (aT_ (List.map (fun p:Str×Nat=>p.1) ks))) K,.slice J (List.length X) F] 103 (0,0))::[])) (fun y=>[ai_ y.1.2.2.2.1 (List.flatMap fz_ y.1.2.2.1),ai_ rad (List.flatMap ak_ (aT_ (List.map (fun p:Str×Nat=>p.1) ks))),ai_ J (List.flatMap Grw.cells X),hN_ X]) (fun y=>List.length (aT_ (List.map (fun p:Str×Nat=>p.1) ks)) - y.1.1) ⟨((0:Nat),(List.length X+1),([]:List Int),none,0),zj_,(by have q:=iE_.init (G:=(List.map Grw.st X));rw[a9]at q;exact q)⟩ zl d_ (fun v _ h=>by exact⟨(.inl rfl),h.1,h.2.1,h.2.2.1,trivial⟩) ?_;rintro ⟨⟨i,mo,L,lad,lcap⟩,b2,Z⟩;dsimp only at b2 Z ⊢;refine Zi 2 (fun N=>?_) fun N=>?_
 ·refine Zz 10 ?_
  refine G_ (ms_ (ad:=lad) Tryz.underlying107 rfl rfl) rfl fun R d=>Zz 2 ?_
  cases R
  ·replace d:=zdf d
   have V:=Z.some d;refine Zz 12 ?_;refine K_ (ι:={y:Nat×List Str×Value×Hp // y.1≤List.length L∧List.length y.2.1≤y.1∧zR 9 1 ak_ y.2.2.1 y.2.1 y.2.2.2}) (fun y=>[(2,y.1.2.2.1),(3,.int .i64 0),(5,zp_ P 0),(6,.int .i64 (mo:Int)),(7,.slice lad (List.length L) lcap),(26,.int .i64 (List.length (aT_ (List.map (fun p:Str×Nat=>p.1) ks)):Int)),(27,.int .i64 (i:Int)),(42,.slice lad (List.length L) lcap),(43,.int .i64 (List.length L:Int)),(44,.int .i64 (y.1.1:Int))]) (fun y=>((P,.cells #[.slice rad (List.length (aT_ (List.map (fun p:Str×Nat=>p.1) ks))) K,.slice J (List.length X) F] 103 (0,0))::y.1.2.2.2)) (fun y=>[ai_ lad (List.flatMap fz_ L),ai_ rad (List.flatMap ak_ (aT_ (List.map (fun p:Str×Nat=>p.1) ks))),ai_ J (List.flatMap Grw.cells X),hN_ X]) (fun y=>List.length L - y.1.1) ⟨((0:Nat),([]:List Str),(.slice none 0 0),[]),by simp,zj_,(ax_.nil _ _)⟩ zl d_ zh ?_;rintro ⟨⟨k,C,sv_RC,H_RC⟩,a4,hCl,e⟩;dsimp only at a4 hCl e ⊢;refine Zi 2 (fun B=>?_) fun B=>?_
   ·refine Zz 14 ?_
    refine bn_ e H_ fun cad ccap a3 hccad hmcad hzcad=>?_;exact kK_ Tryz.results30 ⟨(_,60),.inr ⟨rfl,hG.circ.2 V.1⟩⟩ (fG_ rfl a3) rfl rfl f_ zt
   have H:k<List.length L:=by omega
   obtain⟨O,b1⟩:∃ E,L[k]? = some E:=⟨_,List.getElem?_eq_getElem H⟩;have Y:O∈L:=List.mem_of_getElem? b1;have hzb:=V.2.1 O Y;rw[a9]at hzb;have hcs_1:=V.2.2;have a6:(Int.toNat O)<List.length (aT_ (List.map (fun p:Str×Nat=>p.1) ks)):=by omega
   obtain⟨rz,hrz⟩:∃ E,(aT_ (List.map (fun p:Str×Nat=>p.1) ks))[(Int.toNat O)]? = some E:=⟨_,List.getElem?_eq_getElem a6⟩;have hmrz:rz∈(aT_ (List.map (fun p:Str×Nat=>p.1) ks)):=List.mem_of_getElem? hrz;refine Zz 22 ?_;refine X_ n_ I_ az_ rfl rfl rfl rfl rfl rfl fun b_2=>?_;refine am_ (news:=List.flatMap ak_ [rz]) cP_ e rfl rfl zp rfl (aR_ 0 rfl) (fun u hu=>aE_ cm_ hu) zo_ zr_ rfl fun b0 a0 N=>?_;refine C_ List.perm_append_comm ?_;have a8:=zsa N;refine Zz 8 ?_;exact x_ ⟨(k+1,(C++[rz]),b0,a0),H,zat_,a8⟩ zb_ zl (l_ (c_ d_) H_) zh
  replace d:=zdt d;refine Zz 8 ?_;exact kK_ Tryz.results30 ⟨(.slice none 0 0,0),.inl ⟨rfl,fun q=>by obtain⟨n,hn⟩:=hG.circ.1 q;exact iE_.none (by have a7:=Z;rw[d,show i=List.length (List.map Grw.st X) from za_]at a7;exact a7) n hn⟩⟩ rfl rfl rfl f_ zt
 have A:i<List.length (aT_ (List.map (fun p:Str×Nat=>p.1) ks)):=by omega
 obtain⟨R,d⟩:∃ E,(aT_ (List.map (fun p:Str×Nat=>p.1) ks))[i]? = some E:=⟨_,List.getElem?_eq_getElem A⟩;have hmr_1:R∈(aT_ (List.map (fun p:Str×Nat=>p.1) ks)):=List.mem_of_getElem? d;refine Zz 19 ?_;refine j_ (wH_ (aT_ (List.map (fun p:Str×Nat=>p.1) ks)) rad K X J F i mo za_ za_ hG.to za_ (fun z hz=>by have:=a1 z hz;omega) (by have:=Z.most;omega)) rfl f_ zf rfl fun⟨⟨M,Q,a2⟩,I,U,T,W⟩=>?_;dsimp only;dsimp only at I U T W;refine Zz 6 ?_;refine G_ (ty_ (ad:=Q) Tryz.underlying107 rfl rfl) rfl fun r_2 B=>Zz 2 ?_
 cases r_2
 ·refine Zz 8 ?_
  exact x_ ⟨(i+1,mo,L,lad,lcap),A,(Z.skip (by have q:=I;rw[show Q=none from by simpa using B]at q;exact q))⟩ zb_ zl d_ (fun _ _ h=>h.2)
 refine Zz 14 ?_;exact x_ ⟨(i+1,(List.length M),M,Q,a2),A,(Z.take I zW_)⟩ zb_ zl d_ zf
end Go.Proofs.YtpbnmnfdgckaiaaGreatDoor
namespace Go.Sx
open Go Go.Vs
theorem no_ {α β:Type} (f:α→β):∀ (l:List α) (i:Nat),(l.eraseIdx i).map f=(l.map f).eraseIdx i
  | [],_=>rfl
  | _::_,0=>rfl
  | x::l,i+1=>by simp only[List.eraseIdx_cons_succ,List.map_cons];rw[no_ f l i]
structure StM where
  es:Array MapEntry
  c:Nat
  ks:List Str
  hE:SetE str es ks
  hB:Born es c
def StM.add (s:StM) (k:Str):StM:=if h:k∈s.ks then s else ⟨s.es.push ⟨str k,.bool true,s.c⟩,s.c+1,s.ks++[k],s.hE.push h s.c,s.hB.push _ _⟩
theorem StM.mem {s:StM} {k n:Str}:n∈(s.add k).ks↔n∈s.ks∨n=k:=by
 unfold StM.add
 split
 ·rename_i h
  exact⟨.inl,fun q=>q.elim id fun e=>e▸h⟩
 simp
theorem StM.len {s:StM} {k:Str}:(s.add k).ks.length≤s.ks.length+1:=by
  unfold StM.add
  split<;>simp
section
variable {P:Program} {N:Nat} {v0:Vw} {H0:Hp} {R:Exit→Act→World→Prop} {Kk:List Kt} {fr:Fr} {H:Hp} {Γ:List Fct}
variable {ops:Array Oper} {lo:List Oper} {d:Nat} {ty:TypeId} {ps:String} {af:Array Edge}
theorem hg_ {t h G:TypeId} {x y:Operand} {b c i:Nat} {es:Array MapEntry} {e u:Value} (F:∀ w,(underlying t).run P w=.ok (.map h G) w) (E:Fr.ev fr x=some (.map (some b))) (C:Fr.ev fr y=some e) (n:Nat)
    (hi:H[n]? = some (b,.map es c)) (hk:hb_ P h e) (A:dq_ P h e es.toList (some (i,u))):Yld P N fr H Γ (.lookup t x y true) ty (.tuple #[u,.bool true]) :=
  fun a v q I J _ _ _=>by
    have B:=MapKept.run_getObj_map (P:=P) (I.own _ (List.mem_of_getElem? hi)).1;simp[execOp,q.ev E,q.ev C,Instr.lookup,F,B,hk _ _,A _]
theorem ry_ {t h A:TypeId} {x y:Operand} {b c:Nat} {es:Array MapEntry} {e z:Value} (I:∀ w,(underlying t).run P w=.ok (.map h A) w) (C:∀ w,(zeroValue A).run P w=.ok z w) (G:Fr.ev fr x=some (.map (some b))) (F:Fr.ev fr y=some e) (n:Nat)
    (hi:H[n]? = some (b,.map es c)) (hk:hb_ P h e) (B:dq_ P h e es.toList none):Yld P N fr H Γ (.lookup t x y true) ty (.tuple #[z,.bool false]) :=
  fun a v q J K _ _ _=>by
    have E:=MapKept.run_getObj_map (P:=P) (J.own _ (List.mem_of_getElem? hi)).1;simp[execOp,q.ev G,q.ev F,Instr.lookup,I,E,hk _ _,B _,C]
theorem ht_ {Fc:Fence} {J:Nat} {D:List Deferred} {o:Op} {t V Z:TypeId} {x y z:Operand} {b:Nat} (hF:Opn Fc) (n:Nat) (s:StM) {k:Str} (q:KeyT P V str) (E:o=.insert t x y z∨o=.mapUpdate t x y z) (U:∀ w,(underlying t).run P w=.ok (.map V Z) w)
    (L:Fr.ev fr x=some (.map (some b))) (K:Fr.ev fr y=some (str k)) (O:Fr.ev fr z=some (.bool true)) (hi:H[n]? = some (b,.map s.es s.c))
    (G:fC_ Fc J P R N D v0 H0 ops lo Kk fr (H.set n (b,.map (s.add k).es (s.add k).c)) Γ):fC_ Fc J P R N D v0 H0 ops (⟨none,o,ty,ps,af,none⟩::lo) Kk fr H Γ :=
  ee_ (by rfl) fun a v h I h3 h4=>by
    refine⟨fun f _=>hF.fn f,?_⟩;rw[semAt_eq (by rcases E with rfl|rfl<;>rfl)];have C:=(I.own _ (List.mem_of_getElem? hi)).1;have T:=MapKept.run_getObj_map (P:=P) C;have B:=MapKept.run_setObj_map (P:=P) (.map (s.add k).es (s.add k).c) C
    have he:(execOp (Act.eval ⟨a.tmps,[]⟩) ⟨none,o,ty,ps,af,none⟩).run P v.w=.ok .skip { v.w with heap:=v.w.heap.setIfInBounds b (.map (s.add k).es (s.add k).c) }:=by
      by_cases hk:k∈s.ks
      · have F:s.add k=s:=by unfold StM.add;rw[dif_pos hk]
        rw[F]at B ⊢;obtain⟨i,e,M,A,Q,W,Y⟩:=s.hE.yes q hk;have X:=ir_ A Q W;rcases E with rfl|rfl<;>simp[execOp,h.sat.ev L,h.sat.ev K,h.sat.ev O,Instr.mapUpdate,U,T,q.ok _ _ _,Y _,B,Instr.keyThatStays,A,Q,q.same,X]
      · have F:s.add k=⟨s.es.push ⟨str k,.bool true,s.c⟩,s.c+1,s.ks++[k],s.hE.push hk s.c,s.hB.push _ _⟩:=by unfold StM.add;rw[dif_neg hk]
        rw[F]at B ⊢;dsimp only at B ⊢;have hf:=s.hE.no q hk;rcases E with rfl|rfl<;>simp[execOp,h.sat.ev L,h.sat.ev K,h.sat.ev O,Instr.mapUpdate,U,T,q.ok _ _ _,hf _,B]
    rw[show a.eval=Act.eval ⟨a.tmps,[]⟩ from rfl,he];have S:=MapKept.heap_set (o':=.map (s.add k).es (s.add k).c) C;obtain⟨M,A⟩:=eG_ (w':={ v.w with heap:=v.w.heap.setIfInBounds b (.map (s.add k).es (s.add k).c) }) I hi rfl rfl rfl (Nat.le_refl _) zj_ S.1 (fun k hk=>S.2 k hk);exact G _ _ h M (h3.trans A) (an_ (A.le I) h4)
theorem qD_ {N:Nf} {t L et:TypeId} {x y:Operand} {b:Nat} {F:Option Nat} (n:Nat) {es:Array MapEntry} {c:Nat} {ks:List Str} {k:Str} (J:KeyT P L str) (hu:∀ w,(underlying t).run P w=.ok (.map L et) w)
    (C:Fr.ev fr x=some (.map (some b))) (Y:Fr.ev fr y=some (str k)) (hi:H[n]? = some (b,.map es c)) (hE:SetE str es ks) (hB:Born es c) (hd:F=none)
    (V:∀ h,SetE str h (ks.filter fun q=>decide (q≠k))→Born h c→Ops P R N v0 H0 ops lo Kk fr (H.set n (b,.map h c)) Γ):Ops P R N v0 H0 ops (⟨F,.call ⟨.builtin .delete,#[x,y],#[t,L]⟩,ty,ps,af,none⟩::lo) Kk fr H Γ :=
  co_ rfl fun a v E W h3 h4=>by
    subst hd;have G:=(W.own _ (List.mem_of_getElem? hi)).1;have hg:=MapKept.run_getObj_map (P:=P) G
    obtain⟨h,U,M,Q⟩:∃ h,(execOp a.eval ⟨none,.call ⟨.builtin .delete,#[x,y],#[t,L]⟩,ty,ps,af,none⟩).run P v.w=.ok (.value (.tuple #[])) { v.w with heap:=v.w.heap.setIfInBounds b (.map h c) }∧SetE str h (ks.filter fun q=>decide (q≠k))∧Born h c:=by
      by_cases hk:k∈ks
      · obtain⟨i,e,I,K,g3,g4,g5⟩:=hE.yes J hk
        have T:i<es.size:=by
          have:=(Array.getElem?_eq_some_iff.1 K).1;exact this
        have A:(es.eraseIdxIfInBounds i).toList=es.toList.eraseIdx i:=by
          unfold Array.eraseIdxIfInBounds;rw[dif_pos T];simp
        have X:=MapKept.run_setObj_map (P:=P) (.map (es.eraseIdxIfInBounds i) c) G
        have B:ks.eraseIdx i=ks.filter fun q=>decide (q≠k):=by
          have h9:ks.erase k=ks.filter (fun q=>q != k):=hE.nd.erase_eq_filter k
          have h8:ks.erase k=ks.eraseIdx i:=by
            have O:=(List.getElem?_eq_some_iff.1 I).1;rw[List.erase_eq_eraseIdx_of_idxOf (i:=i)];have e1:=(List.getElem?_eq_some_iff.1 I).2;rw[← e1];exact hE.nd.idxOf_getElem i O
          rw[← h8,h9]
          congr 1
          funext q
          by_cases S:q=k<;>simp[S]
        refine⟨es.eraseIdxIfInBounds i,?_,⟨?_,fun x C=>?_,?_⟩,⟨fun x C=>?_,?_⟩⟩
        · simp[execOp,resolve,invoke,builtin,E.ev C,E.ev Y,Builtin.delete_,hu,hg,J.ok _ _ _,g5 _,X,Result.andThen]
        · rw[A,← B,no_,no_,hE.keys]
        · rw[A]at C;exact hE.vals x ((List.eraseIdx_sublist _ _).subset C)
        · exact hE.nd.filter _
        · rw[A]at C;exact hB.lt x ((List.eraseIdx_sublist _ _).subset C)
        · rw[A];exact hB.nd.sublist ((List.eraseIdx_sublist _ _).map _)
      · have X:=MapKept.run_setObj_map (P:=P) (.map es c) G
        have hf:=hE.no J hk
        have B:(ks.filter fun q=>decide (q≠k))=ks:=List.filter_eq_self.2 fun q S=>by
          have:q≠k:=fun e=>hk (e▸S)
          simpa using this
        refine⟨es,?_,by rw[B];exact hE,hB⟩;simp[execOp,resolve,invoke,builtin,E.ev C,E.ev Y,Builtin.delete_,hu,hg,J.ok _ _ _,hf _,X,Result.andThen]
    unfold Oper.wp;rw[U];have Z:=MapKept.heap_set (o':=.map h c) G;obtain⟨I,K⟩:=eG_ (w':={ v.w with heap:=v.w.heap.setIfInBounds b (.map h c) }) W hi rfl rfl rfl (Nat.le_refl _) zj_ Z.1 (fun k hk=>Z.2 k hk);exact V h M Q a _ E I (h3.trans K) (an_ (K.le W) h4)
end
end Go.Sx
namespace Go.Vs
open Go Go.Sx
def Con.nds:Con→List Con
  | .mk k nm lo hi ad cap ps=>.mk k nm lo hi ad cap ps::ndsL ps
where ndsL:List Con→List Con
  | []=>[]
  | p::ps=>nds p++ndsL ps
theorem ta_:∀ ps:List Con,Con.nds.ndsL ps=ps.flatMap Con.nds
  | []=>rfl
  | p::ps=>by rw[Con.nds.ndsL,ta_ ps,List.flatMap_cons]
theorem Con.nds_eq (c:Con):c.nds=c::c.parts.flatMap Con.nds:=by cases c;rw[Con.nds,ta_];rfl
theorem sZ_:∀ (n:Nat) (c:Con),c.sz≤n→c.nds.length≤c.sz
  | 0,c,h=>by have:=c.sz_pos;omega
  | n+1,c,h=>by
    have e:∀ ps:List Con,(∀ p∈ps,p.nds.length≤p.sz)→(ps.flatMap Con.nds).length≤Con.sz.szs ps:=by
      intro ps
      induction ps with
      | nil=>intro _;simp[Con.sz.szs]
      | cons p ps ih =>
        intro d;rw[List.flatMap_cons,List.length_append,Con.sz.szs];have A:=d p zj_;have y:=ih fun q x=>d q (by simp[x])
        omega
    rw[Con.nds_eq,List.length_cons,Con.sz_eq];have:=e c.parts fun p d=>sZ_ n p (by have:=Con.sz_part d;omega)
    omega
def Con.nms (k:Int) (c:Con):List Str:=(c.nds.filter fun x=>decide (x.kind=k)).map Con.name
theorem Con.nms_eq (k:Int) (c:Con):c.nms k=(if c.kind=k then [c.name] else [])++c.parts.flatMap (Con.nms k):=by
 unfold Con.nms;rw[Con.nds_eq,List.filter_cons]
 have d:∀ ps:List Con,((ps.flatMap Con.nds).filter fun x=>decide (x.kind=k)).map Con.name=ps.flatMap fun c=>(c.nds.filter fun x=>decide (x.kind=k)).map Con.name:=by
   intro ps
   induction ps with
   | nil=>rfl
   | cons p ps ih=>rw[List.flatMap_cons,List.filter_append,List.map_append,ih,List.flatMap_cons]
 by_cases h:c.kind=k
 ·rw[if_pos zK_,if_pos h,List.map_cons,d];rfl
 rw[if_neg zK_,if_neg h,d];rfl
theorem Con.nms_len (k:Int) (c:Con):(c.nms k).length≤c.sz:=by
  unfold Con.nms;rw[List.length_map];exact Nat.le_trans (List.length_filter_le _ _) (sZ_ _ c (Nat.le_refl _))
theorem oD_:∀ (n:Nat) (c:Con),c.sz≤n→c.check=0→∀ x∈c.nds,x.check=0
 | 0,c,h,_=>by have:=c.sz_pos;omega
 | n+1,c,h,hc=>by
   intro x d;rw[Con.nds_eq,List.mem_cons,List.mem_flatMap]at d;rcases d with rfl|⟨p,e,d⟩
   · exact hc
   · exact oD_ n p (by have:=Con.sz_part e;omega) (Con.check_part hc e) x d
structure W2I (l:List Str) (s:Str) (i:Nat) (R:List Str) (dn:Bool):Prop where
  no:dn=false→R=l.take i∧∀ x∈l.take i,x<s
  yes:dn=true→R++l.drop i=uK_ l s
theorem tk1 {α:Type} {l:List α} {i:Nat} {x:α} (h:l[i]? = some x):l.take (i+1)=l.take i++[x]:=by rw[List.take_add_one,h];rfl
theorem tl_ {α:Type} {l:List α} {i:Nat} {x:α} (h:l[i]? = some x):l.drop i=x::l.drop (i+1):=by
  obtain⟨hi,rfl⟩:=List.getElem?_eq_some_iff.1 h;exact List.drop_eq_getElem_cons hi
theorem W2I.t {l:List Str} {s x:Str} {i:Nat} {R:List Str} (h:W2I l s i R true) (d:l[i]? = some x):W2I l s (i+1) (R++[x]) true :=
  ⟨fun q=>zaH_,fun _=>by have:=h.yes rfl;rw[tl_ d]at this;rw[List.append_assoc];exact this⟩
theorem W2I.lt {l:List Str} {s x:Str} {i:Nat} {R:List Str} (h:W2I l s i R false) (hl:SrS l) (H:s≠[]) (y:l[i]? = some x) (e:s<x):W2I l s (i+1) ((R++[s])++[x]) true:=by
 obtain⟨F,E⟩:=h.no rfl;refine⟨fun q=>zaH_,fun _=>?_⟩;have hi:=(List.getElem?_eq_some_iff.1 y).1
 have hk:kS l s=i:=yQ_ za_ E fun z C=>by
   rw[y,Option.some.injEq]at C;subst C;exact fun q=>List.lt_irrefl _ (List.lt_trans q e)
 have G:s ∉ l:=fun B=>by
   have A:s∈l.take i∨s∈l.drop i:=by rw[← List.mem_append,List.take_append_drop];exact B
   rcases A with q|q
   · exact List.lt_irrefl _ (E s q)
   · rw[tl_ y]at q
     rcases List.mem_cons.1 q with rfl|q
     · exact List.lt_irrefl _ e
     · have d:SrS (l.drop i):=hl.sublist (List.drop_sublist _ _)
       rw[tl_ y]at d;exact List.lt_irrefl _ (List.lt_trans ((List.pairwise_cons.1 d).1 s q) e)
 rw[tB_ H G,hk,F,tl_ y];simp
theorem qY_ {σ τ:Type} (f:Con→σ→σ):∀ (n:Nat) (c:Con),c.sz≤n→∀ s:σ,Con.fold (fun x s=>(.inl (f x s):σ ⊕ τ)) c s=.inl (c.nds.foldl (fun s x=>f x s) s)
  | 0,c,h=>by have:=c.sz_pos;omega
  | n+1,c,h=>fun s=>by
    rw[Con.fold_eq,Con.nds_eq,List.foldl_cons];dsimp only
    have e:∀ (ps:List Con),(∀ p∈ps,p.sz≤n)→∀ s:σ,Con.fold.folds (fun x s=>(.inl (f x s):σ ⊕ τ)) ps s=.inl ((ps.flatMap Con.nds).foldl (fun s x=>f x s) s):=by
      intro ps
      induction ps with
      | nil=>intro _ s;rfl
      | cons p ps ih =>
        intro d s;rw[Con.fold.folds,qY_ f n p (d p zj_) s];dsimp only;rw[ih (fun q y=>d q (by simp[y])),List.flatMap_cons,List.foldl_append]
    exact e c.parts (fun p d=>by have:=Con.sz_part d;omega) _
end Go.Vs
namespace Go.Sx
open Go
section
variable {P:Program} {v0:Vw} {H0:Hp} {R:Exit→Act→World→Prop} {K:List Kt} {fr:Fr} {H:Hp} {Γ:List Fct}
def mks (Ds:List Nat):List Deferred:=Ds.map fun D=>{ target:=.collected D,args:=#[] }
def mkH (Ds:List Nat):Hp:=Ds.map fun D=>(D,.deferred (some []))
def wX_ {ι:Type} (N:ι→Nf) (v0:Vw) (H0:Hp) (frs:ι→Fr) (Hs:ι→Hp) (Γs:ι→List Fct) (μ:ι→Nat) (n:Nat) (a:Act) (w:World):Prop :=
  ∃ j v,v.w=w∧Fr.sat (N j) (frs j) a∧v.sat (Hs j)∧v0.to H0 v (Hs j)∧ac_ (Γs j) v∧μ j<n
theorem kG_ {ι:Type} {c:Code} {C:Nf} (N:ι→Nf) (d:ι→Fr) (Hs:ι→Hp) (y:ι→List Fct) (μ:ι→Nat) (x:ι) {F:Hp} (B:Fr.le (d x) fr) (E:H.Perm (Hs x++F)) (S:∀ v,v.sat H→ac_ Γ v→ac_ (y x) v)
    (h:∀ i,Run P R (N i) v0 H0 c (.inv (wX_ N v0 H0 d Hs y μ (μ i))::K) (d i) (Hs i) (y i)) (L:C=N x:=by rfl):Run P R C v0 H0 (.loop c) K fr H Γ:=by
  subst L;refine bJ_ _ B (dN_ E S ?_);intro a v Q Y X U;refine wp_loop_ghost (fun n a w=>∃ i v,v.w=w∧Fr.sat (N i) (d i) a∧v.sat (Hs i)∧v0.to H0 v (Hs i)∧ac_ (y i) v∧μ i=n) (μ x) ⟨x,v,rfl,Q,Y,X,U,rfl⟩ ?_;rintro n a w ⟨i,v,rfl,M,W,T,G,rfl⟩;refine wp_mono (h i a v M W T G) fun e Z w' q=>?_;cases e with
  | normal =>
    obtain⟨j,O,V,k1,k2,I,J,A⟩:=q;exact⟨μ j,A,j,O,V,k1,k2,I,J,rfl⟩
  | exit id=>exact q
  | goto l=>exact q
  | ret=>exact q
  | panic ch=>exact q
  | outgrown=>exact q
theorem iM_ {ι:Type} {q:Nf} {N:ι→Nf} {d:ι→Fr} {Hs:ι→Hp} {h:ι→List Fct} {μ:ι→Nat} {n:Nat} (j:ι) {F:Hp} (B:μ j<n) (e:Fr.le (d j) fr) (x:H.Perm (Hs j++F))
    (A:∀ v,v.sat H→ac_ Γ v→ac_ (h j) v) (G:q=N j:=by rfl):Ok q v0 H0 (wX_ N v0 H0 d Hs h μ n) fr H Γ:=by
  subst G;exact bJ_ (d j) e (dN_ x A fun _ v y I E C=>⟨j,v,rfl,y,I,E,C,B⟩)
variable {N:Nat} {Ds:List Nat}
theorem retMs {fn:Func} {ι:Type} {G:Hp} {ret:ι→Value} {H':ι→Hp} {Γ':ι→List Fct} (x:ι) (O:∀ (a:Act) (v:Vw),Fr.sat (⟨N,mks Ds⟩:Nf) fr a→v.sat G→ac_ Γ v→(results fn a.tmps).run P v.w=.ok (ret x) v.w) (F:H.Perm (mkH Ds++G))
    (L:∃ B,G.Perm (H' x++B)) (Q:∀ v,v.sat G→ac_ Γ v→ac_ (Γ' x) v):Ok ⟨N,mks Ds⟩ v0 H0 (bodyPostM Fence.wide 0 P fn (kz_ v0 H0 ret H' Γ') .ret) fr H Γ:=by
  intro a v J V U S;show LeavesInM Fence.wide 0 P fn a.tmps _ a.defers .returning v.w
  rw[J.defers];obtain⟨B,q⟩:=L
  have C:∀ (e:List Nat) (d:Vw),d.sat (mkH e++G)→v0.to H0 d (mkH e++G)→ac_ Γ d→LeavesInM Fence.wide 0 P fn a.tmps (kz_ v0 H0 ret H' Γ') (mks e) .returning d.w:=by
    intro e
    induction e with
    | nil =>
      intro d k1 k2 A
      exact⟨ret x,O a d J k1 A,x,d,rfl,rfl,(Vw.sat.perm k1 q).sub,Q d k1 A,k2.subR fun b h=>by
        have:b∈(H' x++B).map Prod.fst:=by rw[List.map_append];exact List.mem_append_left _ h
        exact (q.map Prod.fst).mem_iff.2 this⟩
    | cons D e ih =>
      intro d k1 k2 A;have hl:=(k1.own (D,.deferred (some [])) List.mem_cons_self).1;have y:d.sat ((D,.deferred (some []))::(mkH e++G)):=k1;obtain⟨E,I⟩:=eH_ (o':=.deferred none) y;have M:(⟨d.im,d.w.putObj D (.deferred none),d.sl⟩:Vw).sat (mkH e++G):=⟨fun p T=>E.own p (List.mem_cons_of_mem _ T),by have:=E.nodup;rw[List.map_cons,List.nodup_cons]at this;exact this.2,E.lt⟩;exact⟨by simp,.inl ⟨D,_,rfl,run_takeDeferred hl,ih ⟨d.im,_,d.sl⟩ M ((k2.trans I).subR fun b h=>List.mem_cons_of_mem _ h) (an_ (I.le y) A)⟩⟩
  exact C Ds v (V.perm F) (U.subR fun b h=>(F.map Prod.fst).mem_iff.2 h) S
theorem rL_ {σ α:Type} {g:Operand} {Z:Nat} {assign body:Code} {M:FuncId} {caps:List Value} {Hj:σ→Hp} {Hc:Hp} {Γx:α→List Fct} {Γi:List Fct} {xv:α→Value} {good:α→Prop} {stp:α→σ→σ ⊕ Empty}
    (W:σ) (res:σ ⊕ Empty) (hg:Fr.ev fr g=some (.func (.func M) #[] caps.toArray)) (hH:H.Perm (Hc++Hj W)) (S:∀ v,v.sat H→ac_ Γ v→ac_ Γi v)
    (B:∀ l D (d:Loop),d.params=#[Z]→d.state=.ready→d.pending=none→Fr.sat N fr ⟨d.tmps,[]⟩→d.assign=assign→d.body=body→∀ s x,good x →
      jc_ P l (xv x) (Hj s++HLp l D d) (Γx x) (fun _:Unit=>.bool (stp x s).isLeft) (fun _=>nC_ (fun s'=>Hj s'++HLp l D d) (fun _=>HLp l D { d with state:=.done,pending:=some .ret }) (stp x s)) (fun _=>[]))
    (V:∀ l (Gj:σ→Hp) (Gx:Empty→Hp),(∀ s x,good x→jc_ P l (xv x) (Gj s) (Γx x) (fun _:Unit=>.bool (stp x s).isLeft) (fun _=>nC_ Gj Gx (stp x s)) (fun _=>[])) →
      Tri P M (.func (.yield l) #[] #[]::caps).toArray (Hc++Gj W) Γi (fun _:Unit=>.tuple #[]) (fun _=>Hc++nC_ Gj Gx res) (fun _=>[]))
    (C:∀ s',res=.inl s'→∀ D l r,Fin P R ⟨N,mks (D::Ds)⟩ v0 H0 K fr (Hc++Hj s'++HLp l D r) Γ) :
    Run P R ⟨N,mks Ds⟩ v0 H0 (.rangeFunc g #[Z] assign body) K fr H Γ:=by
  intro a v G L h3 h4;refine wpIn_wide (n:=0) |>.1 (wpIn_mono (Q:=ej_ Fence.wide 0 P R K) (wpIn_rangeFunc fun fn _=>?_) fun e a w hq=>bk_ K e a w hq)
  obtain⟨a1,a2⟩:=fE_ (w':=v.w.alloc (.deferred (some []))) (o:=.deferred (some [])) L rfl rfl rfl rfl (Nat.le_refl _);obtain⟨d,y⟩:∃ d:Loop,d={ state:=.ready,pending:=none,fn,tmps:=a.tmps,params:=#[Z],assign,body,defers:=v.w.heap.size }:=⟨_,rfl⟩;obtain⟨b1,b2⟩:=fE_ (w':=(v.w.alloc (.deferred (some []))).alloc (.loop d)) (o:=.loop d) a1 rfl rfl rfl rfl (Nat.le_refl _);have I:(v.w.alloc (Obj.deferred (some []))).heap.size=v.w.heap.size+1:=by simp
  have T:(⟨v.im,(v.w.alloc (.deferred (some []))).alloc (.loop d),v.sl⟩:Vw).sat ((v.w.heap.size+1,.loop d)::(v.w.heap.size,.deferred (some []))::H):=I▸b1;have F:v.to H ⟨v.im,(v.w.alloc (.deferred (some []))).alloc (.loop d),v.sl⟩ ((v.w.heap.size+1,.loop d)::(v.w.heap.size,.deferred (some []))::H):=a2.trans (I▸b2)
  have A:((v.w.heap.size+1,Obj.loop d)::(v.w.heap.size,.deferred (some []))::H).Perm (Hc++(Hj W++HLp (v.w.heap.size+1) v.w.heap.size d)):=by
    rw[← List.append_assoc];exact (List.perm_append_comm (l₁:=HLp (v.w.heap.size+1) v.w.heap.size d) (l₂:=H)).trans (hH.append_right _)
  have hT:=V (v.w.heap.size+1) (fun s=>Hj s++HLp (v.w.heap.size+1) v.w.heap.size d) (fun _=>HLp (v.w.heap.size+1) v.w.heap.size { d with state:=.done,pending:=some .ret })
    (B _ _ d zaz_ zaz_ zaz_ (by rw[y];exact⟨G.size,rfl,G.val⟩) zaz_ zaz_)
  have hΓ2:=an_ (F.le L) (S v L h4);have hΓ3:=an_ (F.le L) h4;have he:=G.ev hg;refine⟨v.w.heap.size+1,nX_ v.w.heap.size,(v.w.alloc (.deferred (some []))).alloc (.loop d),⟨.fn (.func M) caps.toArray,#[.func (.yield (v.w.heap.size+1)) #[] #[]]⟩,(v.w.alloc (.deferred (some []))).alloc (.loop d),M,(.func (.yield (v.w.heap.size+1)) #[] #[]::caps).toArray,_,?_,?_,fun _ _=>trivial,?_,fun h=>(by cases h),callsIn_wide.2 ((hT.run ⟨v.im,_,v.sl⟩ (T.perm A) hΓ2).mono ?_)⟩
  · rw[y];exact run_enterLoop_outer _ _ _ _ _
  · simp only[resolve,rangeCall,List.map_toArray,List.map_cons,List.map_nil,he,Deferred.ofValue]
    rfl
  · have:=hT.callable (.func (.yield (v.w.heap.size+1)) #[] #[]::caps).toArray ((v.w.alloc (.deferred (some []))).alloc (.loop d))
    simpa [invoke] using this
  · rintro e w' ⟨_,v',rfl,rfl,g1,g2,g3⟩
    have J:=F.trans (g3.permL A.symm);have U:=an_ (J.le L) h4;have hsd:∀ D,Fr.sat ⟨N,mks (D::Ds)⟩ fr { a with defers:=nX_ D++a.defers }:=fun D=>⟨G.size,by show nX_ D++a.defers=_;rw[G.defers];rfl,G.val⟩
    have E:∀ (X Y:Hp) r,(Y++(X++HLp (v.w.heap.size+1) v.w.heap.size r)).Perm ((v.w.heap.size+1,.loop r)::(Y++X++[(v.w.heap.size,.deferred (some []))])):=fun X Y r=>by
      unfold HLp;rw[← List.append_assoc];exact List.perm_middle
    cases res with
    | inl s' =>
      have q:=g1.perm (E (Hj s') Hc d);have hl:=(q.own _ List.mem_cons_self).1;obtain⟨z1,z2⟩:=eH_ (o':=.loop { d with state:=.exhausted }) q
      have zp:((v.w.heap.size+1,Obj.loop { d with state:=.exhausted })::(Hc++Hj s'++[(v.w.heap.size,.deferred (some []))])).Perm (Hc++Hj s'++HLp (v.w.heap.size+1) v.w.heap.size { d with state:=.exhausted }):=by
        have:=(E (Hj s') Hc { d with state:=.exhausted }).symm;rw[← List.append_assoc]at this;exact this
      refine⟨d.pending,_,run_endLoop hl (by rw[y];simp),?_⟩;have O:d.pending=none:=by rw[y]
      split
      case h_2=>rename_i c hc;rw[O]at hc;cases hc
      exact bM_ K .normal _ _ (C s' rfl _ _ _ _ ⟨v'.im,_,v'.sl⟩ (hsd _) (z1.perm zp) (h3.trans (J.trans ((z2.permL (E _ _ _).symm).subR fun b hb=>(zp.map Prod.fst).mem_iff.2 hb))) (an_ (z2.le q) U))
    | inr t=>exact nomatch t
end
end Go.Sx
namespace Go.Vs
open Go Go.Sx
def Ax.vc (k:Int) (x:Ax):List Str:=x.left.nms k++x.right.nms k++(if k=6 then x.roles++[x.role] else [])++(if k=4 then [x.a,x.b] else [])
def vcL (k:Int) (l:List Ax):List Str:=l.flatMap (Ax.vc k)
theorem uM_ {k:Int} {l:List Ax} {i:Nat} {x:Ax} (h:l[i]? = some x):vcL k (l.take (i+1))=vcL k (l.take i)++x.vc k:=by
  unfold vcL;rw[List.take_add_one,h,List.flatMap_append];simp
def StM.nil:StM:=⟨#[],0,[],SetE.nil,Born.nil 0⟩
structure VI (s:StM) (D:List Str):Prop where
  mem:∀ n,n∈s.ks↔n∈D
  len:s.ks.length≤D.length
theorem VI.add {s:StM} {D:List Str} (h:VI s D) (k:Str):VI (s.add k) (D++[k]) :=
  ⟨fun n=>by rw[StM.mem,h.mem];simp,by have:=StM.len (s:=s) (k:=k);have:=h.len;rw[List.length_append];simp;omega⟩
theorem VI.cg {s:StM} {D E:List Str} (h:VI s D) (e:D=E):VI s E:=e▸h
abbrev S4:=StM×StM×StM×StM
def eo_ (x:Con) (s:S4):S4:=if x.kind=3 then (s.1.add x.name,s.2) else if x.kind=6 then (s.1,s.2.1.add x.name,s.2.2) else if x.kind=7 then (s.1,s.2.1,s.2.2.1.add x.name,s.2.2.2) else if x.kind=4 then (s.1,s.2.1,s.2.2.1,s.2.2.2.add x.name) else s
structure V4 (s:S4) (D:Int→List Str):Prop where
  c:VI s.1 (D 3)
  r:VI s.2.1 (D 6)
  f:VI s.2.2.1 (D 7)
  i:VI s.2.2.2 (D 4)
theorem V4.nil:V4 (StM.nil,StM.nil,StM.nil,StM.nil) (fun _=>[]):=⟨⟨fun n=>by simp[StM.nil],by simp[StM.nil]⟩,⟨fun n=>by simp[StM.nil],by simp[StM.nil]⟩,⟨fun n=>by simp[StM.nil],by simp[StM.nil]⟩,⟨fun n=>by simp[StM.nil],by simp[StM.nil]⟩⟩
theorem V4.cg {s:S4} {D E:Int→List Str} (h:V4 s D) (e:∀ k,D k=E k):V4 s E:=⟨h.c.cg (e 3),h.r.cg (e 6),h.f.cg (e 7),h.i.cg (e 4)⟩
theorem V4.put {s:S4} {D:Int→List Str} (h:V4 s D) (x:Con):V4 (eo_ x s) (fun k=>D k++if x.kind=k then [x.name] else []):=by
 unfold eo_
 split
 ·rename_i q;exact⟨(h.c.add _).cg (by rw[if_pos q]),h.r.cg (by rw[if_neg za_];simp),h.f.cg (by rw[if_neg za_];simp),h.i.cg (by rw[if_neg za_];simp)⟩
 split
 ·rename_i q;exact⟨h.c.cg (by rw[if_neg za_];simp),(h.r.add _).cg (by rw[if_pos q]),h.f.cg (by rw[if_neg za_];simp),h.i.cg (by rw[if_neg za_];simp)⟩
 split
 ·rename_i q;exact⟨h.c.cg (by rw[if_neg za_];simp),h.r.cg (by rw[if_neg za_];simp),(h.f.add _).cg (by rw[if_pos q]),h.i.cg (by rw[if_neg za_];simp)⟩
 split
 ·rename_i q;exact⟨h.c.cg (by rw[if_neg za_];simp),h.r.cg (by rw[if_neg za_];simp),h.f.cg (by rw[if_neg za_];simp),(h.i.add _).cg (by rw[if_pos q])⟩
 rename_i y A e d;exact⟨h.c.cg (by rw[if_neg y];simp),h.r.cg (by rw[if_neg A];simp),h.f.cg (by rw[if_neg e];simp),h.i.cg (by rw[if_neg d];simp)⟩
theorem V4.fold:∀ (L:List Con) {s:S4} {D:Int→List Str},V4 s D→V4 (L.foldl (fun s x=>eo_ x s) s) (fun k=>D k++(L.filter fun x=>decide (x.kind=k)).map Con.name)
  | [],s,D,h=>h.cg fun k=>by simp
  | x::L,s,D,h=>(V4.fold L (h.put x)).cg fun k=>by
    rw[List.filter_cons,List.append_assoc]
    by_cases q:x.kind=k<;>simp[q]
theorem V4.side {s:S4} {D:Int→List Str} {C:List Con} {j:Nat} {c:Con} (h:V4 s fun k=>D k++(C.take j).flatMap (Con.nms k)) (d:C[j]? = some c):V4 (c.nds.foldl (fun s x=>eo_ x s) s) (fun k=>D k++(C.take (j+1)).flatMap (Con.nms k)) :=
  (V4.fold c.nds h).cg fun k=>by
    rw[tk1 d,List.flatMap_append,List.append_assoc];simp[Con.nms]
def S4.addR (s:S4) (n:Str):S4:=(s.1,s.2.1.add n,s.2.2)
def S4.addI (s:S4) (n:Str):S4:=(s.1,s.2.1,s.2.2.1,s.2.2.2.add n)
theorem V4.addR {s:S4} {D:Int→List Str} (h:V4 s D) (n:Str):V4 (s.addR n) (fun k=>D k++if k=6 then [n] else []) :=
  ⟨h.c.cg zj_,(h.r.add n).cg zj_,h.f.cg zj_,h.i.cg zj_⟩
theorem V4.addI {s:S4} {D:Int→List Str} (h:V4 s D) (n:Str):V4 (s.addI n) (fun k=>D k++if k=4 then [n] else []) :=
  ⟨h.c.cg zj_,h.r.cg zj_,h.f.cg zj_,(h.i.add n).cg zj_⟩
theorem V4.role {s:S4} {D:Int→List Str} {L:List Str} {j:Nat} {n:Str} (h:V4 s fun k=>D k++if k=6 then L.take j else []) (d:L[j]? = some n):V4 (s.addR n) (fun k=>D k++if k=6 then L.take (j+1) else []) :=
  (h.addR n).cg fun k=>by by_cases q:k=6<;>simp[q,tk1 d]
theorem V4.axm {s:S4} {l:List Ax} {i:Nat} {x:Ax} (h:V4 s fun k=>(vcL k (l.take i)++[x.left,x.right].flatMap (Con.nms k))++if k=6 then x.roles else []) (e:l[i]? = some x):V4 (((s.addR x.role).addI x.a).addI x.b) (fun k=>vcL k (l.take (i+1))) :=
 (((h.addR x.role).addI x.a).addI x.b).cg fun k=>by
   rw[uM_ e];unfold Ax.vc
   by_cases q:k=6
   · subst q;simp
   · by_cases d:k=4
     · subst d;simp
     · simp[q,d]
theorem vc_len {x:Ax} {k:Int} (h:x.left.sz≤1000000) (d:x.right.sz≤1000000) (e:x.roles.length≤1000000):(x.vc k).length≤4000000:=by
  unfold Ax.vc;have:=Con.nms_len k x.left;have:=Con.nms_len k x.right;rw[List.length_append,List.length_append,List.length_append]
  split<;>split<;>simp<;>omega
theorem sI_ {k:Int}:∀ {l:List Ax},(∀ x∈l,x.left.sz≤1000000∧x.right.sz≤1000000∧x.roles.length≤1000000)→(vcL k l).length≤4000000*l.length
  | [],_=>by simp[vcL]
  | x::l,h=>by
    have d:=sI_ (k:=k) (l:=l) fun y e=>h y zaM_
    obtain⟨a,b,c⟩:=h x zj_;have q:=vc_len (k:=k) a b c;unfold vcL at d ⊢;rw[List.flatMap_cons,List.length_append,List.length_cons];omega
theorem gN_ {l:List Str} (hl:l.Nodup):SrS (aT_ l):=by
 have e:=fQ_ l;have d:(aT_ l).Nodup:=(List.mergeSort_perm _ _).nodup_iff.2 hl;unfold List.Nodup at d;refine List.Pairwise.imp (fun {a b} hab=>?_) (e.and d)
 by_cases g:a<b
 ·exact g
 exact absurd (List.le_antisymm hab.1 (List.not_lt.1 g)) hab.2
def kZ_ (k:Int) (l:List Ax) (Y:List Str):Prop:=SrS Y∧∀ n,n∈Y↔n∈vcL k l∧(k=6∨k=4→n≠[])
theorem kZ_.of {k:Int} {l:List Ax} {s:StM} (h:VI s (vcL k l)) (hk:k≠6∧k≠4):kZ_ k l (aT_ s.ks) :=
  ⟨gN_ s.hE.nd,fun n=>by rw[List.mem_mergeSort,h.mem];exact⟨fun q=>⟨q,fun r=>by rcases r with r|r;exact absurd r hk.1;exact absurd r hk.2⟩,fun q=>q.1⟩⟩
theorem kZ_.ofD {k:Int} {l:List Ax} {s:StM} (h:VI s (vcL k l)) (hk:k=6∨k=4):kZ_ k l (aT_ (s.ks.filter fun q=>decide (q≠[]))) :=
  ⟨gN_ (s.hE.nd.filter _),fun n=>by rw[List.mem_mergeSort,List.mem_filter,h.mem];exact⟨fun q=>⟨q.1,fun _=>by simpa using q.2⟩,fun q=>⟨q.1,by simpa using q.2 hk⟩⟩⟩
end Go.Vs
