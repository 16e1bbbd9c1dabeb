/-
  Part of the proof of the law CanonGrows over this seat: the small logic, the data, the contracts of functions (no condition).
-/
import Derived.Test.YtpbnmnfdgckaiaaGreatDoorQCanonGrows11
import Derived.Test.YtpbnmnfdgckaiaaGreatDoorQCanonGrows3
import Derived.Test.YtpbnmnfdgckaiaaGreatDoorQCanonGrows8
import Derived.Test.YtpbnmnfdgckaiaaGreatDoorQCanonGrows10
import Derived.Test.YtpbnmnfdgckaiaaGreatDoorQCanonGrows2
import Derived.Test.YtpbnmnfdgckaiaaGreatDoorQCanonGrows6
set_option linter.unusedVariables false
set_option linter.unusedSimpArgs false
set_option linter.unusedSectionVars false
set_option maxHeartbeats 1000000
namespace Go.Proofs.YtpbnmnfdgckaiaaGreatDoor
open Go Go.Sx Go.Proofs
attribute [local irreducible] Code.wp wpList wpAnyH
open Go.Vs
theorem lD_ {G:Prop} (h:G:=by
 refine u_ eg_ (Zz 14 ?_);exact y_ ⟨(k+1,(List.set (List.set M k d) (Int.toNat ((List.length L:Int) - 1 - (k:Int))) h),x,B),(by have q:=T.step K (show M[List.length L - 1 - k]? = some d from by rw[show List.length L - 1 - k=(Int.toNat ((List.length L:Int) - 1 - (k:Int))) by omega];exact v) m;rw[show List.length L - 1 - k=(Int.toNat ((List.length L:Int) - 1 - (k:Int))) by omega]at q;exact q),O,I⟩ zu_ ⟨rfl,rfl,(cl_ rfl zu_),trivial⟩ ah_ zt):G:=h
theorem ud_ (L:List Int) (sv:Value) (Hr:Hp) (Y:zR 3 1 fY_ sv L Hr) (hl:L.length≤1000000000):Tri Tryz.prog 108 #[sv] Hr [] (fun _:{H:Hp // zR 3 1 fY_ sv L.reverse H}=>.tuple #[]) (fun y=>y.1) (fun _=>[]):=by
 refine j_ Tryz.func108 rfl rfl Tryz.ntmps108 rfl fun v_1=>?_;refine Zz 3 ?_;refine e_ (dV_ Y aF_ rfl) rfl (Zz 6 ?_);refine bC_ [(0,sv),(2,.int .i64 0),(3,.int .i64 ((List.length L:Int) - 1 - ((0:Nat):Int)))] ⟨rfl,rfl,(cl_ rfl zr_),trivial⟩ ?_;refine P_ (ι:={y:Nat×List Int×Value×Hp // RevI L y.2.1 y.1∧y.2.2.1=sv∧zR 3 1 fY_ y.2.2.1 y.2.1 y.2.2.2}) (fun y=>[(0,y.1.2.2.1),(2,.int .i64 (y.1.1:Int)),(3,.int .i64 ((List.length L:Int) - 1 - (y.1.1:Int)))]) (fun y=>(y.1.2.2.2)) (fun y=>[]) (fun y=>List.length L - y.1.1) ⟨((0:Nat),L,sv,Hr),RevI.zero L,rfl,Y⟩ zl ah_ zt ?_;rintro ⟨⟨k,M,x,W⟩,T,O,e⟩;dsimp only at T O e ⊢;refine Zi 5 (fun C=>?_) fun C=>?_
 ·refine Zz 5 ?_
  have eM:=T.done C;subst eM;rw[O]at e;exact cB_ Tryz.results108 ⟨W,e⟩ rfl ah_ zt
 have K:=C;have Z:=T.len;have P:(Int.toNat ((List.length L:Int) - 1 - (k:Int)))<List.length M:=by omega
 obtain⟨d,v⟩:∃ Q,M[(Int.toNat ((List.length L:Int) - 1 - (k:Int)))]? = some Q:=⟨_,List.getElem?_eq_getElem P⟩;have X:d∈M:=List.mem_of_getElem? v;have R:k<List.length M:=by omega
 obtain⟨h,m⟩:∃ Q,M[k]? = some Q:=⟨_,List.getElem?_eq_getElem R⟩;have V:h∈M:=List.mem_of_getElem? m;refine Zz 7 ?_;refine ao_ ([]) zk ?_;refine G_ 6 [0,1,2,3,4,5,6,8,9,10] zk zs (Zz 6 ?_);refine z_ rfl (bR_ e aF_ av_ rfl rfl zr_ zr_) rfl (Zz 2 ?_);refine z_ rfl (bR_ e aF_ av_ rfl rfl zr_ zr_) rfl (aZ_ ?_);refine ct_ 7 11 rfl rfl zk ?_ ?_
 ·refine e_ (cX_ e ah_ bd_ rfl (p_ ea_ v 0 _ rfl)) rfl (Zz 3 ?_)
  refine n_ 11 rfl zk (e_ (cX_ e ah_ bd_ rfl (p_ ea_ m 0 _ rfl)) rfl (Zz 3 ?_));refine G_ 3 [12] zk zs (z_ rfl (bR_ e aF_ av_ rfl rfl zr_ zr_) rfl (aZ_ (n_ 13 rfl zk (fD_ (k:=(k:Int).toNat*1+0) e ah_ av_ rfl rfl zr_ rfl rfl fun N C=>?_))));have J:=(iS_ fY_ 1 ea_ M k 0 h d (.int .i64 d) m zx_ rfl).trans (congrArg _ (rfl));have A:aB_ 3 1 x (List.length (List.set M k d)) (List.flatMap fY_ (List.set M k d)) N:=by rw[← J,show List.length (List.set M k d)=List.length M from (List.length_set ..)];exact C
  refine u_ eg_ (Zz 3 ?_);refine n_ 14 rfl zk ?_;have G:(List.set M k d)[(Int.toNat ((List.length L:Int) - 1 - (k:Int)))]? = some d:=by rw[List.getElem?_set_ne zr_];exact v
  have S:(Int.toNat ((List.length L:Int) - 1 - (k:Int)))<List.length (List.set M k d):=by rw[List.length_set];omega
  refine e_ (bR_ A aF_ av_ rfl rfl zr_ zr_) rfl (Zz 3 ?_);refine n_ 15 rfl zk (fD_ (k:=((Int.toNat ((List.length L:Int) - 1 - (k:Int))):Int).toNat*1+0) A ah_ av_ rfl rfl zr_ rfl rfl fun B F=>?_);have E:=(iS_ fY_ 1 ea_ (List.set M k d) (Int.toNat ((List.length L:Int) - 1 - (k:Int))) 0 d h (.int .i64 h) G zx_ rfl).trans (congrArg _ (rfl));have I:aB_ 3 1 x (List.length (List.set (List.set M k d) (Int.toNat ((List.length L:Int) - 1 - (k:Int))) h)) (List.flatMap fY_ (List.set (List.set M k d) (Int.toNat ((List.length L:Int) - 1 - (k:Int))) h)) B:=by rw[← E,show List.length (List.set (List.set M k d) (Int.toNat ((List.length L:Int) - 1 - (k:Int))) h)=List.length (List.set M k d) from (List.length_set ..)];exact F
  exact lD_
 refine e_ (cX_ e ah_ bd_ rfl (p_ ea_ m 0 _ rfl)) rfl (Zz 3 ?_);refine n_ 7 rfl zk (e_ (cX_ e ah_ bd_ rfl (p_ ea_ v 0 _ rfl)) rfl (Zz 3 ?_));refine G_ 3 [12] zk zs (z_ rfl (bR_ e aF_ av_ rfl rfl zr_ zr_) rfl (aZ_ (n_ 13 rfl zk (fD_ (k:=(k:Int).toNat*1+0) e ah_ av_ rfl rfl zr_ rfl rfl fun N F=>?_))));have J:=(iS_ fY_ 1 ea_ M k 0 h d (.int .i64 d) m zx_ rfl).trans (congrArg _ (rfl));have A:aB_ 3 1 x (List.length (List.set M k d)) (List.flatMap fY_ (List.set M k d)) N:=by rw[← J,show List.length (List.set M k d)=List.length M from (List.length_set ..)];exact F
 refine u_ eg_ (Zz 3 ?_);refine n_ 14 rfl zk ?_;have G:(List.set M k d)[(Int.toNat ((List.length L:Int) - 1 - (k:Int)))]? = some d:=by rw[List.getElem?_set_ne zr_];exact v
 have S:(Int.toNat ((List.length L:Int) - 1 - (k:Int)))<List.length (List.set M k d):=by rw[List.length_set];omega
 refine e_ (bR_ A aF_ av_ rfl rfl zr_ zr_) rfl (Zz 3 ?_);refine n_ 15 rfl zk (fD_ (k:=((Int.toNat ((List.length L:Int) - 1 - (k:Int))):Int).toNat*1+0) A ah_ av_ rfl rfl zr_ rfl rfl fun B U=>?_);have E:=(iS_ fY_ 1 ea_ (List.set M k d) (Int.toNat ((List.length L:Int) - 1 - (k:Int))) 0 d h (.int .i64 h) G zx_ rfl).trans (congrArg _ (rfl));have I:aB_ 3 1 x (List.length (List.set (List.set M k d) (Int.toNat ((List.length L:Int) - 1 - (k:Int))) h)) (List.flatMap fY_ (List.set (List.set M k d) (Int.toNat ((List.length L:Int) - 1 - (k:Int))) h)) B:=by rw[← E,show List.length (List.set (List.set M k d) (Int.toNat ((List.length L:Int) - 1 - (k:Int))) h)=List.length (List.set M k d) from (List.length_set ..)];exact U
 exact lD_
def b2C (e:Bool×Bool):List Value:=[.bool e.1,.bool e.2]
theorem kR_ (e:Bool×Bool):(b2C e).length=2:=rfl
structure SeenI (W:List Wy) (B:List (Bool×Bool)) (n:Nat):Prop where
  len:B.length=n
  at':∀ r,r<n→B[r]? = some (mz_ W r false,mz_ W r true)
theorem pj_ (W:List Wy) (w:Wy) (r:Nat) (b:Bool):mz_ (W++[w]) r b=(mz_ W r b||(w.role==r&&w.strict==b)):=by simp[mz_]
theorem SeenI.push {W:List Wy} {B:List (Bool×Bool)} {n r:Nat} {b:Bool} {bf m:Nat} {u:Bool×Bool} (h:SeenI W B n) (v:B[r]? = some u):SeenI (W++[⟨r,b,bf,m⟩]) (B.set r (if b then (u.1,true) else (true,u.2))) n:=by
 have k:=(List.getElem?_eq_some_iff.1 v).1;have hl:=h.len;refine⟨by rw[List.length_set,h.len],fun q x=>?_⟩;have d:=h.at' q x;rw[pj_,pj_,List.getElem?_set]
 by_cases e:r=q
 ·subst e
  rw[if_pos rfl,if_pos k];rw[v]at d;simp only[Option.some.injEq]at d;subst d;cases b<;>simp
 rw[if_neg e,d];have:(r==q)=false:=by simp[e]
 simp[this]
theorem SeenI.init {n s:Nat} (k:s<n):SeenI [⟨s,false,0,0⟩] (List.set (List.replicate n (false,false)) s (true,false)) n:=by
  have d:SeenI [] (List.replicate n (false,false)) n:=⟨List.length_replicate,fun r h=>by rw[List.getElem?_replicate,if_pos h];rfl⟩;have e:(List.replicate n (false,false))[s]? = some (false,false):=by rw[List.getElem?_replicate,if_pos k]
  have:=d.push (b:=false) (bf:=0) (m:=0) e;simpa using this
def CirR (G:List (List (Nat×Bool))) (start most:Nat) (L:List Int) (ad:Option Addr) (cap:Nat):Prop :=
  (L=[]∧ad=none∧cap=0∧∀ (n:Nat) (f:Nat→Nat) (c:Nat→Bool),Clw (gE G) n f c→f 0=start→most≤n) ∨
  (ad≠none∧(∃ n,Clo (gE G) n)∧(∀ x∈L,0≤x∧x<(G.length:Int))∧L.length≤2*G.length+1)
theorem iv_ {P:Program} {N:Nf} {fr:Fr} {H:Hp} {Γ:List Fct} {t e ty:TypeId} {x y:Operand} {b k i:Nat} (d:∀ w,(underlying t).run P w=.ok (.array 2 e) w) (h:∀ w,(sizeOf e).run P w=.ok 1 w) (m:Fr.ev fr x=some (zp_ b k)) (q:Fr.ev fr y=some (.int .i64 (i:Int))) (hi:i<2) :
    Yld P N fr H Γ (.indexAddr t x y) ty (.pointer (some ⟨b,k+i,none⟩)):=by
  have:=em_ (P:=P) (N:=N) (fr:=fr) (H:=H) (Γ:=Γ) (ty:=ty) d h m q zr_ zr_;rwa [Nat.mul_one,Int.toNat_natCast]at this
theorem aB_.lit {e:TypeId} {sz b:Nat} {d:List Value} {n:Nat} (hl:d.length=n*sz) (h:n≤maxLen):aB_ e sz (.slice (some ⟨b,0,none⟩) n n) n d [(b,.cells d.toArray e (0,0))] :=
  ⟨hl,.inr ⟨b,n,d.toArray,rfl,rfl,Nat.le_refl _,h,by simpa using hl,by rw[← hl];simp⟩⟩
theorem lC_ {G:Prop} (h:G:=by
 have V:=U;refine Zz 8 ?_;exact y_ ⟨(k+1,Y,N,K,O,I,a6),(J.skip G hGw T (fun q=>by have F:=hcll;rw[q.2]at F;simp[q.1]at F) (by rw[a1];have F:=V;rw[hbe]at F;exact F)),M,G,a2,A,C⟩ zu_ zl (f_ (c_ d_) (f_ (c_ d_) (F_ (c_ t_) B_))) zh):G:=h
theorem wU_ (R:List Str) (rad:Option Addr) (a9:Nat) (X:List Grw) (a5:Option Addr) (a8 d most:Nat) (hlen:X.length=R.length) (hs:d<X.length) (hto:∀ (i:Nat) (l:List (Nat×Bool)),(List.map Grw.st X)[i]? = some l→∀ s∈l,s.1<((List.map Grw.st X)).length) (hXl:X.length≤100000) (hrows:∀ y∈X,y.st.length≤100000000) (hmost:most≤200000):Tri Tryz.prog 68 #[.agg #[.slice rad (List.length R) a9,.slice a5 (List.length X) a8],.int .i64 (d:Int),.int .i64 (most:Int)] [] [V_ rad (List.flatMap ap_ R),V_ a5 (List.flatMap Grw.cells X),if_ X] (fun y:{y:List Int×Option Addr×Nat // CirR (List.map Grw.st X) d most y.1 y.2.1 y.2.2∧List.length y.1≤y.2.2∧y.2.2≤maxLen∧(y.2.1=none→y.2.2=0)}=>.slice y.1.2.1 (List.length y.1.1) y.1.2.2) (fun _=>[]) (fun y=>[V_ y.1.2.1 (List.flatMap fY_ y.1.1)]):=by
 refine j_ Tryz.func68 rfl rfl Tryz.ntmps68 rfl fun v_1=>?_;refine Zz 2 ?_;refine aa_ rfl rfl fun a4=>Zz 3 ?_
 refine lb_ (Zz 3 ?_);refine e_ (K_ py_ rfl rfl) rfl (R_ ev_ gt_ oF_ rfl rfl rfl rfl rfl rfl fun b_2=>Zz 4 ?_);have hqW:aB_ 164 4 (.slice (some ⟨b_2,0,none⟩) 1 1) (List.length [(Wy.mk d false 0 0)]) (List.flatMap wyC [(Wy.mk d false 0 0)]) [(b_2,.cells #[.int .i64 (d:Int),.bool false,.int .i64 (0:Int),.int .i64 (0:Int)] 164 (0,0))]:=aB_.lit rfl zx_;refine u_ (H':=([(b_2,.cells #[.int .i64 (d:Int),.bool false,.int .i64 (0:Int),.int .i64 (0:Int)] 164 (0,0))]++((a4,.cells #[.slice rad (List.length R) a9,.slice a5 (List.length X) a8] 103 (0,0))::[]))) (List.Perm.refl _) (Zz 4 ?_);refine qX_ (n:=List.length R) (by':=2) Tryz.underlying166 (z:=.agg #[.bool false,.bool false]) zk rfl zx_ rfl rfl zr_ zG_ rfl fun svB HrB hrB=>?_;have hqB:aB_ 167 2 svB (List.length (List.replicate (List.length R) (false,false))) (List.flatMap b2C (List.replicate (List.length R) (false,false))) HrB:=by rw[List.length_replicate,← qm_ b2C];exact hrB
 have hzl:List.length (List.replicate (List.length R) (false,false))=List.length R:=List.length_replicate;have hz_1:(List.replicate (List.length R) (false,false))[d]? = some (false,false):=by rw[List.getElem?_replicate,if_pos zr_]
 refine Zz 3 ?_;refine u_ (bq_ (g_ bf_)) (Zz 4 ?_);refine e_ (bR_ hqB jy_ vB_ rfl rfl zr_ zr_) rfl (e_ (iv_ (i:=0) jx_ ef_ rfl rfl zx_) rfl (fD_ (k:=(d:Int).toNat*2+0) hqB zp ef_ rfl rfl zr_ rfl rfl fun Hr_1 hr_1=>?_));have hs_1:=(iS_ b2C 2 kR_ (List.replicate (List.length R) (false,false)) d 0 (false,false) (true,false) (.bool true) hz_1 zx_ rfl).trans (congrArg _ (rfl));have hq_1:aB_ 167 2 svB (List.length (List.set (List.replicate (List.length R) (false,false)) d (true,false))) (List.flatMap b2C (List.set (List.replicate (List.length R) (false,false)) d (true,false))) Hr_1:=by rw[← hs_1,show List.length (List.set (List.replicate (List.length R) (false,false)) d (true,false))=List.length (List.replicate (List.length R) (false,false)) from (List.length_set ..)];exact hr_1
 refine Zz 3 ?_;refine ld_ (Zz 2 ?_);refine u_ (bq_ (g_ d_)) (Zz 6 ?_);refine P_ (ι:={y:Nat×List Wy×List (Bool×Bool)×Value×Hp×Value×Hp // BI (List.map Grw.st X) d y.2.1 y.1 0∧SeenI y.2.1 y.2.2.1 (List.length X)∧y.1≤List.length y.2.1∧zR 164 4 wyC y.2.2.2.1 y.2.1 y.2.2.2.2.1∧zR 167 2 b2C y.2.2.2.2.2.1 y.2.2.1 y.2.2.2.2.2.2}) (fun y=>[(1,.int .i64 (d:Int)),(2,.int .i64 (most:Int)),(3,zp_ a4 0),(6,.slice none 0 0),(7,y.1.2.2.2.1),(8,y.1.2.2.2.2.2.1),(9,.int .i64 (y.1.1:Int))]) (fun y=>((a4,.cells #[.slice rad (List.length R) a9,.slice a5 (List.length X) a8] 103 (0,0))::(y.1.2.2.2.2.1++y.1.2.2.2.2.2.2))) (fun y=>[V_ rad (List.flatMap ap_ R),V_ a5 (List.flatMap Grw.cells X),if_ X]) (fun y=>2*List.length X - y.1.1) ⟨((0:Nat),[(Wy.mk d false 0 0)],(List.set (List.replicate (List.length R) (false,false)) d (true,false)),(.slice (some ⟨b_2,0,none⟩) 1 1),[(b_2,.cells #[.int .i64 (d:Int),.bool false,.int .i64 (0:Int),.int .i64 (0:Int)] 164 (0,0))],svB,Hr_1),BI.init (by rw[List.length_map];exact hs),(by rw[hlen];exact SeenI.init zr_),zC_,hqW,hq_1⟩ zl zp zh ?_;rintro ⟨⟨a,W,Bl,K,O,I,a6⟩,hI,hSn,ha,A,C⟩;dsimp only at hI hSn ha A C ⊢;refine Zz 5 ?_;refine e_ (dV_ A ev_ rfl) rfl ?_;refine Zi 0 (fun hr_1=>?_) fun hr_1=>?_
 ·refine Zz 12 ?_
  exact af_ Tryz.results68 ⟨([],none,0),.inl ⟨rfl,rfl,rfl,fun n f c hc hf=>hI.none (fun w hw=>by have:=(List.getElem?_eq_some_iff.1 hw).1;omega) hto hc hf⟩,by simp[maxLen]⟩ rfl l_ (fun v _ h=>⟨.inl rfl,trivial⟩)
 have hlw_1:a<List.length W:=by omega
 obtain⟨E,a7⟩:∃ B,W[a]? = some B:=⟨_,List.getElem?_eq_getElem hlw_1⟩;have hmw_1:E∈W:=List.mem_of_getElem? a7;have hrole:=hI.role a E a7;rw[List.length_map]at hrole;have hmny:=hI.many a E a7;have hWl:=hI.len;rw[List.length_map]at hWl;have hly_1:(Wy.role E)<List.length X:=hrole;obtain⟨H,hy_1⟩:∃ B,X[(Wy.role E)]? = some B:=⟨_,List.getElem?_eq_getElem hly_1⟩;have hmy_1:H∈X:=List.mem_of_getElem? hy_1;have hGw:(List.map Grw.st X)[Wy.role E]? = some (Grw.st H):=by rw[List.getElem?_map,hy_1];rfl
 have hyl:=hrows H hmy_1;refine Zz 11 ?_;refine e_ (bR_ A ev_ gt_ rfl rfl zr_ zr_) rfl (e_ (fu_ A zp Tryz.isAgg164 gt_ rfl (mF_ _) zx_ (p_ mF_ a7)) rfl (D_ oF_ rfl fun b3=>x_ 0 gt_ rfl rfl rfl rfl rfl rfl (Zz 7 ?_)));refine e_ (aD_ (bj_ rfl rfl rfl (ce_ zr_ zr_)) (show _=Value.int .i64 ((Wy.many E+1:Nat):Int) from congrArg _ zr_)) rfl (Zi 1 (fun hr_2=>?_) fun hr_2=>?_)
 ·refine Zz 18 ?_
  refine P_ (ι:={y:Nat×List Wy×List (Bool×Bool)×Value×Hp×Value×Hp // BI (List.map Grw.st X) d y.2.1 a y.1∧SeenI y.2.1 y.2.2.1 (List.length X)∧y.2.1[a]? = some E∧y.1≤List.length (Grw.st H)∧zR 164 4 wyC y.2.2.2.1 y.2.1 y.2.2.2.2.1∧zR 167 2 b2C y.2.2.2.2.2.1 y.2.2.1 y.2.2.2.2.2.2}) (fun y=>[(1,.int .i64 (d:Int)),(2,.int .i64 (most:Int)),(3,zp_ a4 0),(6,.slice none 0 0),(7,y.1.2.2.2.1),(8,y.1.2.2.2.2.2.1),(9,.int .i64 (a:Int)),(10,zp_ b3 0),(46,.slice (Grw.ad H) (List.length (Grw.st H)) (Grw.cap H)),(47,.int .i64 (List.length (Grw.st H):Int)),(48,.int .i64 (y.1.1:Int))]) (fun y=>((b3,.cells #[.int .i64 (Wy.role E:Int),.bool (Wy.strict E),.int .i64 (Wy.before E:Int),.int .i64 (Wy.many E:Int)] 164 (0,0))::((a4,.cells #[.slice rad (List.length R) a9,.slice a5 (List.length X) a8] 103 (0,0))::(y.1.2.2.2.2.1++y.1.2.2.2.2.2.2)))) (fun y=>[V_ rad (List.flatMap ap_ R),V_ a5 (List.flatMap Grw.cells X),if_ X]) (fun y=>List.length (Grw.st H) - y.1.1) ⟨((0:Nat),W,Bl,K,O,I,a6),hI,hSn,a7,zr_,A,C⟩ zl zp zh ?_;rintro ⟨⟨k,Y,N,K,O,I,a6⟩,J,M,G,hk,A,C⟩;dsimp only at J M G hk A C ⊢;refine Zi 2 (fun hr_3=>?_) fun hr_3=>?_
  ·refine Zz 8 ?_
   refine e_ (aD_ (bj_ rfl rfl rfl (ce_ zr_ zr_)) (show _=Value.int .i64 ((a+1:Nat):Int) from congrArg _ zr_)) rfl (Zz 3 ?_);exact y_ ⟨(a+1,Y,N,K,O,I,a6),J.next G hGw zr_,M,(by have:=(List.getElem?_eq_some_iff.1 G).1;dsimp only;omega),A,C⟩ (by have q_1:=J.len;have q_2:=(List.getElem?_eq_some_iff.1 G).1;rw[List.length_map]at q_1;dsimp only;omega) zl (f_ (c_ d_) (F_ (c_ t_) B_)) zh
  have a2:k<List.length (Grw.st H):=by omega
  obtain⟨B,T⟩:∃ B,(Grw.st H)[k]? = some B:=⟨_,List.getElem?_eq_getElem a2⟩;have hme_1:B∈(Grw.st H):=List.mem_of_getElem? T;have b2:=hto _ _ hGw B hme_1;have hto_2:Prod.fst B<List.length X:=by have q:=b2;rw[List.length_map]at q;exact q
  have hWl_1:=J.len;rw[List.length_map]at hWl_1;have hbl:=M.len;have hal:=(List.getElem?_eq_some_iff.1 G).1;have hbv_1:=M.at' (Prod.fst B) hto_2;obtain⟨bv,hbv,hbe⟩:∃ bv,N[Prod.fst B]? = some bv∧bv=(mz_ Y (Prod.fst B) false,mz_ Y (Prod.fst B) true):=⟨_,hbv_1,rfl⟩;refine Zz 10 ?_;refine e_ (U_ co_ Tryz.sizeOf160 rfl rfl (fun v _ h=>aE_ (n:=2) oi_ zx_ (by exact (h.2.2.1 H hmy_1)) T) zr_ zA_) rfl ?_;refine e_ (au_ (ad:=(Grw.ad H)) (us:=rx_ B) Tryz.isAgg160 Tryz.sizeOf160 rfl (fun v _ h=>by exact (h.2.2.1 H hmy_1)) (oi_ _) (p_ oi_ T)) rfl (D_ Tryz.zeroValue160 rfl fun b_4=>x_ 0 Tryz.sizeOf160 rfl rfl rfl rfl rfl rfl (Zz 5 ?_));refine C_ (aC_ 1 Tryz.isAgg4 rfl rfl rfl) rfl fun r_1 hr_4=>Zz 1 ?_
  refine at_ 3 (((Wy.strict E))||((Prod.snd B))) (fun r=>[(1,.int .i64 (d:Int)),(2,.int .i64 (most:Int)),(3,zp_ a4 0),(6,.slice none 0 0),(7,K),(8,I),(9,.int .i64 (a:Int)),(10,zp_ b3 0),(46,.slice (Grw.ad H) (List.length (Grw.st H)) (Grw.cap H)),(47,.int .i64 (List.length (Grw.st H):Int)),(48,.int .i64 (k:Int)),(12,zp_ b_4 0),(57,.bool r)]) ?_ fun r_2 b0=>?_
  ·cases r_1
   ·have a0:=hr_4
    refine Zz 3 ?_;refine C_ (aC_ 0 Tryz.isAgg4 rfl rfl rfl) rfl fun r_3 P=>Zz 3 ?_
    exact met (zm (jof a0 P))
   have a0:=hr_4;refine Zz 5 ?_;exact met ⟨rfl,rfl,rfl,rfl,rfl,rfl,rfl,rfl,rfl,rfl,rfl,rfl,(o_ rfl (jot a0)),trivial⟩
  refine Zz 9 ?_;refine C_ (bU_ rfl rfl) rfl fun r_3 P=>Zz 1 ?_
  refine at_ 2 ((((Prod.fst B:Nat):Int)==(d:Int))&&((((Wy.strict E))||((Prod.snd B))))) (fun r=>[(1,.int .i64 (d:Int)),(2,.int .i64 (most:Int)),(3,zp_ a4 0),(6,.slice none 0 0),(7,K),(8,I),(9,.int .i64 (a:Int)),(10,zp_ b3 0),(46,.slice (Grw.ad H) (List.length (Grw.st H)) (Grw.cap H)),(47,.int .i64 (List.length (Grw.st H):Int)),(48,.int .i64 (k:Int)),(12,zp_ b_4 0),(13,.bool r_2),(64,.bool r)]) ?_ fun r_4 hr_7=>?_
  ·cases r_3
   ·have a0:=P
    replace P:=znb P;refine Zz 4 ?_;exact met ⟨rfl,rfl,rfl,rfl,rfl,rfl,rfl,rfl,rfl,rfl,rfl,rfl,rfl,(o_ rfl (jaf a0)),trivial⟩
   have a0:=P;replace P:=zeb P;refine Zz 5 ?_;exact met ⟨rfl,rfl,rfl,rfl,rfl,rfl,rfl,rfl,rfl,rfl,rfl,rfl,rfl,(o_ rfl (jat a0 b0)),trivial⟩
  refine Zz 2 ?_;cases r_4
  ·have hcll:=hr_7
   refine Zz 14 ?_;cases r_2
   ·have a1:=b0
    refine Zz 10 ?_;refine e_ (bR_ C jy_ vB_ rfl rfl zr_ zr_) rfl (e_ (iv_ (i:=0) jx_ ef_ rfl rfl zx_) rfl (C_ (cX_ C (c_ (c_ (c_ bf_))) Tryz.isAgg4 rfl (p_ kR_ hbv 0 _ rfl)) rfl fun r_5 U=>Zz 2 ?_));cases r_5
    ·have V:=U
     refine Zz 9 ?_;refine e_ (bR_ C jy_ vB_ rfl rfl zr_ zr_) rfl (e_ (iv_ (i:=0) jx_ ef_ rfl rfl zx_) rfl (fD_ (k:=((Prod.fst B:Nat):Int).toNat*2+0) C (c_ (c_ (c_ bf_))) ef_ rfl rfl zr_ rfl rfl fun S hr_2=>?_));have hs_2:=(iS_ b2C 2 kR_ N (Prod.fst B:Nat) 0 bv (true,Prod.snd bv) (.bool true) hbv zx_ rfl).trans (congrArg _ (rfl));have Z:aB_ 167 2 I (List.length (List.set N (Prod.fst B:Nat) (true,Prod.snd bv))) (List.flatMap b2C (List.set N (Prod.fst B:Nat) (true,Prod.snd bv))) S:=by rw[← hs_2,show List.length (List.set N (Prod.fst B:Nat) (true,Prod.snd bv))=List.length N from (List.length_set ..)];exact hr_2
     refine Zz 2 ?_;refine u_ (Y_ (g_ d_) (Y_ (g_ d_) (bq_ (g_ d_)))) (Zz 8 ?_);refine e_ (aD_ (bj_ rfl rfl rfl (ce_ zr_ zr_)) (show _=Value.int .i64 ((Wy.many E+1:Nat):Int) from congrArg _ zr_)) rfl (e_ (K_ py_ rfl rfl) rfl (R_ ev_ gt_ oF_ rfl rfl rfl rfl rfl rfl fun b_5=>?_));refine ay_ (news:=List.flatMap wyC [(Wy.mk (Prod.fst B:Nat) false a (Wy.many E+1:Nat))]) wF_ A rfl rfl zp rfl (be_ 0 rfl) (fun u hu=>ak_ sZ_ hu) zI_ zM_ rfl fun Q Hr_3 hr_3=>?_;have hq_3:=zsa hr_3;refine Zz 3 ?_;refine u_ (Y_ (g_ d_) (Y_ (g_ d_) (Y_ (g_ d_) (bq_ (g_ d_))))) (Zz 5 ?_);exact y_ ⟨(k+1,(Y++[(Wy.mk (Prod.fst B:Nat) false a (Wy.many E+1:Nat))]),(List.set N (Prod.fst B:Nat) (true,Prod.snd bv)),Q,Hr_3,I,S),zac_,(M.push (b:=false) (bf:=a) (m:=Wy.many E+1) hbv),zaK_,a2,hq_3,Z⟩ zu_ zl (f_ (c_ (c_ d_)) (f_ (c_ (c_ d_)) (F_ (c_ (c_ t_)) (c_ B_)))) zh
    exact lC_
   have a1:=b0;refine Zz 12 ?_;refine e_ (bR_ C jy_ vB_ rfl rfl zr_ zr_) rfl (e_ (iv_ (i:=1) jx_ ef_ rfl rfl zx_) rfl (C_ (cX_ C (c_ (c_ (c_ bf_))) Tryz.isAgg4 rfl (p_ kR_ hbv 1 _ rfl)) rfl fun r_5 U=>Zz 2 ?_));cases r_5
   ·have V:=U
    refine Zz 9 ?_;refine e_ (bR_ C jy_ vB_ rfl rfl zr_ zr_) rfl (e_ (iv_ (i:=1) jx_ ef_ rfl rfl zx_) rfl (fD_ (k:=((Prod.fst B:Nat):Int).toNat*2+1) C (c_ (c_ (c_ bf_))) ef_ rfl rfl zr_ rfl rfl fun S hr_4=>?_));have hs_2:=(iS_ b2C 2 kR_ N (Prod.fst B:Nat) 1 bv (Prod.fst bv,true) (.bool true) hbv zx_ rfl).trans (congrArg _ (rfl));have Z:aB_ 167 2 I (List.length (List.set N (Prod.fst B:Nat) (Prod.fst bv,true))) (List.flatMap b2C (List.set N (Prod.fst B:Nat) (Prod.fst bv,true))) S:=by rw[← hs_2,show List.length (List.set N (Prod.fst B:Nat) (Prod.fst bv,true))=List.length N from (List.length_set ..)];exact hr_4
    refine Zz 2 ?_;refine u_ (Y_ (g_ d_) (Y_ (g_ d_) (bq_ (g_ d_)))) (Zz 8 ?_);refine e_ (aD_ (bj_ rfl rfl rfl (ce_ zr_ zr_)) (show _=Value.int .i64 ((Wy.many E+1:Nat):Int) from congrArg _ zr_)) rfl (e_ (K_ py_ rfl rfl) rfl (R_ ev_ gt_ oF_ rfl rfl rfl rfl rfl rfl fun b_5=>?_));refine ay_ (news:=List.flatMap wyC [(Wy.mk (Prod.fst B:Nat) true a (Wy.many E+1:Nat))]) wF_ A rfl rfl zp rfl (be_ 0 rfl) (fun u hu=>ak_ sZ_ hu) zI_ zM_ rfl fun Q Hr_3 b0=>?_;have hq_3:=zsa b0;refine Zz 3 ?_;refine u_ (Y_ (g_ d_) (Y_ (g_ d_) (Y_ (g_ d_) (bq_ (g_ d_))))) (Zz 5 ?_);exact y_ ⟨(k+1,(Y++[(Wy.mk (Prod.fst B:Nat) true a (Wy.many E+1:Nat))]),(List.set N (Prod.fst B:Nat) (Prod.fst bv,true)),Q,Hr_3,I,S),zac_,(M.push (b:=true) (bf:=a) (m:=Wy.many E+1) hbv),zaK_,a2,hq_3,Z⟩ zu_ zl (f_ (c_ (c_ d_)) (f_ (c_ (c_ d_)) (F_ (c_ (c_ t_)) (c_ B_)))) zh
   exact lC_
  have hclT:=hr_7;refine Zz 3 ?_;refine u_ (H':=((b_4,.cells #[.int .i64 ((Prod.fst B:Nat):Int),.bool (Prod.snd B)] 160 (0,0))::((b3,.cells #[.int .i64 (Wy.role E:Int),.bool (Wy.strict E),.int .i64 (Wy.before E:Int),.int .i64 (Wy.many E:Int)] 164 (0,0))::((a4,.cells #[.slice rad (List.length R) a9,.slice a5 (List.length X) a8] 103 (0,0))::(O++(a6++([]:Hp))))))) (List.Perm.cons _ (List.Perm.cons _ (List.Perm.cons _ (List.Perm.append_left O (List.Perm.of_eq (List.append_nil _).symm))))) ?_;refine P_ (ι:={y:Nat×List Int×Value×Hp×Value×Hp // y.1≤a∧(∀ x∈y.2.1,0≤x∧x<(List.length X:Int))∧List.length y.2.1+y.1≤a∧zR 164 4 wyC y.2.2.1 Y y.2.2.2.1∧zR 3 1 fY_ y.2.2.2.2.1 y.2.1 y.2.2.2.2.2}) (fun y=>[(1,.int .i64 (d:Int)),(2,.int .i64 (most:Int)),(3,zp_ a4 0),(6,y.1.2.2.2.2.1),(7,y.1.2.2.1),(8,I),(9,.int .i64 (y.1.1:Int)),(10,zp_ b3 0),(46,.slice (Grw.ad H) (List.length (Grw.st H)) (Grw.cap H)),(47,.int .i64 (List.length (Grw.st H):Int)),(48,.int .i64 (k:Int)),(12,zp_ b_4 0)]) (fun y=>((b_4,.cells #[.int .i64 ((Prod.fst B:Nat):Int),.bool (Prod.snd B)] 160 (0,0))::((b3,.cells #[.int .i64 (Wy.role E:Int),.bool (Wy.strict E),.int .i64 (Wy.before E:Int),.int .i64 (Wy.many E:Int)] 164 (0,0))::((a4,.cells #[.slice rad (List.length R) a9,.slice a5 (List.length X) a8] 103 (0,0))::(y.1.2.2.2.1++y.1.2.2.2.2.2))))) (fun y=>[V_ rad (List.flatMap ap_ R),V_ a5 (List.flatMap Grw.cells X),if_ X]) (fun y=>y.1.1) ⟨(a,([]:List Int),K,O,(.slice none 0 0),([]:Hp)),(Nat.le_refl _),zC_,zC_,A,(aB_.nil _ _)⟩ zl zp zh ?_;rintro ⟨⟨a_1,L,K,O,sv_RL,H_RL⟩,ha_1,hLx,hLl,A,hr_RL⟩;dsimp only at ha_1 hLx hLl A hr_RL ⊢;refine Zi 4 (fun U=>?_) fun U=>?_
  ·refine Zz 9 ?_
   refine R_ aF_ av_ kW_ rfl rfl rfl rfl rfl rfl fun b_5=>?_;refine ay_ (news:=List.flatMap fY_ [(d:Int)]) tz_ hr_RL rfl rfl zp rfl (be_ 0 rfl) (fun u hu=>ak_ rq_ hu) zI_ zM_ rfl fun Q S hr_9=>?_;have Z:=zsa hr_9;refine Zz 3 ?_;refine u_ (Y_ (g_ d_) (Y_ (g_ d_) (Y_ (g_ d_) (bq_ (g_ d_))))) (Zz 3 ?_);refine i_ (ud_ (L++[(d:Int)]) Q S Z (by have:=(List.getElem?_eq_some_iff.1 G).1;simp only[List.length_append,List.length_singleton];omega)) rfl (c_ (c_ (c_ (c_ t_)))) zt rfl fun⟨Hv_1,hv_1⟩=>?_;dsimp only;have hqL_1:aB_ 3 1 Q (List.length (List.reverse (L++[(d:Int)]))) (List.flatMap fY_ (List.reverse (L++[(d:Int)]))) Hv_1:=hv_1;refine Zz 4 ?_;refine u_ (Y_ (g_ d_) (Y_ (g_ d_) (Y_ (g_ d_) (bq_ (g_ d_))))) (Zz 7 ?_);have hnz:aB_ 3 1 Q (List.length (List.reverse (L++[(d:Int)]))) (List.flatMap fY_ (List.reverse (L++[(d:Int)]))) Hv_1:=hqL_1;refine aN_ hqL_1 (c_ (c_ (c_ (c_ t_)))) fun lad lcap hlad hclad hmlad hzlad=>?_;have hln:lad≠none:=fun e=>by have q:=hzlad e;have q_1:=hclad;rw[q]at q_1;simp only[List.length_reverse,List.length_append,List.length_singleton]at q_1;omega
   exact af_ Tryz.results68 ⟨((List.reverse (L++[(d:Int)])),lad,lcap),.inr ⟨hln,⟨_,J.found G hGw T (by have F:=hclT;simp only[Bool.and_eq_true,beq_iff_eq]at F;omega) (by have F:=hclT;simp only[Bool.and_eq_true]at F;exact F.2)⟩,(fun x hx=>by rw[List.mem_reverse]at hx;rw[List.length_map];rcases List.mem_append.1 hx with hx|hx;exact hLx x hx;rw[List.mem_singleton]at hx;subst hx;omega),(by have:=J.len;rw[List.length_map]at this;simp only[List.length_reverse,List.length_append,List.length_singleton,List.length_map];omega)⟩,hclad,hmlad,hzlad⟩ (gh_ rfl hlad) l_ zf
  have hlw_2:a_1<List.length Y:=by have:=(List.getElem?_eq_some_iff.1 G).1;omega
  obtain⟨b1,a3⟩:∃ B,Y[a_1]? = some B:=⟨_,List.getElem?_eq_getElem hlw_2⟩;have hmw_2:b1∈Y:=List.mem_of_getElem? a3;refine Zz 11 ?_;refine e_ (bR_ A ev_ gt_ rfl rfl zr_ zr_) rfl (Zz 1 ?_);refine e_ (cX_ A zp bd_ rfl (p_ mF_ a3 0 _ rfl)) rfl (R_ aF_ av_ kW_ rfl rfl rfl rfl rfl rfl fun b_5=>?_);refine ay_ (news:=List.flatMap fY_ [(Wy.role b1:Int)]) tz_ hr_RL rfl rfl zp rfl (be_ 0 rfl) (fun u hu=>ak_ rq_ hu) zI_ zM_ rfl fun Q S P=>?_;have Z:=zsa P;refine Zz 3 ?_;refine u_ (Y_ (g_ d_) (Y_ (g_ d_) (Y_ (g_ d_) (bq_ (g_ d_))))) (Zz 3 ?_);refine e_ (bR_ A ev_ gt_ rfl rfl zr_ zr_) rfl (Zz 1 ?_);refine e_ (cX_ A zp bd_ rfl (p_ mF_ a3 2 _ rfl)) rfl (Zz 3 ?_);exact y_ ⟨((Wy.before b1),(L++[(Wy.role b1:Int)]),K,O,Q,S),(by have:=J.bef a_1 b1 a3 zr_;omega),(fun x hx=>by rcases List.mem_append.1 hx with hx|hx;exact hLx x hx;rw[List.mem_singleton]at hx;subst hx;have:=J.role a_1 b1 a3;rw[List.length_map]at this;omega),(by have:=J.bef a_1 b1 a3 zr_;simp only[List.length_append,List.length_singleton];omega),A,Z⟩ (by have:=J.bef a_1 b1 a3 zr_;dsimp only;omega) zl (f_ (c_ d_) (f_ (c_ d_) (f_ (c_ d_) (F_ (c_ bf_) B_)))) zh
 refine Zz 12 ?_;exact af_ Tryz.results68 ⟨([],none,0),.inl ⟨rfl,rfl,rfl,fun n f c hc hf=>hI.none (fun w hw=>by rw[a7]at hw;simp only[Option.some.injEq]at hw;subst hw;omega) hto hc hf⟩,by simp[maxLen]⟩ rfl l_ (fun v _ h=>⟨.inl rfl,trivial⟩)
theorem tE_ (x:Ax):∀ i,(x.chs i).length≤i
 | 0=>by simp[Ax.chs]
 | i+1=>by
   have:=tE_ x i;rw[Ax.chs,List.length_append]
   split
   · split<;>simp<;>omega
   · simp;omega
theorem rW_ {x:Ax} (h:x.check=0):x.steps.length≤4:=by
 unfold Ax.steps
 split
 ·split
  ·split<;>simp
  simp
 split
 ·rename_i d
  have:=(Ax.good_of h).chain d;have:=tE_ x x.roles.length;omega
 simp
theorem nk_:∀ (l:List Ax),(∀ x∈l,x.check=0)→(di_ l).length≤4*l.length
  | [],_=>by simp[di_]
  | x::l,h=>by
    have e:=nk_ l fun y d=>h y (List.mem_cons_of_mem _ d)
    have k:=rW_ (h x zC_);unfold di_ at *;rw[List.flatMap_cons,List.length_append,List.length_cons];omega
theorem MmO.ksl {v:Nat} {ks:List (Str×Nat)} {S:List RSt} {H:Hp} (h:MmO v ks S H) (m:Frm ks S):ks.length≤S.length:=by
  obtain⟨es,c,E,_,hE⟩:=h
  have e:ks.map (·.1) ⊆ S.map (·.1):=fun k hk=>by
    obtain⟨s,d,q⟩:=m k hk;exact List.mem_map.2 ⟨_,q,rfl⟩
  have:=hE.nd.length_le_of_subset e;rwa [List.length_map,List.length_map]at this
def jb_ (G:List (List (Nat×Bool))) (i most:Nat) (L:List Int) (ad:Option Addr) (cap:Nat):Prop :=
  (L=[]∧ad=none∧cap=0∧most=G.length+1∧∀ (n:Nat) (f:Nat→Nat) (c:Nat→Bool),Clw (gE G) n f c→f 0<i→most≤n) ∨
  (ad≠none∧most≤2*G.length+1∧(∃ n,Clo (gE G) n)∧(∀ x∈L,0≤x∧x<(G.length:Int))∧L.length≤2*G.length+1)
theorem jb_.init {G:List (List (Nat×Bool))}:jb_ G 0 (G.length+1) [] none 0:=.inl ⟨rfl,rfl,rfl,rfl,fun _ _ _ _ h=>by omega⟩
theorem jb_.skip {G:List (List (Nat×Bool))} {i most:Nat} {L M:List Int} {ad:Option Addr} {cap cp:Nat} (h:jb_ G i most L ad cap) (d:CirR G i most M none cp):jb_ G (i+1) most L ad cap:=by
 rcases h with⟨q,y,m,v,x⟩|h
 ·rcases d with⟨_,_,_,d⟩|⟨d,_⟩
  ·refine .inl ⟨q,y,m,v,fun n f c k A=>?_⟩
   by_cases e:f 0=i
   ·exact d n f c k e
   exact x n f c k zr_
  exact absurd rfl d
 exact .inr h
theorem jb_.take {G:List (List (Nat×Bool))} {i most:Nat} {L M:List Int} {ad d:Option Addr} {cap cp:Nat} (h:jb_ G i most L ad cap) (e:CirR G i most M d cp) (x:d≠none):jb_ G (i+1) M.length M d cp:=by
 rcases e with⟨_,e,_⟩|⟨m,q,v,k⟩
 ·exact absurd e x
 exact .inr ⟨m,k,q,v,k⟩
theorem jb_.none {G:List (List (Nat×Bool))} {most:Nat} {L:List Int} {cap:Nat} (h:jb_ G G.length most L none cap):∀ n,¬ Clo (gE G) n:=by
 rcases h with⟨_,_,_,m,e⟩|⟨h,_⟩
 ·exact wT_ fun n f c d k=>by have:=e n f c d k;omega
 exact absurd rfl h
theorem jb_.some {G:List (List (Nat×Bool))} {i most:Nat} {L:List Int} {ad:Option Addr} {cap:Nat} (h:jb_ G i most L ad cap) (m:ad≠Option.none):(∃ n,Clo (gE G) n)∧(∀ x∈L,0≤x∧x<(G.length:Int))∧L.length≤2*G.length+1:=by
 rcases h with⟨_,h,_⟩|⟨_,_,d,e,k⟩
 ·exact absurd h m
 exact⟨d,e,k⟩
theorem jb_.most {G:List (List (Nat×Bool))} {i most:Nat} {L:List Int} {ad:Option Addr} {cap:Nat} (h:jb_ G i most L ad cap):most≤2*G.length+1:=by
  rcases h with⟨_,_,_,h,_⟩|⟨_,h,_⟩<;>omega
def RlR (l:List Ax) (e:Int):Prop:=(e=0∧¬ lv_ (di_ l))∨(e=60∧lv_ (di_ l))
theorem tL_ {P:Program} {N:Nf} {fr:Fr} {H:Hp} {Γ:List Fct} {ty t B e:TypeId} {x y:Operand} {ad:Option Addr} {m c:Nat} (h:P.underlying t=some (.slice e)) (q:Fr.ev fr x=some (.slice ad m c)) (A:Fr.ev fr y=some (.slice none 0 0)):Yld P N fr H Γ (.binOp .neq t x y B) ty (.bool (!decide (ad=none))) :=
  fun a v d _ _ _ _ _=>by
    have k:decide (ad=none)=ad.isNone:=by cases ad<;>simp
    rw[k];simp[execOp,d.ev q,d.ev A,eqGuard,binOp,ty_ v.w t e ad m c h]
theorem ub_ (l:List Ax) (ad:Option Addr) (cap:Nat) (a1:∀ x∈l,x.ok) (hC:∀ x∈l,x.check=0) (hll:l.length≤20000):Tri Tryz.prog 30 #[.slice ad (List.length l) cap] [] [cu_ ad l,bV_] (fun y:{y:Value×Int // RlR l y.2}=>.tuple #[y.1.1,.int .i64 y.1.2]) (fun _=>[]) (fun _=>[]):=by
 refine j_ Tryz.func30 rfl rfl Tryz.ntmps30 rfl fun v_1=>?_;refine Zz 10 ?_;refine i_ (oQ_ l ad cap a1 hC zr_) rfl l_ zf rfl fun _=>Zz 6 ?_
 refine e_ (aD_ (cf_ rfl rfl) (show _=Value.bool false from congrArg Value.bool zx_)) rfl (Zz 8 ?_);refine i_ (xB_ l ad cap a1 hC zr_) rfl l_ zf rfl fun⟨⟨mb,ks,Hm⟩,hM,S⟩=>?_;dsimp only;simp only[List.append_nil];dsimp only at hM S;have hSl:=nk_ l hC;have hkl:=MmO.ksl hM S;refine i_ (sq_ mb ks (di_ l) Hm hM S zr_ zr_) rfl ah_ zt rfl fun⟨⟨X,rad,K,J,E⟩,hG,a5,hXk,⟨hrs_1,hrs_2,hrs_3⟩,⟨hgs_1,hgs_2,hgs_3⟩⟩=>?_;dsimp only;dsimp only at hG a5 hXk;have hrl:List.length (bg_ (List.map (fun p:Str×Nat=>p.1) ks))=List.length ks:=by rw[List.length_mergeSort,List.length_map]
 have a2:List.length (List.map Grw.st X)=List.length X:=List.length_map ..;refine D_ Tryz.zeroValue103 rfl fun N=>x_ 0 Tryz.sizeOf103 rfl rfl rfl rfl rfl rfl (Zz 7 ?_)
 refine e_ (aD_ (bj_ rfl rfl rfl (ce_ zr_ zr_)) (show _=Value.int .i64 ((List.length X+1:Nat):Int) from congrArg _ zr_)) rfl (Zz 18 ?_);refine P_ (ι:={y:Nat×Nat×List Int×Option Addr×Nat // y.1≤List.length (bg_ (List.map (fun p:Str×Nat=>p.1) ks))∧jb_ (List.map Grw.st X) y.1 y.2.1 y.2.2.1 y.2.2.2.1 y.2.2.2.2}) (fun y=>[(2,.slice none 0 0),(3,.int .i64 0),(5,zp_ N 0),(6,.int .i64 (y.1.2.1:Int)),(7,.slice y.1.2.2.2.1 (List.length y.1.2.2.1) y.1.2.2.2.2),(26,.int .i64 (List.length (bg_ (List.map (fun p:Str×Nat=>p.1) ks)):Int)),(27,.int .i64 (y.1.1:Int))]) (fun y=>((N,.cells #[.slice rad (List.length (bg_ (List.map (fun p:Str×Nat=>p.1) ks))) K,.slice J (List.length X) E] 103 (0,0))::[])) (fun y=>[V_ y.1.2.2.2.1 (List.flatMap fY_ y.1.2.2.1),V_ rad (List.flatMap ap_ (bg_ (List.map (fun p:Str×Nat=>p.1) ks))),V_ J (List.flatMap Grw.cells X),if_ X]) (fun y=>List.length (bg_ (List.map (fun p:Str×Nat=>p.1) ks)) - y.1.1) ⟨((0:Nat),(List.length X+1),([]:List Int),none,0),zC_,(by have q:=jb_.init (G:=(List.map Grw.st X));rw[a2]at q;exact q)⟩ zl d_ (fun v _ h=>by exact⟨(.inl rfl),h.1,h.2.1,h.2.2.1,trivial⟩) ?_;rintro ⟨⟨i,mo,L,lad,lcap⟩,Z,Y⟩;dsimp only at Z Y ⊢;refine Zi 2 (fun F=>?_) fun F=>?_
 ·refine Zz 10 ?_
  refine C_ (mV_ (ad:=lad) Tryz.underlying107 rfl rfl) rfl fun T d=>Zz 2 ?_
  cases T
  ·replace d:=zdf d
   have V:=Y.some d;refine Zz 12 ?_;refine P_ (ι:={y:Nat×List Str×Value×Hp // y.1≤List.length L∧List.length y.2.1≤y.1∧zR 9 1 ap_ y.2.2.1 y.2.1 y.2.2.2}) (fun y=>[(2,y.1.2.2.1),(3,.int .i64 0),(5,zp_ N 0),(6,.int .i64 (mo:Int)),(7,.slice lad (List.length L) lcap),(26,.int .i64 (List.length (bg_ (List.map (fun p:Str×Nat=>p.1) ks)):Int)),(27,.int .i64 (i:Int)),(42,.slice lad (List.length L) lcap),(43,.int .i64 (List.length L:Int)),(44,.int .i64 (y.1.1:Int))]) (fun y=>((N,.cells #[.slice rad (List.length (bg_ (List.map (fun p:Str×Nat=>p.1) ks))) K,.slice J (List.length X) E] 103 (0,0))::y.1.2.2.2)) (fun y=>[V_ lad (List.flatMap fY_ L),V_ rad (List.flatMap ap_ (bg_ (List.map (fun p:Str×Nat=>p.1) ks))),V_ J (List.flatMap Grw.cells X),if_ X]) (fun y=>List.length L - y.1.1) ⟨((0:Nat),([]:List Str),(.slice none 0 0),[]),by simp,zC_,(aB_.nil _ _)⟩ zl d_ zh ?_;rintro ⟨⟨k,C,sv_RC,H_RC⟩,a4,hCl,m⟩;dsimp only at a4 hCl m ⊢;refine Zi 2 (fun A=>?_) fun A=>?_
   ·refine Zz 14 ?_
    refine aN_ m B_ fun cad ccap a6 hccad hmcad hzcad=>?_;exact lg_ Tryz.results30 ⟨(_,60),.inr ⟨rfl,hG.circ.2 V.1⟩⟩ (gh_ rfl a6) rfl rfl l_ zt
   have H:k<List.length L:=by omega
   obtain⟨O,a8⟩:∃ I,L[k]? = some I:=⟨_,List.getElem?_eq_getElem H⟩;have U:O∈L:=List.mem_of_getElem? a8;have hzb:=V.2.1 O U;rw[a2]at hzb;have hcs_1:=V.2.2;have b0:(Int.toNat O)<List.length (bg_ (List.map (fun p:Str×Nat=>p.1) ks)):=by omega
   obtain⟨rz,hrz⟩:∃ I,(bg_ (List.map (fun p:Str×Nat=>p.1) ks))[(Int.toNat O)]? = some I:=⟨_,List.getElem?_eq_getElem b0⟩;have hmrz:rz∈(bg_ (List.map (fun p:Str×Nat=>p.1) ks)):=List.mem_of_getElem? hrz;refine Zz 22 ?_;refine R_ m_ H_ aK_ rfl rfl rfl rfl rfl rfl fun b_2=>?_;refine ay_ (news:=List.flatMap ap_ [rz]) cW_ m rfl rfl zp rfl (be_ 0 rfl) (fun u hu=>ak_ cx_ hu) zI_ zM_ rfl fun a0 b1 F=>?_;refine u_ List.perm_append_comm ?_;have a7:=zsa F;refine Zz 8 ?_;exact y_ ⟨(k+1,(C++[rz]),a0,b1),H,zaO_,a7⟩ zu_ zl (f_ (c_ d_) B_) zh
  replace d:=zdt d;refine Zz 8 ?_;exact lg_ Tryz.results30 ⟨(.slice none 0 0,0),.inl ⟨rfl,fun q=>by obtain⟨n,hn⟩:=hG.circ.1 q;exact jb_.none (by have a3:=Y;rw[d,show i=List.length (List.map Grw.st X) from zr_]at a3;exact a3) n hn⟩⟩ rfl rfl rfl l_ zt
 have e:i<List.length (bg_ (List.map (fun p:Str×Nat=>p.1) ks)):=by omega
 obtain⟨T,d⟩:∃ I,(bg_ (List.map (fun p:Str×Nat=>p.1) ks))[i]? = some I:=⟨_,List.getElem?_eq_getElem e⟩;have hmr_1:T∈(bg_ (List.map (fun p:Str×Nat=>p.1) ks)):=List.mem_of_getElem? d;refine Zz 19 ?_;refine i_ (wU_ (bg_ (List.map (fun p:Str×Nat=>p.1) ks)) rad K X J E i mo zr_ zr_ hG.to zr_ (fun z hz=>by have:=a5 z hz;omega) (by have:=Y.most;omega)) rfl l_ zf rfl fun⟨⟨M,R,a9⟩,B,W,P,Q⟩=>?_;dsimp only;dsimp only at B W P Q;refine Zz 6 ?_;refine C_ (tL_ (ad:=R) Tryz.underlying107 rfl rfl) rfl fun r_2 A=>Zz 2 ?_
 cases r_2
 ·refine Zz 8 ?_
  exact y_ ⟨(i+1,mo,L,lad,lcap),e,(Y.skip (by have q:=B;rw[show R=none from by simpa using A]at q;exact q))⟩ zu_ zl d_ (fun _ _ h=>h.2)
 refine Zz 14 ?_;exact y_ ⟨(i+1,(List.length M),M,R,a9),e,(Y.take B zaE_)⟩ zu_ zl d_ zf
end Go.Proofs.YtpbnmnfdgckaiaaGreatDoor
namespace Go.Sx
open Go Go.Vs
theorem nO_ {α β:Type} (f:α→β):∀ (l:List α) (i:Nat),(l.eraseIdx i).map f=(l.map f).eraseIdx i
  | [],_=>rfl
  | _::_,0=>rfl
  | x::l,i+1=>by simp only[List.eraseIdx_cons_succ,List.map_cons];rw[nO_ f l i]
structure StM where
  es:Array MapEntry
  c:Nat
  ks:List Str
  hE:SetE str es ks
  hB:Born es c
def StM.add (s:StM) (k:Str):StM:=if h:k∈s.ks then s else ⟨s.es.push ⟨str k,.bool true,s.c⟩,s.c+1,s.ks++[k],s.hE.push h s.c,s.hB.push _ _⟩
theorem StM.mem {s:StM} {k n:Str}:n∈(s.add k).ks↔n∈s.ks∨n=k:=by
 unfold StM.add
 split
 ·rename_i h
  exact⟨.inl,fun q=>q.elim id fun e=>e▸h⟩
 simp
theorem StM.len {s:StM} {k:Str}:(s.add k).ks.length≤s.ks.length+1:=by
  unfold StM.add
  split<;>simp
section
variable {P:Program} {N:Nat} {v0:Vw} {H0:Hp} {R:Exit→Act→World→Prop} {Kk:List Kt} {fr:Fr} {H:Hp} {Γ:List Fct}
variable {ops:Array Oper} {lo:List Oper} {d:Nat} {ty:TypeId} {ps:String} {af:Array Edge}
theorem hz_ {t h E:TypeId} {x y:Operand} {b c i:Nat} {es:Array MapEntry} {e u:Value} (q:∀ w,(underlying t).run P w=.ok (.map h E) w) (B:Fr.ev fr x=some (.map (some b))) (C:Fr.ev fr y=some e) (n:Nat)
    (hi:H[n]? = some (b,.map es c)) (hk:ht_ P h e) (F:dJ_ P h e es.toList (some (i,u))):Yld P N fr H Γ (.lookup t x y true) ty (.tuple #[u,.bool true]) :=
  fun a v k m G _ _ _=>by
    have A:=MapKept.run_getObj_map (P:=P) (m.own _ (List.mem_of_getElem? hi)).1;simp[execOp,k.ev B,k.ev C,Instr.lookup,q,A,hk _ _,F _]
theorem rQ_ {t h m:TypeId} {x y:Operand} {b c:Nat} {es:Array MapEntry} {e z:Value} (A:∀ w,(underlying t).run P w=.ok (.map h m) w) (C:∀ w,(zeroValue m).run P w=.ok z w) (E:Fr.ev fr x=some (.map (some b))) (F:Fr.ev fr y=some e) (n:Nat)
    (hi:H[n]? = some (b,.map es c)) (hk:ht_ P h e) (G:dJ_ P h e es.toList none):Yld P N fr H Γ (.lookup t x y true) ty (.tuple #[z,.bool false]) :=
  fun a v k q I _ _ _=>by
    have B:=MapKept.run_getObj_map (P:=P) (q.own _ (List.mem_of_getElem? hi)).1;simp[execOp,k.ev E,k.ev F,Instr.lookup,A,B,hk _ _,G _,C]
theorem hL_ {Fc:Fence} {U:Nat} {D:List Deferred} {o:Op} {t J X:TypeId} {x y z:Operand} {b:Nat} (hF:Opn Fc) (n:Nat) (s:StM) {k:Str} (q:KeyT P J str) (B:o=.insert t x y z∨o=.mapUpdate t x y z) (I:∀ w,(underlying t).run P w=.ok (.map J X) w)
    (K:Fr.ev fr x=some (.map (some b))) (L:Fr.ev fr y=some (str k)) (S:Fr.ev fr z=some (.bool true)) (hi:H[n]? = some (b,.map s.es s.c))
    (C:gb_ Fc U P R N D v0 H0 ops lo Kk fr (H.set n (b,.map (s.add k).es (s.add k).c)) Γ):gb_ Fc U P R N D v0 H0 ops (⟨none,o,ty,ps,af,none⟩::lo) Kk fr H Γ :=
  eq_ (by rfl) fun a v h E Y h4=>by
    refine⟨fun f _=>hF.fn f,?_⟩;rw[semAt_eq (by rcases B with rfl|rfl<;>rfl)];have F:=(E.own _ (List.mem_of_getElem? hi)).1;have O:=MapKept.run_getObj_map (P:=P) F;have m:=MapKept.run_setObj_map (P:=P) (.map (s.add k).es (s.add k).c) F
    have he:(execOp (Act.eval ⟨a.tmps,[]⟩) ⟨none,o,ty,ps,af,none⟩).run P v.w=.ok .skip { v.w with heap:=v.w.heap.setIfInBounds b (.map (s.add k).es (s.add k).c) }:=by
      by_cases hk:k∈s.ks
      · have G:s.add k=s:=by unfold StM.add;rw[dif_pos hk]
        rw[G]at m ⊢;obtain⟨i,e,M,A,Q,g4,V⟩:=s.hE.yes q hk;have W:=iN_ A Q g4;rcases B with rfl|rfl<;>simp[execOp,h.sat.ev K,h.sat.ev L,h.sat.ev S,Instr.mapUpdate,I,O,q.ok _ _ _,V _,m,Instr.keyThatStays,A,Q,q.same,W]
      · have G:s.add k=⟨s.es.push ⟨str k,.bool true,s.c⟩,s.c+1,s.ks++[k],s.hE.push hk s.c,s.hB.push _ _⟩:=by unfold StM.add;rw[dif_neg hk]
        rw[G]at m ⊢;dsimp only at m ⊢;have Z:=s.hE.no q hk;rcases B with rfl|rfl<;>simp[execOp,h.sat.ev K,h.sat.ev L,h.sat.ev S,Instr.mapUpdate,I,O,q.ok _ _ _,Z _,m]
    rw[show a.eval=Act.eval ⟨a.tmps,[]⟩ from rfl,he];have T:=MapKept.heap_set (o':=.map (s.add k).es (s.add k).c) F;obtain⟨M,A⟩:=ff_ (w':={ v.w with heap:=v.w.heap.setIfInBounds b (.map (s.add k).es (s.add k).c) }) E hi rfl rfl rfl (Nat.le_refl _) zC_ T.1 (fun k hk=>T.2 k hk);exact C _ _ h M (Y.trans A) (az_ (A.le E) h4)
theorem qY_ {N:Nf} {t F et:TypeId} {x y:Operand} {b:Nat} {C:Option Nat} (n:Nat) {es:Array MapEntry} {c:Nat} {ks:List Str} {k:Str} (G:KeyT P F str) (X:∀ w,(underlying t).run P w=.ok (.map F et) w)
    (B:Fr.ev fr x=some (.map (some b))) (Y:Fr.ev fr y=some (str k)) (hi:H[n]? = some (b,.map es c)) (hE:SetE str es ks) (hB:Born es c) (hd:C=none)
    (Q:∀ h,SetE str h (ks.filter fun q=>decide (q≠k))→Born h c→Ops P R N v0 H0 ops lo Kk fr (H.set n (b,.map h c)) Γ):Ops P R N v0 H0 ops (⟨C,.call ⟨.builtin .delete,#[x,y],#[t,F]⟩,ty,ps,af,none⟩::lo) Kk fr H Γ :=
  cD_ rfl fun a v E U h3 h4=>by
    subst hd;have K:=(U.own _ (List.mem_of_getElem? hi)).1;have Z:=MapKept.run_getObj_map (P:=P) K
    obtain⟨h,V,W,S⟩:∃ h,(execOp a.eval ⟨none,.call ⟨.builtin .delete,#[x,y],#[t,F]⟩,ty,ps,af,none⟩).run P v.w=.ok (.value (.tuple #[])) { v.w with heap:=v.w.heap.setIfInBounds b (.map h c) }∧SetE str h (ks.filter fun q=>decide (q≠k))∧Born h c:=by
      by_cases hk:k∈ks
      · obtain⟨i,e,I,J,g3,g4,g5⟩:=hE.yes G hk
        have L:i<es.size:=by
          have:=(Array.getElem?_eq_some_iff.1 J).1;exact this
        have m:(es.eraseIdxIfInBounds i).toList=es.toList.eraseIdx i:=by
          unfold Array.eraseIdxIfInBounds;rw[dif_pos L];simp
        have M:=MapKept.run_setObj_map (P:=P) (.map (es.eraseIdxIfInBounds i) c) K
        have A:ks.eraseIdx i=ks.filter fun q=>decide (q≠k):=by
          have h9:ks.erase k=ks.filter (fun q=>q != k):=hE.nd.erase_eq_filter k
          have h8:ks.erase k=ks.eraseIdx i:=by
            have T:=(List.getElem?_eq_some_iff.1 I).1;rw[List.erase_eq_eraseIdx_of_idxOf (i:=i)];have e1:=(List.getElem?_eq_some_iff.1 I).2;rw[← e1];exact hE.nd.idxOf_getElem i T
          rw[← h8,h9]
          congr 1
          funext q
          by_cases O:q=k<;>simp[O]
        refine⟨es.eraseIdxIfInBounds i,?_,⟨?_,fun x B=>?_,?_⟩,⟨fun x B=>?_,?_⟩⟩
        · simp[execOp,resolve,invoke,builtin,E.ev B,E.ev Y,Builtin.delete_,X,Z,G.ok _ _ _,g5 _,M,Result.andThen]
        · rw[m,← A,nO_,nO_,hE.keys]
        · rw[m]at B;exact hE.vals x ((List.eraseIdx_sublist _ _).subset B)
        · exact hE.nd.filter _
        · rw[m]at B;exact hB.lt x ((List.eraseIdx_sublist _ _).subset B)
        · rw[m];exact hB.nd.sublist ((List.eraseIdx_sublist _ _).map _)
      · have M:=MapKept.run_setObj_map (P:=P) (.map es c) K
        have hf:=hE.no G hk
        have A:(ks.filter fun q=>decide (q≠k))=ks:=List.filter_eq_self.2 fun q O=>by
          have:q≠k:=fun e=>hk (e▸O)
          simpa using this
        refine⟨es,?_,by rw[A];exact hE,hB⟩;simp[execOp,resolve,invoke,builtin,E.ev B,E.ev Y,Builtin.delete_,X,Z,G.ok _ _ _,hf _,M,Result.andThen]
    unfold Oper.wp;rw[V];have hh:=MapKept.heap_set (o':=.map h c) K;obtain⟨I,J⟩:=ff_ (w':={ v.w with heap:=v.w.heap.setIfInBounds b (.map h c) }) U hi rfl rfl rfl (Nat.le_refl _) zC_ hh.1 (fun k hk=>hh.2 k hk);exact Q h W S a _ E I (h3.trans J) (az_ (J.le U) h4)
end
end Go.Sx
namespace Go.Vs
open Go Go.Sx
def Con.nds:Con→List Con
  | .mk k nm lo hi ad cap ps=>.mk k nm lo hi ad cap ps::ndsL ps
where ndsL:List Con→List Con
  | []=>[]
  | p::ps=>nds p++ndsL ps
theorem tq_:∀ ps:List Con,Con.nds.ndsL ps=ps.flatMap Con.nds
  | []=>rfl
  | p::ps=>by rw[Con.nds.ndsL,tq_ ps,List.flatMap_cons]
theorem Con.nds_eq (c:Con):c.nds=c::c.parts.flatMap Con.nds:=by cases c;rw[Con.nds,tq_];rfl
theorem tp_:∀ (n:Nat) (c:Con),c.sz≤n→c.nds.length≤c.sz
  | 0,c,h=>by have:=c.sz_pos;omega
  | n+1,c,h=>by
    have e:∀ ps:List Con,(∀ p∈ps,p.nds.length≤p.sz)→(ps.flatMap Con.nds).length≤Con.sz.szs ps:=by
      intro ps
      induction ps with
      | nil=>intro _;simp[Con.sz.szs]
      | cons p ps ih =>
        intro d;rw[List.flatMap_cons,List.length_append,Con.sz.szs];have m:=d p zC_;have v:=ih fun q k=>d q zaX_
        omega
    rw[Con.nds_eq,List.length_cons,Con.sz_eq];have:=e c.parts fun p d=>tp_ n p (by have:=Con.sz_part d;omega)
    omega
def Con.nms (k:Int) (c:Con):List Str:=(c.nds.filter fun x=>decide (x.kind=k)).map Con.name
theorem Con.nms_eq (k:Int) (c:Con):c.nms k=(if c.kind=k then [c.name] else [])++c.parts.flatMap (Con.nms k):=by
 unfold Con.nms;rw[Con.nds_eq,List.filter_cons]
 have d:∀ ps:List Con,((ps.flatMap Con.nds).filter fun x=>decide (x.kind=k)).map Con.name=ps.flatMap fun c=>(c.nds.filter fun x=>decide (x.kind=k)).map Con.name:=by
   intro ps
   induction ps with
   | nil=>rfl
   | cons p ps ih=>rw[List.flatMap_cons,List.filter_append,List.map_append,ih,List.flatMap_cons]
 by_cases h:c.kind=k
 ·rw[if_pos zag_,if_pos h,List.map_cons,d];rfl
 rw[if_neg zag_,if_neg h,d];rfl
theorem Con.nms_len (k:Int) (c:Con):(c.nms k).length≤c.sz:=by
  unfold Con.nms;rw[List.length_map];exact Nat.le_trans (List.length_filter_le _ _) (tp_ _ c (Nat.le_refl _))
theorem pb_:∀ (n:Nat) (c:Con),c.sz≤n→c.check=0→∀ x∈c.nds,x.check=0
 | 0,c,h,_=>by have:=c.sz_pos;omega
 | n+1,c,h,hc=>by
   intro x d;rw[Con.nds_eq,List.mem_cons,List.mem_flatMap]at d;rcases d with rfl|⟨p,e,d⟩
   · exact hc
   · exact pb_ n p (by have:=Con.sz_part e;omega) (Con.check_part hc e) x d
structure W2I (l:List Str) (s:Str) (i:Nat) (R:List Str) (dn:Bool):Prop where
  no:dn=false→R=l.take i∧∀ x∈l.take i,x<s
  yes:dn=true→R++l.drop i=vf_ l s
theorem tk1 {α:Type} {l:List α} {i:Nat} {x:α} (h:l[i]? = some x):l.take (i+1)=l.take i++[x]:=by rw[List.take_add_one,h];rfl
theorem tA_ {α:Type} {l:List α} {i:Nat} {x:α} (h:l[i]? = some x):l.drop i=x::l.drop (i+1):=by
  obtain⟨hi,rfl⟩:=List.getElem?_eq_some_iff.1 h;exact List.drop_eq_getElem_cons hi
theorem W2I.t {l:List Str} {s x:Str} {i:Nat} {R:List Str} (h:W2I l s i R true) (d:l[i]? = some x):W2I l s (i+1) (R++[x]) true :=
  ⟨fun q=>zba_,fun _=>by have:=h.yes rfl;rw[tA_ d]at this;rw[List.append_assoc];exact this⟩
theorem W2I.lt {l:List Str} {s x:Str} {i:Nat} {R:List Str} (h:W2I l s i R false) (hl:SrS l) (C:s≠[]) (m:l[i]? = some x) (e:s<x):W2I l s (i+1) ((R++[s])++[x]) true:=by
 obtain⟨B,y⟩:=h.no rfl;refine⟨fun q=>zba_,fun _=>?_⟩;have hi:=(List.getElem?_eq_some_iff.1 m).1
 have hk:kS l s=i:=zj_ zr_ y fun z A=>by
   rw[m,Option.some.injEq]at A;subst A;exact fun q=>List.lt_irrefl _ (List.lt_trans q e)
 have E:s ∉ l:=fun v=>by
   have k:s∈l.take i∨s∈l.drop i:=by rw[← List.mem_append,List.take_append_drop];exact v
   rcases k with q|q
   · exact List.lt_irrefl _ (y s q)
   · rw[tA_ m]at q
     rcases List.mem_cons.1 q with rfl|q
     · exact List.lt_irrefl _ e
     · have d:SrS (l.drop i):=hl.sublist (List.drop_sublist _ _)
       rw[tA_ m]at d;exact List.lt_irrefl _ (List.lt_trans ((List.pairwise_cons.1 d).1 s q) e)
 rw[tO_ C E,hk,B,tA_ m];simp
theorem ru_ {σ τ:Type} (f:Con→σ→σ):∀ (n:Nat) (c:Con),c.sz≤n→∀ s:σ,Con.fold (fun x s=>(.inl (f x s):σ ⊕ τ)) c s=.inl (c.nds.foldl (fun s x=>f x s) s)
  | 0,c,h=>by have:=c.sz_pos;omega
  | n+1,c,h=>fun s=>by
    rw[Con.fold_eq,Con.nds_eq,List.foldl_cons];dsimp only
    have e:∀ (ps:List Con),(∀ p∈ps,p.sz≤n)→∀ s:σ,Con.fold.folds (fun x s=>(.inl (f x s):σ ⊕ τ)) ps s=.inl ((ps.flatMap Con.nds).foldl (fun s x=>f x s) s):=by
      intro ps
      induction ps with
      | nil=>intro _ s;rfl
      | cons p ps ih =>
        intro d s;rw[Con.fold.folds,ru_ f n p (d p zC_) s];dsimp only;rw[ih (fun q k=>d q zaX_),List.flatMap_cons,List.foldl_append]
    exact e c.parts (fun p d=>by have:=Con.sz_part d;omega) _
end Go.Vs
namespace Go.Sx
open Go
section
variable {P:Program} {v0:Vw} {H0:Hp} {R:Exit→Act→World→Prop} {K:List Kt} {fr:Fr} {H:Hp} {Γ:List Fct}
def mks (Ds:List Nat):List Deferred:=Ds.map fun D=>{ target:=.collected D,args:=#[] }
def mkH (Ds:List Nat):Hp:=Ds.map fun D=>(D,.deferred (some []))
def xk_ {ι:Type} (N:ι→Nf) (v0:Vw) (H0:Hp) (frs:ι→Fr) (Hs:ι→Hp) (Γs:ι→List Fct) (μ:ι→Nat) (n:Nat) (a:Act) (w:World):Prop :=
  ∃ j v,v.w=w∧Fr.sat (N j) (frs j) a∧v.sat (Hs j)∧v0.to H0 v (Hs j)∧ag_ (Γs j) v∧μ j<n
theorem lc_ {ι:Type} {c:Code} {A:Nf} (N:ι→Nf) (d:ι→Fr) (Hs:ι→Hp) (q:ι→List Fct) (μ:ι→Nat) (m:ι) {F:Hp} (y:Fr.le (d m) fr) (O:H.Perm (Hs m++F)) (B:∀ v,v.sat H→ag_ Γ v→ag_ (q m) v)
    (h:∀ i,Run P R (N i) v0 H0 c (.inv (xk_ N v0 H0 d Hs q μ (μ i))::K) (d i) (Hs i) (q i)) (E:A=N m:=by rfl):Run P R A v0 H0 (.loop c) K fr H Γ:=by
  subst E;refine bC_ _ y (dW_ O B ?_);intro a v T U L W;refine wp_loop_ghost (fun n a w=>∃ i v,v.w=w∧Fr.sat (N i) (d i) a∧v.sat (Hs i)∧v0.to H0 v (Hs i)∧ag_ (q i) v∧μ i=n) (μ m) ⟨m,v,rfl,T,U,L,W,rfl⟩ ?_;rintro n a w ⟨i,v,rfl,G,Q,S,V,rfl⟩;refine wp_mono (h i a v G Q S V) fun e X w' k=>?_;cases e with
  | normal =>
    obtain⟨j,C,M,k1,k2,J,I,x⟩:=k;exact⟨μ j,x,j,C,M,k1,k2,J,I,rfl⟩
  | exit id=>exact k
  | goto l=>exact k
  | ret=>exact k
  | panic ch=>exact k
  | outgrown=>exact k
theorem jj_ {ι:Type} {h:Nf} {N:ι→Nf} {d:ι→Fr} {Hs:ι→Hp} {k:ι→List Fct} {μ:ι→Nat} {n:Nat} (j:ι) {F:Hp} (B:μ j<n) (e:Fr.le (d j) fr) (m:H.Perm (Hs j++F))
    (q:∀ v,v.sat H→ag_ Γ v→ag_ (k j) v) (A:h=N j:=by rfl):Ok h v0 H0 (xk_ N v0 H0 d Hs k μ n) fr H Γ:=by
  subst A;exact bC_ (d j) e (dW_ m q fun _ v x y C E=>⟨j,v,rfl,x,y,C,E,B⟩)
variable {N:Nat} {Ds:List Nat}
theorem retMs {fn:Func} {ι:Type} {G:Hp} {ret:ι→Value} {H':ι→Hp} {Γ':ι→List Fct} (x:ι) (J:∀ (a:Act) (v:Vw),Fr.sat (⟨N,mks Ds⟩:Nf) fr a→v.sat G→ag_ Γ v→(results fn a.tmps).run P v.w=.ok (ret x) v.w) (E:H.Perm (mkH Ds++G))
    (L:∃ A,G.Perm (H' x++A)) (I:∀ v,v.sat G→ag_ Γ v→ag_ (Γ' x) v):Ok ⟨N,mks Ds⟩ v0 H0 (bodyPostM Fence.wide 0 P fn (kV_ v0 H0 ret H' Γ') .ret) fr H Γ:=by
  intro a v F Q M T;show LeavesInM Fence.wide 0 P fn a.tmps _ a.defers .returning v.w
  rw[F.defers];obtain⟨A,m⟩:=L
  have y:∀ (e:List Nat) (d:Vw),d.sat (mkH e++G)→v0.to H0 d (mkH e++G)→ag_ Γ d→LeavesInM Fence.wide 0 P fn a.tmps (kV_ v0 H0 ret H' Γ') (mks e) .returning d.w:=by
    intro e
    induction e with
    | nil =>
      intro d k1 k2 q
      exact⟨ret x,J a d F k1 q,x,d,rfl,rfl,(Vw.sat.perm k1 m).sub,I d k1 q,k2.subR fun b k=>by
        have:b∈(H' x++A).map Prod.fst:=by rw[List.map_append];exact List.mem_append_left _ k
        exact (m.map Prod.fst).mem_iff.2 this⟩
    | cons D e ih =>
      intro d k1 k2 q;have hl:=(k1.own (D,.deferred (some [])) List.mem_cons_self).1;have h:d.sat ((D,.deferred (some []))::(mkH e++G)):=k1;obtain⟨B,C⟩:=fg_ (o':=.deferred none) h;have O:(⟨d.im,d.w.putObj D (.deferred none),d.sl⟩:Vw).sat (mkH e++G):=⟨fun p S=>B.own p (List.mem_cons_of_mem _ S),by have:=B.nodup;rw[List.map_cons,List.nodup_cons]at this;exact this.2,B.lt⟩;exact⟨by simp,.inl ⟨D,_,rfl,run_takeDeferred hl,ih ⟨d.im,_,d.sl⟩ O ((k2.trans C).subR fun b k=>List.mem_cons_of_mem _ k) (az_ (C.le h) q)⟩⟩
  exact y Ds v (Q.perm E) (M.subR fun b k=>(E.map Prod.fst).mem_iff.2 k) T
theorem sd_ {σ α:Type} {g:Operand} {U:Nat} {assign body:Code} {J:FuncId} {caps:List Value} {Hj:σ→Hp} {Hc:Hp} {Γx:α→List Fct} {Γi:List Fct} {xv:α→Value} {good:α→Prop} {stp:α→σ→σ ⊕ Empty}
    (V:σ) (res:σ ⊕ Empty) (hg:Fr.ev fr g=some (.func (.func J) #[] caps.toArray)) (hH:H.Perm (Hc++Hj V)) (T:∀ v,v.sat H→ag_ Γ v→ag_ Γi v)
    (y:∀ l D (d:Loop),d.params=#[U]→d.state=.ready→d.pending=none→Fr.sat N fr ⟨d.tmps,[]⟩→d.assign=assign→d.body=body→∀ s x,good x →
      jw_ P l (xv x) (Hj s++HLp l D d) (Γx x) (fun _:Unit=>.bool (stp x s).isLeft) (fun _=>oa_ (fun s'=>Hj s'++HLp l D d) (fun _=>HLp l D { d with state:=.done,pending:=some .ret }) (stp x s)) (fun _=>[]))
    (O:∀ l (Gj:σ→Hp) (Gx:Empty→Hp),(∀ s x,good x→jw_ P l (xv x) (Gj s) (Γx x) (fun _:Unit=>.bool (stp x s).isLeft) (fun _=>oa_ Gj Gx (stp x s)) (fun _=>[])) →
      Tri P J (.func (.yield l) #[] #[]::caps).toArray (Hc++Gj V) Γi (fun _:Unit=>.tuple #[]) (fun _=>Hc++oa_ Gj Gx res) (fun _=>[]))
    (C:∀ s',res=.inl s'→∀ D l r,Fin P R ⟨N,mks (D::Ds)⟩ v0 H0 K fr (Hc++Hj s'++HLp l D r) Γ) :
    Run P R ⟨N,mks Ds⟩ v0 H0 (.rangeFunc g #[U] assign body) K fr H Γ:=by
  intro a v E F h3 h4;refine wpIn_wide (n:=0) |>.1 (wpIn_mono (Q:=ez_ Fence.wide 0 P R K) (wpIn_rangeFunc fun fn _=>?_) fun e a w hq=>bA_ K e a w hq)
  obtain⟨a1,a2⟩:=gf_ (w':=v.w.alloc (.deferred (some []))) (o:=.deferred (some [])) F rfl rfl rfl rfl (Nat.le_refl _);obtain⟨d,k⟩:∃ d:Loop,d={ state:=.ready,pending:=none,fn,tmps:=a.tmps,params:=#[U],assign,body,defers:=v.w.heap.size }:=⟨_,rfl⟩;obtain⟨b1,b2⟩:=gf_ (w':=(v.w.alloc (.deferred (some []))).alloc (.loop d)) (o:=.loop d) a1 rfl rfl rfl rfl (Nat.le_refl _);have I:(v.w.alloc (Obj.deferred (some []))).heap.size=v.w.heap.size+1:=by simp
  have S:(⟨v.im,(v.w.alloc (.deferred (some []))).alloc (.loop d),v.sl⟩:Vw).sat ((v.w.heap.size+1,.loop d)::(v.w.heap.size,.deferred (some []))::H):=I▸b1;have B:v.to H ⟨v.im,(v.w.alloc (.deferred (some []))).alloc (.loop d),v.sl⟩ ((v.w.heap.size+1,.loop d)::(v.w.heap.size,.deferred (some []))::H):=a2.trans (I▸b2)
  have m:((v.w.heap.size+1,Obj.loop d)::(v.w.heap.size,.deferred (some []))::H).Perm (Hc++(Hj V++HLp (v.w.heap.size+1) v.w.heap.size d)):=by
    rw[← List.append_assoc];exact (List.perm_append_comm (l₁:=HLp (v.w.heap.size+1) v.w.heap.size d) (l₂:=H)).trans (hH.append_right _)
  have hT:=O (v.w.heap.size+1) (fun s=>Hj s++HLp (v.w.heap.size+1) v.w.heap.size d) (fun _=>HLp (v.w.heap.size+1) v.w.heap.size { d with state:=.done,pending:=some .ret })
    (y _ _ d zbc_ zbc_ zbc_ (by rw[k];exact⟨E.size,rfl,E.val⟩) zbc_ zbc_)
  have L:=az_ (B.le F) (T v F h4);have hΓ3:=az_ (B.le F) h4;have he:=E.ev hg;refine⟨v.w.heap.size+1,ox_ v.w.heap.size,(v.w.alloc (.deferred (some []))).alloc (.loop d),⟨.fn (.func J) caps.toArray,#[.func (.yield (v.w.heap.size+1)) #[] #[]]⟩,(v.w.alloc (.deferred (some []))).alloc (.loop d),J,(.func (.yield (v.w.heap.size+1)) #[] #[]::caps).toArray,_,?_,?_,fun _ _=>trivial,?_,fun h=>(by cases h),callsIn_wide.2 ((hT.run ⟨v.im,_,v.sl⟩ (S.perm m) L).mono ?_)⟩
  · rw[k];exact run_enterLoop_outer _ _ _ _ _
  · simp only[resolve,rangeCall,List.map_toArray,List.map_cons,List.map_nil,he,Deferred.ofValue]
    rfl
  · have:=hT.callable (.func (.yield (v.w.heap.size+1)) #[] #[]::caps).toArray ((v.w.alloc (.deferred (some []))).alloc (.loop d))
    simpa [invoke] using this
  · rintro e w' ⟨_,v',rfl,rfl,g1,g2,g3⟩
    have G:=B.trans (g3.permL m.symm);have M:=az_ (G.le F) h4;have Z:∀ D,Fr.sat ⟨N,mks (D::Ds)⟩ fr { a with defers:=ox_ D++a.defers }:=fun D=>⟨E.size,by show ox_ D++a.defers=_;rw[E.defers];rfl,E.val⟩
    have A:∀ (X Y:Hp) r,(Y++(X++HLp (v.w.heap.size+1) v.w.heap.size r)).Perm ((v.w.heap.size+1,.loop r)::(Y++X++[(v.w.heap.size,.deferred (some []))])):=fun X Y r=>by
      unfold HLp;rw[← List.append_assoc];exact List.perm_middle
    cases res with
    | inl s' =>
      have q:=g1.perm (A (Hj s') Hc d);have hl:=(q.own _ List.mem_cons_self).1;obtain⟨z1,z2⟩:=fg_ (o':=.loop { d with state:=.exhausted }) q
      have zp:((v.w.heap.size+1,Obj.loop { d with state:=.exhausted })::(Hc++Hj s'++[(v.w.heap.size,.deferred (some []))])).Perm (Hc++Hj s'++HLp (v.w.heap.size+1) v.w.heap.size { d with state:=.exhausted }):=by
        have:=(A (Hj s') Hc { d with state:=.exhausted }).symm;rw[← List.append_assoc]at this;exact this
      refine⟨d.pending,_,run_endLoop hl (by rw[k];simp),?_⟩;have W:d.pending=none:=by rw[k]
      split
      case h_2=>rename_i c hc;rw[W]at hc;cases hc
      exact cb_ K .normal _ _ (C s' rfl _ _ _ _ ⟨v'.im,_,v'.sl⟩ (Z _) (z1.perm zp) (h3.trans (G.trans ((z2.permL (A _ _ _).symm).subR fun b hb=>(zp.map Prod.fst).mem_iff.2 hb))) (az_ (z2.le q) M))
    | inr t=>exact nomatch t
end
end Go.Sx
namespace Go.Vs
open Go Go.Sx
def Ax.vc (k:Int) (x:Ax):List Str:=x.left.nms k++x.right.nms k++(if k=6 then x.roles++[x.role] else [])++(if k=4 then [x.a,x.b] else [])
def vcL (k:Int) (l:List Ax):List Str:=l.flatMap (Ax.vc k)
theorem vh_ {k:Int} {l:List Ax} {i:Nat} {x:Ax} (h:l[i]? = some x):vcL k (l.take (i+1))=vcL k (l.take i)++x.vc k:=by
  unfold vcL;rw[List.take_add_one,h,List.flatMap_append];simp
def StM.nil:StM:=⟨#[],0,[],SetE.nil,Born.nil 0⟩
structure VI (s:StM) (D:List Str):Prop where
  mem:∀ n,n∈s.ks↔n∈D
  len:s.ks.length≤D.length
theorem VI.add {s:StM} {D:List Str} (h:VI s D) (k:Str):VI (s.add k) (D++[k]) :=
  ⟨fun n=>by rw[StM.mem,h.mem];simp,by have:=StM.len (s:=s) (k:=k);have:=h.len;rw[List.length_append];simp;omega⟩
theorem VI.cg {s:StM} {D E:List Str} (h:VI s D) (e:D=E):VI s E:=e▸h
abbrev S4:=StM×StM×StM×StM
def eE_ (x:Con) (s:S4):S4:=if x.kind=3 then (s.1.add x.name,s.2) else if x.kind=6 then (s.1,s.2.1.add x.name,s.2.2) else if x.kind=7 then (s.1,s.2.1,s.2.2.1.add x.name,s.2.2.2) else if x.kind=4 then (s.1,s.2.1,s.2.2.1,s.2.2.2.add x.name) else s
structure V4 (s:S4) (D:Int→List Str):Prop where
  c:VI s.1 (D 3)
  r:VI s.2.1 (D 6)
  f:VI s.2.2.1 (D 7)
  i:VI s.2.2.2 (D 4)
theorem V4.nil:V4 (StM.nil,StM.nil,StM.nil,StM.nil) (fun _=>[]):=⟨⟨fun n=>by simp[StM.nil],by simp[StM.nil]⟩,⟨fun n=>by simp[StM.nil],by simp[StM.nil]⟩,⟨fun n=>by simp[StM.nil],by simp[StM.nil]⟩,⟨fun n=>by simp[StM.nil],by simp[StM.nil]⟩⟩
theorem V4.cg {s:S4} {D E:Int→List Str} (h:V4 s D) (e:∀ k,D k=E k):V4 s E:=⟨h.c.cg (e 3),h.r.cg (e 6),h.f.cg (e 7),h.i.cg (e 4)⟩
theorem V4.put {s:S4} {D:Int→List Str} (h:V4 s D) (x:Con):V4 (eE_ x s) (fun k=>D k++if x.kind=k then [x.name] else []):=by
 unfold eE_
 split
 ·rename_i q;exact⟨(h.c.add _).cg (by rw[if_pos q]),h.r.cg (by rw[if_neg zr_];simp),h.f.cg (by rw[if_neg zr_];simp),h.i.cg (by rw[if_neg zr_];simp)⟩
 split
 ·rename_i q;exact⟨h.c.cg (by rw[if_neg zr_];simp),(h.r.add _).cg (by rw[if_pos q]),h.f.cg (by rw[if_neg zr_];simp),h.i.cg (by rw[if_neg zr_];simp)⟩
 split
 ·rename_i q;exact⟨h.c.cg (by rw[if_neg zr_];simp),h.r.cg (by rw[if_neg zr_];simp),(h.f.add _).cg (by rw[if_pos q]),h.i.cg (by rw[if_neg zr_];simp)⟩
 split
 ·rename_i q;exact⟨h.c.cg (by rw[if_neg zr_];simp),h.r.cg (by rw[if_neg zr_];simp),h.f.cg (by rw[if_neg zr_];simp),(h.i.add _).cg (by rw[if_pos q])⟩
 rename_i m v d e;exact⟨h.c.cg (by rw[if_neg m];simp),h.r.cg (by rw[if_neg v];simp),h.f.cg (by rw[if_neg d];simp),h.i.cg (by rw[if_neg e];simp)⟩
theorem V4.fold:∀ (L:List Con) {s:S4} {D:Int→List Str},V4 s D→V4 (L.foldl (fun s x=>eE_ x s) s) (fun k=>D k++(L.filter fun x=>decide (x.kind=k)).map Con.name)
  | [],s,D,h=>h.cg fun k=>by simp
  | x::L,s,D,h=>(V4.fold L (h.put x)).cg fun k=>by
    rw[List.filter_cons,List.append_assoc]
    by_cases q:x.kind=k<;>simp[q]
theorem V4.side {s:S4} {D:Int→List Str} {C:List Con} {j:Nat} {c:Con} (h:V4 s fun k=>D k++(C.take j).flatMap (Con.nms k)) (d:C[j]? = some c):V4 (c.nds.foldl (fun s x=>eE_ x s) s) (fun k=>D k++(C.take (j+1)).flatMap (Con.nms k)) :=
  (V4.fold c.nds h).cg fun k=>by
    rw[tk1 d,List.flatMap_append,List.append_assoc];simp[Con.nms]
def S4.addR (s:S4) (n:Str):S4:=(s.1,s.2.1.add n,s.2.2)
def S4.addI (s:S4) (n:Str):S4:=(s.1,s.2.1,s.2.2.1,s.2.2.2.add n)
theorem V4.addR {s:S4} {D:Int→List Str} (h:V4 s D) (n:Str):V4 (s.addR n) (fun k=>D k++if k=6 then [n] else []) :=
  ⟨h.c.cg zC_,(h.r.add n).cg zC_,h.f.cg zC_,h.i.cg zC_⟩
theorem V4.addI {s:S4} {D:Int→List Str} (h:V4 s D) (n:Str):V4 (s.addI n) (fun k=>D k++if k=4 then [n] else []) :=
  ⟨h.c.cg zC_,h.r.cg zC_,h.f.cg zC_,(h.i.add n).cg zC_⟩
theorem V4.role {s:S4} {D:Int→List Str} {L:List Str} {j:Nat} {n:Str} (h:V4 s fun k=>D k++if k=6 then L.take j else []) (d:L[j]? = some n):V4 (s.addR n) (fun k=>D k++if k=6 then L.take (j+1) else []) :=
  (h.addR n).cg fun k=>by by_cases q:k=6<;>simp[q,tk1 d]
theorem V4.axm {s:S4} {l:List Ax} {i:Nat} {x:Ax} (h:V4 s fun k=>(vcL k (l.take i)++[x.left,x.right].flatMap (Con.nms k))++if k=6 then x.roles else []) (e:l[i]? = some x):V4 (((s.addR x.role).addI x.a).addI x.b) (fun k=>vcL k (l.take (i+1))) :=
 (((h.addR x.role).addI x.a).addI x.b).cg fun k=>by
   rw[vh_ e];unfold Ax.vc
   by_cases q:k=6
   · subst q;simp
   · by_cases d:k=4
     · subst d;simp
     · simp[q,d]
theorem vc_len {x:Ax} {k:Int} (d:x.left.sz≤1000000) (e:x.right.sz≤1000000) (h:x.roles.length≤1000000):(x.vc k).length≤4000000:=by
  unfold Ax.vc;have:=Con.nms_len k x.left;have:=Con.nms_len k x.right;rw[List.length_append,List.length_append,List.length_append]
  split<;>split<;>simp<;>omega
theorem tc_ {k:Int}:∀ {l:List Ax},(∀ x∈l,x.left.sz≤1000000∧x.right.sz≤1000000∧x.roles.length≤1000000)→(vcL k l).length≤4000000*l.length
  | [],_=>by simp[vcL]
  | x::l,h=>by
    have e:=tc_ (k:=k) (l:=l) fun y d=>h y zah_
    obtain⟨a,b,c⟩:=h x zC_;have m:=vc_len (k:=k) a b c;unfold vcL at e ⊢;rw[List.flatMap_cons,List.length_append,List.length_cons];omega
theorem fP_ {l:List Str} (hl:l.Nodup):SrS (bg_ l):=by
 have e:=gs_ l;have d:(bg_ l).Nodup:=(List.mergeSort_perm _ _).nodup_iff.2 hl;unfold List.Nodup at d;refine List.Pairwise.imp (fun {a b} hab=>?_) (e.and d)
 by_cases g:a<b
 ·exact g
 exact absurd (List.le_antisymm hab.1 (List.not_lt.1 g)) hab.2
def lu_ (k:Int) (l:List Ax) (Y:List Str):Prop:=SrS Y∧∀ n,n∈Y↔n∈vcL k l∧(k=6∨k=4→n≠[])
theorem lu_.of {k:Int} {l:List Ax} {s:StM} (h:VI s (vcL k l)) (hk:k≠6∧k≠4):lu_ k l (bg_ s.ks) :=
  ⟨fP_ s.hE.nd,fun n=>by rw[List.mem_mergeSort,h.mem];exact⟨fun q=>⟨q,fun r=>by rcases r with r|r;exact absurd r hk.1;exact absurd r hk.2⟩,fun q=>q.1⟩⟩
theorem lu_.ofD {k:Int} {l:List Ax} {s:StM} (h:VI s (vcL k l)) (hk:k=6∨k=4):lu_ k l (bg_ (s.ks.filter fun q=>decide (q≠[]))) :=
  ⟨fP_ (s.hE.nd.filter _),fun n=>by rw[List.mem_mergeSort,List.mem_filter,h.mem];exact⟨fun q=>⟨q.1,fun _=>by simpa using q.2⟩,fun q=>⟨q.1,by simpa using q.2 hk⟩⟩⟩
end Go.Vs
