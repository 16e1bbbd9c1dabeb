/-
  Part of the proof of the law CanonAsksSpec over this seat: the small logic, the data, the contracts of functions (no condition).
-/
import Derived.Test.YtpbnmnfdgckaiaaGreatDoorQCanonAsksSpec14
import Derived.Test.YtpbnmnfdgckaiaaGreatDoorQCanonAsksSpec11
import Derived.Test.YtpbnmnfdgckaiaaGreatDoorQCanonAsksSpec6
import Derived.Test.YtpbnmnfdgckaiaaGreatDoorQCanonAsksSpec3
import Derived.Test.YtpbnmnfdgckaiaaGreatDoorRows
import Derived.Test.YtpbnmnfdgckaiaaGreatDoorQCanonAsksSpec10
import Derived.Test.YtpbnmnfdgckaiaaGreatDoorQCanonAsksSpec8
set_option linter.unusedVariables false
set_option linter.unusedSimpArgs false
set_option linter.unusedSectionVars false
set_option maxHeartbeats 1000000
namespace Go.Proofs.YtpbnmnfdgckaiaaGreatDoor
open Go Go.Sx Go.Proofs
attribute [local irreducible] Code.wp wpList wpAnyH
open Go.Vs Go.Shelf Go.RowKit
def L22 (ad:Option Addr):List Ax:=[Ax.mk 1 false (Con.mk 3 [65] 0 0 none 0 []) (Con.mk 6 [114] 0 0 ad 1 [(Con.mk 3 [66] 0 0 none 0 [])]) none 0 [] [] [] [],Ax.mk 8 false (Con.mk 0 [] 0 0 none 0 []) (Con.mk 3 [65] 0 0 none 0 []) none 0 [] [] [97] []]
def P22:List Pc:=[⟨3,[60,115,111,109,101,32,114,32,66,62],[],[66],[114],[],[],0,0,0⟩,⟨1,[65],[],[60,115,111,109,101,32,114,32,66,62],[],[],[],0,0,0⟩,⟨1,[123,97,125],[],[65],[],[],[],0,0,1⟩]
theorem yG_ (ad:Option Addr):∀ x∈L22 ad,x.check=0:=fun x d=>by
  unfold L22 at d;simp only[List.mem_cons,List.not_mem_nil,or_false]at d;rcases d with rfl|rfl<;>kernel_rfl
theorem L22_ok (ad:Option Addr):∀ x∈L22 ad,x.ok:=fun x d=>by
  unfold L22 at d;simp only[List.mem_cons,List.not_mem_nil,or_false]at d;rcases d with rfl|rfl<;>(constructor<;>simp[Con.ok,Con.ok.oks])
theorem nT_ (ad:Option Addr):cF_ 0 (L22 ad)=P22:=by kernel_rfl
theorem uB_ (ad:Option Addr):cV_ (L22 ad)=[]:=by kernel_rfl
theorem rn_:¬ pQ_ []:=fun⟨n,f,c,d,_,e,_⟩=>by have:=e 0 d;cases this
def A22:List Str:=[[33],[42],[60,115,111,109,101,32,114,32,66,62],[65],[66],[123,97,125]]
theorem tu_:atS P22=A22:=hn_ gq_ List.lt_trans (nR_ P22) ze_ fun x=>by
 rw[iZ_,fZ_];simp only[cQ_,kY_,P22,A22,List.flatMap_cons,List.flatMap_nil,List.mem_append,List.mem_cons,List.not_mem_nil,or_false];simp
 constructor
 ·intro h
  simp only[or_assoc]at h;rcases h with rfl|rfl|rfl|rfl|rfl|rfl|rfl|rfl<;>simp
 rintro (rfl|rfl|rfl|rfl|rfl|rfl)<;>simp
theorem wN_:atS []=[[33],[42]]:=hn_ gq_ List.lt_trans (nR_ []) ze_ fun x=>by
  rw[iZ_,fZ_];simp[cQ_,or_comm]
def F22:List Fc:=nN_ P22 A22 6
theorem tx_:db_ P22=0:=by decide +kernel
theorem wU_:gD_ P22 A22 65536 (some F22):=rm_ (oS_ tx_) 6 65536 zad_ zad_
theorem F0_is:gD_ [] [[33],[42]] 65536 (some (nN_ [] [[33],[42]] 3)):=rm_ (fun x d=>by simp at d) 3 65536 zad_ zad_
theorem yI_ {s t:Str} (h:t∈nxD (dz_ P22 F22) s):s∈[[60,115,111,109,101,32,114,32,66,62],[65],[123,97,125]]∧t=[66]:=by
  have d:((dz_ P22 F22).all fun e=>decide (e.1∈[[60,115,111,109,101,32,114,32,66,62],[65],[123,97,125]])&&decide (e.2.b=[66]))=true:=by decide +kernel
  obtain⟨z,q,rfl⟩:=kb_.1 h;have:=List.all_eq_true.1 d _ q;simp only[Bool.and_eq_true,decide_eq_true_eq]at this;exact this
theorem wV_:([123,97,125],aa_ [123,97,125] [114] [66])∈dz_ P22 F22:=by decide +kernel
theorem N22:of_ (dz_ P22 F22) (el_ A22) [[123,97,125],[66]]:=by
 have d:el_ A22=[[123,97,125]]:=by decide +kernel
 refine⟨[[66]],by simp,by rw[d,aT_,List.mergeSort_singleton];rfl,by rw[d];decide,fun s=>?_⟩;rw[d];constructor
 ·rintro (h|h)
  ·exact .zero h
  rw[List.mem_singleton.1 h];exact .step (.zero (List.mem_singleton.2 rfl)) (kb_.2 ⟨_,wV_,rfl⟩)
 intro h
 induction h with
 | zero h=>exact .inl h
 | step _ ht _=>exact .inr (List.mem_singleton.2 (yI_ ht).2)
theorem bld22 {ad:Option Addr} {m:Mdl} {e:Int} (h:wW_ (L22 ad) m e):e=0∧m.no=[[123,97,125],[66]]∧m.di=[aa_ [123,97,125] [114] [66]]∧Z_ [123,97,125] [65]∈m.ty∧vl_ m [123,97,125] [114] [66]=true∧MdV m:=by
 have I:e=0:=by
   rcases h with⟨h,_⟩|⟨_,_,⟨x,J,h⟩|h|⟨_,c,h⟩⟩
   · exact h
   · exact absurd (yG_ ad x J) h
   · rw[uB_]at h;exact absurd h rn_
   · rw[nT_]at h
     exact ((tv_ h tx_ ze_ ze_ (r:=some F22) (by rw[tu_];exact wU_)).1 _ rfl).1
 subst I;obtain⟨c,h⟩:=h.bok rfl;have y:=h.fs;have A:=h.at';have d:=h.asm;have C:=h.mdV;rw[nT_,tu_]at y A;rw[nT_]at d;have F:c.facts=F22:=by have:=gD_.uniq y wU_;exact Option.some.inj this
 have G:=d.nd;rw[F,A]at G;have q:=G.uniq N22
 have B:m.di=[aa_ [123,97,125] [114] [66]]:=by
   refine Srt.ext d.di.1 zj_ fun z=>?_;rw[d.di.2,q,F,List.mem_singleton];constructor
   · rintro ⟨s,K,H⟩
     have E:((dz_ P22 F22).all fun e=>!decide (e.1∈[[123,97,125],[66]])||decide (e.2=aa_ [123,97,125] [114] [66]))=true:=by decide +kernel
     have:=List.all_eq_true.1 E _ H;simpa [K] using this
   · rintro rfl
     exact⟨_,by simp,wV_⟩
 refine⟨rfl,q,B,(d.ty.2 _).2 ⟨by rw[F];decide +kernel,rfl,by rw[q];simp[Z_]⟩,?_,C⟩;rw[ho_ ze_];refine ga_ (x:=aa_ [123,97,125] [114] [66]) (by rw[B];simp) (mS_ rfl ?_);unfold oc_;rfl
theorem bld0 {m:Mdl} {e:Int} (h:wW_ [] m e):e=0∧m.no=[]:=by
 have A:e=0:=by
   rcases h with⟨h,_⟩|⟨_,_,⟨x,C,h⟩|h|⟨_,c,h⟩⟩
   · exact h
   · cases C
   · exact absurd h rn_
   · exact ((tv_ (p:=[]) h zad_ ze_ ze_ (r:=some _) (by rw[wN_];exact F0_is)).1 _ rfl).1
 subst A;obtain⟨c,h⟩:=h.bok rfl;refine⟨rfl,List.eq_nil_iff_forall_not_mem.2 fun s E=>?_⟩;have d:=(h.rch s).1 E
 have y:∀ t,¬ RchS (nxD (dz_ (cF_ 0 []) c.facts)) (el_ (atS (cF_ 0 []))) t:=fun t q=>by
   have B:el_ (atS (cF_ 0 []))=[]:=by rw[show cF_ 0 []=[] from rfl,wN_];decide +kernel
   rw[B]at q
   induction q with
   | zero h=>cases h
   | step _ _ ih=>exact ih
 exact y s d
theorem uW_:iC_ Tryz.prog 42 [(0,1),(1,1),(2,5),(7,5),(12,1),(13,1),(14,1),(15,1)] [.int .i64 0,.bool false,.int .i64 0,str [],.int .i64 0,.int .i64 0,.slice none 0 0,.int .i64 0,str [],.int .i64 0,.int .i64 0,.slice none 0 0,.slice none 0 0,str [],str [],str []]:=⟨_,dr_,cJ_,fun w=>by simp[au_,dU_,I_,ck_,M_]⟩
theorem kN_ (s:Str):Fn0 Tryz.prog 26 #[str s] (Con.val (Con.mk 3 s 0 0 none 0 [])):=by
  refine i_ Tryz.func26 rfl rfl Tryz.ntmps26 rfl fun x=>?_;refine Zz 2 ?_;refine E_ bQ_ rfl fun y=>Zz 5 ?_
  refine e_ (J_ rC_ rfl rfl) rfl (z_ 0 M_ rfl rfl rfl rfl rfl rfl (Zz 3 ?_));exact gb_ () (fun e v d q=>dE_ (us:=Con.cells (Con.mk 3 s 0 0 none 0 [])) 0 Tryz.results26 aN_ M_ rfl rfl rfl e v d q) f_ (fun v _ h=>trivial)
theorem vh_:Tri Tryz.prog 7 #[] [] [cn_,lQ_] (fun _:Unit=>.bool true) (fun _=>[]) (fun _=>[]):=by
 refine i_ Tryz.func7 rfl rfl Tryz.ntmps7 rfl fun v_1=>?_;refine bf_ ?_;refine aI_ ?_;refine e_ (ay_ rfl) rfl ?_;refine bs_ ?_;refine aY_ rfl ?_;refine bf_ ?_;refine aI_ ?_;refine j_ (kN_ [65]) rfl f_ zt rfl fun _=>?_;refine j_ (kN_ [66]) rfl f_ zt rfl fun _=>?_;refine X_ ag_ M_ bQ_ rfl rfl rfl rfl rfl rfl fun X=>?_;refine cL_ (List.flatMap Con.cells [(Con.mk 3 [66] 0 0 none 0 [])]) d_ rfl ?_;refine e_ (J_ rC_ rfl rfl) rfl ?_;refine e_ (J_ uW_ rfl rfl) rfl ?_;refine j_ (kN_ [65]) rfl f_ zt rfl fun _=>?_;refine e_ (J_ uW_ rfl rfl) rfl ?_;refine X_ bd_ bS_ dr_ rfl rfl rfl rfl rfl rfl fun b_2=>?_;refine cL_ (List.flatMap Ax.cells [(Ax.mk 1 false (Con.mk 3 [65] 0 0 none 0 []) (Con.mk 6 [114] 0 0 (some ⟨X,0,none⟩) 1 [(Con.mk 3 [66] 0 0 none 0 [])]) none 0 [] [] [] []),(Ax.mk 8 false (Con.mk 0 [] 0 0 none 0 []) (Con.mk 3 [65] 0 0 none 0 []) none 0 [] [] [97] [])]) d_ rfl ?_;refine e_ (ay_ rfl) rfl ?_;refine bs_ ?_;refine aY_ rfl ?_;refine bf_ ?_;refine aI_ ?_;refine e_ (al_ rfl) rfl ?_;refine j_ (tq_ [(Ax.mk 1 false (Con.mk 3 [65] 0 0 none 0 []) (Con.mk 6 [114] 0 0 (some ⟨X,0,none⟩) 1 [(Con.mk 3 [66] 0 0 none 0 [])]) none 0 [] [] [] []),(Ax.mk 8 false (Con.mk 0 [] 0 0 none 0 []) (Con.mk 3 [65] 0 0 none 0 []) none 0 [] [] [97] [])] (some ⟨b_2,0,none⟩) 2 (L22_ok _) zj_) rfl f_ (fun v _ h=>by exact⟨⟨h.1,fun y hy=>by simp only[List.mem_cons,List.not_mem_nil,or_false]at hy;rcases hy with rfl|rfl;exact⟨⟨.inl rfl,trivial⟩,⟨h.2.1,⟨⟨.inl rfl,trivial⟩,trivial⟩⟩,(.inl rfl)⟩;exact⟨⟨.inl rfl,trivial⟩,⟨.inl rfl,trivial⟩,(.inl rfl)⟩⟩,h.2.2.1,h.2.2.2.1,trivial⟩) rfl fun⟨⟨d,e_1⟩,P,L⟩=>?_;dsimp only;dsimp only at P L;obtain⟨rfl,E,M,a6,V,a3⟩  :=bld22 (ad:=(some ⟨X,0,none⟩)) P;refine e_ (al_ rfl) rfl ?_;refine e_ (bC_ rfl rfl) rfl ?_;refine e_ (bC_ rfl rfl) rfl ?_;refine E_ pT_ rfl fun b_3=>?_;refine z_ 0 bL_ rfl rfl rfl rfl rfl rfl ?_;refine e_ (ay_ rfl) rfl ?_;refine bs_ ?_;refine aY_ rfl ?_;refine bf_ ?_;refine aI_ ?_;refine j_ (tq_ ([]:List Ax) none 0 (fun x hx=>by cases hx) ze_) rfl f_ (fun v _ h=>by exact⟨⟨.inl rfl,fun x hx=>by cases hx⟩,h.2.2.2.1,h.2.2.2.2.1,trivial⟩) rfl fun⟨⟨m_2,e_2⟩,Q,Z⟩=>?_;dsimp only;dsimp only at Q Z;obtain⟨rfl,a1⟩:=bld0 Q;refine e_ (al_ rfl) rfl ?_;refine e_ (bC_ rfl rfl) rfl ?_;refine e_ (bC_ rfl rfl) rfl ?_;refine E_ pT_ rfl fun b_4=>?_;refine z_ 0 bL_ rfl rfl rfl rfl rfl rfl ?_;refine e_ (ay_ rfl) rfl ?_;refine bs_ ?_;refine aY_ rfl ?_;refine bf_ ?_;have W:0<List.length (Mdl.no d):=by rw[E];decide
 obtain⟨Y,I⟩:∃ N,(Mdl.no d)[0]? = some N:=⟨_,List.getElem?_eq_getElem W⟩;have hmx_1:Y∈(Mdl.no d):=List.mem_of_getElem? I;have a5:Y=[123,97,125]:=by rw[E]at I;simpa using I.symm
 have T:1<List.length (Mdl.no d):=by rw[E];decide
 obtain⟨a7,G⟩:∃ N,(Mdl.no d)[1]? = some N:=⟨_,List.getElem?_eq_getElem T⟩;have b1:a7∈(Mdl.no d):=List.mem_of_getElem? G;have a8:a7=[66]:=by rw[E]at G;simpa using G.symm
 have S:0<List.length (Mdl.di d):=by rw[M];decide
 obtain⟨O,e⟩:∃ N,(Mdl.di d)[0]? = some N:=⟨_,List.getElem?_eq_getElem S⟩;have hmx_3:O∈(Mdl.di d):=List.mem_of_getElem? e;have a0:O=aa_ [123,97,125] [114] [66]:=by rw[M]at e;simpa using e.symm
 refine op_ zk ?_;refine t_ 58 [0,1,2,3,4,5,6,7,8] zk zs ?_;refine N_ rfl (al_ rfl) rfl ?_;refine N_ rfl (ar_ (br_ rfl rfl) (show _=Value.bool true from congrArg Value.bool ze_)) rfl ?_;refine N_ rfl (al_ rfl) rfl ?_;refine aP_ rfl rfl rfl (bO_ aU_ rfl rfl rfl ck_) rfl ?_;refine aP_ rfl rfl rfl (aG_ 1 lU_ rfl rfl rfl) rfl ?_;refine aP_ rfl rfl rfl (dC_ n_ rfl) rfl ?_;refine bG_ rfl rfl rfl (br_ rfl rfl) rfl fun b2 K=>?_;refine N_ rfl (cf_ rfl rfl) rfl ?_;refine N_ rfl (al_ rfl) rfl ?_;refine bh_ ?_;cases b2
 ·replace K:=znb K
  exact absurd (by rw[E];rfl) K
 replace K:=zeb K;refine t_ 51 [9,10,11,12,13,14,15] zk zs ?_;refine aP_ rfl rfl rfl (bO_ aU_ rfl rfl rfl ck_) rfl ?_;refine aP_ rfl rfl rfl (aG_ 1 lU_ rfl rfl rfl) rfl ?_;refine aP_ rfl rfl rfl (O_ n_ I_ rfl rfl (fun v _ h=>aq_ (n:=1) at_ ze_ (by exact h.2.1.1) I) za_ zg_) rfl ?_;refine aP_ rfl rfl rfl (bl_ (ad:=(Mdl.noa d)) ab_ rfl (fun v _ h=>by exact h.2.1.1) (p_ at_ I 0 _ rfl)) rfl ?_;refine bG_ rfl rfl rfl (df_ rfl rfl) rfl fun r_2 A=>?_;refine N_ rfl (cf_ rfl rfl) rfl ?_;refine N_ rfl (al_ rfl) rfl ?_;refine bh_ ?_;cases r_2
 ·replace A:=znb A
  exact absurd a5 A
 replace A:=zeb A;refine t_ 44 [16,17,18,19,20,21,22] zk zs ?_;refine aP_ rfl rfl rfl (bO_ aU_ rfl rfl rfl ck_) rfl ?_;refine aP_ rfl rfl rfl (aG_ 1 lU_ rfl rfl rfl) rfl ?_;refine aP_ rfl rfl rfl (O_ n_ I_ rfl rfl (fun v _ h=>aq_ (n:=1) at_ ze_ (by exact h.2.1.1) G) za_ zg_) rfl ?_;refine aP_ rfl rfl rfl (bl_ (ad:=(Mdl.noa d)) ab_ rfl (fun v _ h=>by exact h.2.1.1) (p_ at_ G 0 _ rfl)) rfl ?_;refine bG_ rfl rfl rfl (df_ rfl rfl) rfl fun r_3 F=>?_;refine N_ rfl (cf_ rfl rfl) rfl ?_;refine N_ rfl (al_ rfl) rfl ?_;refine bh_ ?_;cases r_3
 ·replace F:=znb F
  exact absurd a8 F
 replace F:=zeb F;refine t_ 38 [23,24,25,26,27,28] zk zs ?_;refine aP_ rfl rfl rfl (bO_ aU_ rfl rfl rfl bT_) rfl ?_;refine aP_ rfl rfl rfl (aG_ 1 Tryz.isAgg26 rfl rfl rfl) rfl ?_;refine aP_ rfl rfl rfl (dC_ w_ rfl) rfl ?_;refine bG_ rfl rfl rfl (br_ rfl rfl) rfl fun r_4 J=>?_;refine N_ rfl (cf_ rfl rfl) rfl ?_;refine N_ rfl (al_ rfl) rfl ?_;refine bh_ ?_;cases r_4
 ·replace J:=znb J
  exact absurd (by rw[M];rfl) J
 replace J:=zeb J;refine t_ 34 [29,30,31,32] zk zs ?_;refine aP_ rfl rfl rfl (bO_ aU_ rfl rfl rfl bT_) rfl ?_;refine aP_ rfl rfl rfl (aG_ 1 Tryz.isAgg26 rfl rfl rfl) rfl ?_;refine aP_ rfl rfl rfl (O_ w_ s_ rfl rfl (fun v _ h=>aq_ (n:=6) Fc.cells_len ze_ (by exact h.2.1.2.2.2.1) e) za_ zg_) rfl ?_;refine aP_ rfl rfl rfl (ae_ (ad:=(Mdl.dia d)) (us:=Fc.cells O) aB_ s_ rfl (fun v _ h=>by exact h.2.1.2.2.2.1) (Fc.cells_len _) (p_ Fc.cells_len e)) rfl ?_;refine bh_ ?_;refine o_ 33 rfl zk ?_;refine ap_ rfl rfl ?_;refine j_ (jT_ [123,97,125] [114] [66]) rfl f_ zt rfl fun _=>?_;refine bs_ ?_;refine fI_ rfl ?_;refine R_ zs ?_;refine t_ 30 [34,35,36] zk zs ?_;refine bG_ rfl rfl rfl (ca_ (p:=O) (q:=(aa_ [123,97,125] [114] [66])) rfl rfl) rfl fun b0 C=>?_;refine N_ rfl (cf_ rfl rfl) rfl ?_;refine N_ rfl (al_ rfl) rfl ?_;refine bh_ ?_;cases b0
 ·replace C:=zdf C
  exact absurd a0 C
 replace C:=zdt C;refine t_ 29 [37] zk zs ?_;refine aP_ rfl rfl rfl (bB_ 1 gd_ bL_ rfl rfl rfl) rfl ?_;refine bh_ ?_;refine o_ 38 rfl zk ?_;refine ap_ rfl rfl ?_;refine A_ (nL_ d L [123,97,125] [65]) rfl f_ zf rfl fun a9 B=>?_;refine bs_ ?_;refine fI_ rfl ?_;refine R_ zs ?_;refine t_ 26 [39,40] zk zs ?_;refine N_ rfl (cf_ rfl rfl) rfl ?_;refine N_ rfl (al_ rfl) rfl ?_;refine bh_ ?_;cases a9
 ·replace B:=zdf B
  exact absurd a6 B
 replace B:=zdt B;refine t_ 25 [41] zk zs ?_;refine aP_ rfl rfl rfl (bB_ 1 gd_ bL_ rfl rfl rfl) rfl ?_;refine bh_ ?_;refine o_ 42 rfl zk ?_;refine ap_ rfl rfl ?_;refine A_ (sP_ d L [123,97,125] [114] [66]) rfl f_ zf rfl fun r_7 R=>?_;refine bs_ ?_;refine fI_ rfl ?_;refine R_ zs ?_;refine t_ 22 [43,44] zk zs ?_;refine N_ rfl (cf_ rfl rfl) rfl ?_;refine N_ rfl (al_ rfl) rfl ?_;refine bh_ ?_;cases r_7
 ·rw[V]at R;cases R
 refine t_ 21 [45] zk zs ?_;refine aP_ rfl rfl rfl (bB_ 1 gd_ bL_ rfl rfl rfl) rfl ?_;refine bh_ ?_;refine o_ 46 rfl zk ?_;refine ap_ rfl rfl ?_;refine j_ (rp_ d L) rfl f_ zf rfl fun⟨e_4,a4⟩=>?_;dsimp only;obtain rfl:e_4=0:=a4.2.2 a3;refine bs_ ?_;refine fI_ rfl ?_;refine R_ zs ?_;refine t_ 7 [47,48,49,50,51,52,53,54,55,56,57,58,59] zk zs ?_;refine aP_ rfl rfl rfl (ar_ (br_ rfl rfl) (show _=Value.bool true from congrArg Value.bool ze_)) rfl ?_;refine N_ rfl (cf_ rfl rfl) rfl ?_;refine N_ rfl (al_ rfl) rfl ?_;refine aP_ rfl rfl rfl (al_ rfl) rfl ?_;refine aP_ rfl rfl rfl (ar_ (br_ rfl rfl) (show _=Value.bool true from congrArg Value.bool ze_)) rfl ?_;refine N_ rfl (cf_ rfl rfl) rfl ?_;refine N_ rfl (al_ rfl) rfl ?_;refine aP_ rfl rfl rfl (bO_ aU_ rfl rfl rfl ck_) rfl ?_;refine aP_ rfl rfl rfl (aG_ 0 lU_ rfl rfl rfl) rfl ?_;refine aP_ rfl rfl rfl (dC_ n_ rfl) rfl ?_;refine bG_ rfl rfl rfl (br_ rfl rfl) rfl fun r_8 H=>?_;refine N_ rfl (cf_ rfl rfl) rfl ?_;refine N_ rfl (al_ rfl) rfl ?_;refine bh_ ?_;cases r_8
 ·replace H:=znb H
  exact absurd (by rw[a1];rfl) H
 replace H:=zeb H;refine o_ 60 rfl zk ?_;refine ap_ rfl rfl ?_;refine A_ (bE_ [65]) rfl f_ zt rfl fun r_9 a2=>?_;refine bs_ ?_;refine fI_ rfl ?_;refine R_ zs ?_;refine t_ 4 [61,62] zk zs ?_;refine N_ rfl (cf_ rfl rfl) rfl ?_;refine N_ rfl (al_ rfl) rfl ?_;refine bh_ ?_;cases r_9
 ·exact absurd a2 ze_
 refine o_ 63 rfl zk ?_;refine ap_ rfl rfl ?_;refine A_ (bE_ [123,97,125]) rfl f_ zt rfl fun r_10 U=>?_;refine bs_ ?_;refine fI_ rfl ?_;refine R_ zs ?_;refine t_ 0 [64,65,66] zk zs ?_;refine aP_ rfl rfl rfl (as_ rfl) rfl ?_;refine N_ rfl (cf_ rfl rfl) rfl ?_;refine N_ rfl (ay_ rfl) rfl ?_;refine bh_ ?_;refine rt_ zk ?_;refine aY_ rfl ?_;refine iJ_ ?_;exact Y_ Tryz.results7 () (m_ rfl (by rw[← U];decide)) f_ zt
end Go.Proofs.YtpbnmnfdgckaiaaGreatDoor
namespace Go.Proofs.YtpbnmnfdgckaiaaGreatDoor
open Go Go.Sx Go.Proofs
attribute [local irreducible] Code.wp wpList wpAnyH
open Go.Vs Go.Shelf Go.RowKit
def R1 (m:Mdl) (i:Nat) (K:List Str):Prop:=(∀ x∈K,x∈m.no)∧∀ x∈m.no.take i,nls x=false→x∈K
end Go.Proofs.YtpbnmnfdgckaiaaGreatDoor
namespace Go.Proofs.YtpbnmnfdgckaiaaGreatDoor
open Go Go.Sx Go.Proofs
attribute [local irreducible] Code.wp wpList wpAnyH
open Go.Vs Go.Shelf Go.RowKit
theorem yJ_.at {d:List Ax} {r t:Str} {T:List Str} (h:yJ_ d r T) (e:t∈T):RchS (lat (hH_ d)) [r] t:=(h.2 t).1 e
end Go.Proofs.YtpbnmnfdgckaiaaGreatDoor
namespace Go.Proofs.YtpbnmnfdgckaiaaGreatDoor
open Go Go.Sx Go.Proofs
attribute [local irreducible] Code.wp wpList wpAnyH
open Go.Vs Go.Shelf Go.RowKit
structure FL where
  l:List Fc
  ad:Option Addr
  cap:Nat
def FL.cells (x:FL):List Value:=[.slice x.ad x.l.length x.cap]
theorem FL.cells_len (x:FL):x.cells.length=1:=rfl
def flF (xs:List FL):Fct where
  p v:=∀ x∈xs,bu_ v x.ad (List.flatMap Fc.cells x.l)
  mono:=fun v v' h hp x hx=>(ai_ x.ad (List.flatMap Fc.cells x.l)).mono v v' h (hp x hx)
def Mdl.fls (m:Mdl):List FL:=[(FL.mk (Mdl.ty m) (Mdl.tya m) (Mdl.tyc m)),(FL.mk (Mdl.li m) (Mdl.lia m) (Mdl.lic m)),(FL.mk (Mdl.di m) (Mdl.dia m) (Mdl.dic m)),(FL.mk (Mdl.ra m) (Mdl.raa m) (Mdl.rac m)),(FL.mk (Mdl.ro m) (Mdl.roa m) (Mdl.roc m))]
theorem Mdl.flsF {m:Mdl} {v:Vw} (h:(ek_ m).p v):(flF m.fls).p v:=fun x d=>by
 unfold Mdl.fls at d;simp only[List.mem_cons,List.not_mem_nil,or_false]at d;rcases d with rfl|rfl|rfl|rfl|rfl
 ·exact h.2.1
 ·exact h.2.2.1
 ·exact h.2.2.2.1
 ·exact h.2.2.2.2.1
 exact h.2.2.2.2.2
end Go.Proofs.YtpbnmnfdgckaiaaGreatDoor
namespace Go.Proofs.YtpbnmnfdgckaiaaGreatDoor
open Go Go.Sx Go.Proofs
attribute [local irreducible] Code.wp wpList wpAnyH
open Go.Vs Go.Shelf Go.RowKit
theorem ind_at {s:Str} {c:UInt8} (e:s[0]? = some c):(!nls s)=((c.toNat:Int)==123):=by
 unfold nls;cases s with
 | nil=>simp at e
 | cons a t =>
   simp only[List.getElem?_cons_zero,Option.some.injEq]at e;subst e;rw[Bool.eq_iff_iff];simp
   constructor
   · intro h;subst h;rfl
   · intro h
     have d:a.toNat=(123:UInt8).toNat:=by have:(123:UInt8).toNat=123:=rfl;omega
     exact UInt8.toNat_inj.1 d
theorem ind_no {s:Str} (h:¬ 0<s.length):(!nls s)=false:=by
  cases s with
  | nil=>rfl
  | cons a t=>simp at h
theorem vp_ (l:List Fc) (ad:Option Addr) (cap:Nat) (f:Fc) (hl:l.length≤9223372036854775807):Tri Tryz.prog 53 #[.slice ad (List.length l) cap,Fc.val f] [] [ai_ ad (List.flatMap Fc.cells l)] (fun _:Unit=>.bool (decide (f∈l))) (fun _=>[]) (fun _=>[]):=by
 refine i_ Tryz.func53 rfl rfl Tryz.ntmps53 rfl fun I=>?_;refine Zz 2 ?_;refine V_ rfl rfl fun A=>Zz 10 ?_
 refine K_ (ι:={y:Nat // y≤List.length l∧f ∉ List.take y l}) (fun y=>[(0,.slice ad (List.length l) cap),(3,zp_ A 0),(4,.bool false),(5,.int .i64 (y.1:Int))]) (fun y=>((A,.cells #[.int .i64 f.kind,str f.a,str f.b,str f.r,.int .i64 f.lo,.int .i64 f.hi] 36 (0,0))::[])) (fun y=>[ai_ ad (List.flatMap Fc.cells l)]) (fun y=>List.length l - y.1) ⟨(0:Nat),by simp,zj_⟩ zl d_ zh ?_;rintro ⟨i,B,F⟩;dsimp only at B F ⊢;refine Zi 6 (fun E=>?_) fun E=>?_
 ·refine Zz 11 ?_
  exact Y_ Tryz.results53 () (m_ rfl (decide_eq_false (by rw[List.take_of_length_le za_]at F;exact F)).symm) f_ zt
 obtain⟨x,G,C,h⟩:=zge (show i<List.length l by omega);refine Zz 9 ?_;refine t_ 0 [0,1,2,3,4,5] zk zs (Zz 5 ?_);refine cZ_ rfl (ca_ (p:=G) (q:=f) rfl rfl) rfl fun H d=>Zz 3 ?_
 cases H
 ·replace d:=zdf d
  refine Zz 9 ?_;exact x_ ⟨i+1,x,(by rw[tk1 C,List.mem_append,List.mem_singleton];exact fun q=>q.elim F fun e=>d e.symm)⟩ zb_ zl d_ zh
 replace d:=zdt d;refine Zz 7 ?_;exact Y_ Tryz.results53 () (m_ rfl (decide_eq_true (by rw[← d];exact h)).symm) f_ zt
theorem rN_ (m:Mdl) (e:m.ok) (n t:Str):Tri Tryz.prog 20 #[Mdl.val m,str n,str t] [] [ek_ m] (fun _:Unit=>.bool (decide (Z_ n t∈m.ty))) (fun _=>[]) (fun _=>[]):=by
  refine i_ Tryz.func20 rfl rfl Tryz.ntmps20 rfl fun q=>?_;refine Zz 2 ?_;refine V_ rfl rfl fun y=>Zz 5 ?_
  refine t_ 3 [0,1,2,3] zk zs (Zz 5 ?_);refine o_ 4 rfl zk (j_ (pf_ n t) rfl f_ zt rfl fun _=>Zz 3 ?_);refine o_ 5 rfl zk (A_ (vp_ (Mdl.ty m) (Mdl.tya m) (Mdl.tyc m) (Z_ n t) e.ty) rfl f_ (fun v _ h=>by exact⟨h.1.2.1,trivial⟩) rfl fun x d=>Zz 3 ?_);refine t_ 0 [6] zk zs (Zz 5 ?_);exact Y_ Tryz.results20 () (m_ rfl d.symm) f_ zt
theorem jV_ (m:Mdl) (q:m.ok) (r t:Str):Tri Tryz.prog 55 #[Mdl.val m,str r,str t] [] [ek_ m] (fun _:Unit=>.bool (oc_ m r t)) (fun _=>[]) (fun _=>[]):=by
 refine i_ Tryz.func55 rfl rfl Tryz.ntmps55 rfl fun x=>?_;refine Zz 2 ?_;refine V_ rfl rfl fun A=>Zz 5 ?_
 refine t_ 8 [0,1,2,3] zk zs (Zi 2 (fun d=>?_) fun d=>?_)
 ·refine Zz 2 ?_
  refine t_ 4 [4,5,6,7] zk zs (Zz 5 ?_);refine o_ 8 rfl zk (ap_ rfl rfl (j_ (pf_ r t) rfl f_ zt rfl fun _=>Zz 3 ?_));refine o_ 9 rfl zk (ap_ rfl rfl (A_ (vp_ (Mdl.ro m) (Mdl.roa m) (Mdl.roc m) (Z_ r t) q.ro) rfl f_ (fun v _ h=>by exact⟨h.1.2.2.2.2.2,trivial⟩) rfl fun y e=>Zz 3 ?_));refine t_ 0 [10,11] zk zs (Zz 6 ?_);exact Y_ Tryz.results55 () (m_ rfl zav_) f_ zt
 refine Zz 2 ?_;refine t_ 0 [4,5,6,7,8,9,10,11] zk zs (Zz 12 ?_);exact Y_ Tryz.results55 () (m_ rfl (by unfold oc_;rw[beq_iff_eq.2 d];rfl)) f_ zt
theorem vo_ (s:Str):Fn0 Tryz.prog 57 #[str s] (.bool (!nls s)):=by
 refine i_ Tryz.func57 rfl rfl Tryz.ntmps57 rfl fun q=>?_;refine Zz 8 ?_;refine e_ (cl_ S_ rfl) rfl ?_;refine Zi 0 (fun e=>?_) fun e=>?_
 ·refine Zz 9 ?_
  exact Y_ Tryz.results57 () (m_ rfl (ind_no za_).symm) f_ zt
 obtain⟨c,h⟩:∃ c,s[0]? = some c:=⟨_,List.getElem?_eq_getElem za_⟩;refine Zz 4 ?_;refine e_ (dL_ S_ rfl rfl ze_ h) rfl (ap_ rfl rfl (G_ (br_ rfl rfl) rfl fun x d=>Zz 5 ?_));exact Y_ Tryz.results57 () (m_ rfl ((ind_at h).trans d).symm) f_ zt
theorem cb_ (s:Str):Fn0 Tryz.prog 24 #[str s] (.bool (nls s)):=by
  refine i_ Tryz.func24 rfl rfl Tryz.ntmps24 rfl fun e=>?_;refine Zz 8 ?_;refine A_ (vo_ s) rfl f_ zt rfl fun h d=>e_ (as_ rfl) rfl (Zz 4 ?_)
  exact Y_ Tryz.results24 () (m_ rfl (by rw[← d,Bool.not_not])) f_ zt
theorem xx_ (m:Mdl) (K:m.ok) (a r b:Str):Tri Tryz.prog 21 #[Mdl.val m,str a,str r,str b] [] [ek_ m] (fun _:Unit=>.bool (vl_ m a r b)) (fun _=>[]) (fun _=>[]):=by
 refine i_ Tryz.func21 rfl rfl Tryz.ntmps21 rfl fun Q=>?_;have R:=K.di;refine Zz 2 ?_;refine V_ rfl rfl fun I=>Zz 7 ?_
 refine A_ (cb_ a) rfl f_ zt rfl fun O E=>e_ (as_ rfl) rfl (Zz 1 ?_)
 cases O
 ·refine Zz 3 ?_
  refine A_ (cb_ b) rfl f_ zt rfl fun M C=>ap_ rfl rfl (e_ (as_ rfl) rfl (Zz 3 ?_))
  cases M
  ·refine Zz 3 ?_
   refine t_ 3 [0,1,2,3,4] zk zs (Zz 6 ?_);refine o_ 5 rfl zk (j_ (jT_ a r b) rfl f_ zt rfl fun _=>Zz 3 ?_);refine o_ 6 rfl zk (A_ (vp_ (Mdl.li m) (Mdl.lia m) (Mdl.lic m) (aa_ a r b) K.li) rfl f_ (fun v _ h=>by exact⟨h.1.2.2.1,trivial⟩) rfl fun H d=>Zz 3 ?_);refine t_ 0 [7] zk zs (Zz 5 ?_);exact Y_ vu_ () (m_ rfl (by rw[vk_ E C];exact d.symm)) f_ zt
  refine Zz 10 ?_;refine K_ (ι:={y:Nat // y≤List.length (Mdl.di m)∧(List.any (List.take y (Mdl.di m)) (lR_ m a r b))=false}) (fun y=>[(1,str a),(2,str r),(3,str b),(4,zp_ I 0),(8,.bool false),(9,.int .i64 (y.1:Int))]) (fun y=>((I,.cells #[.slice (Mdl.noa m) (List.length (Mdl.no m)) (Mdl.noc m),.slice (Mdl.tya m) (List.length (Mdl.ty m)) (Mdl.tyc m),.slice (Mdl.lia m) (List.length (Mdl.li m)) (Mdl.lic m),.slice (Mdl.dia m) (List.length (Mdl.di m)) (Mdl.dic m),.slice (Mdl.raa m) (List.length (Mdl.ra m)) (Mdl.rac m),.slice (Mdl.roa m) (List.length (Mdl.ro m)) (Mdl.roc m)] 28 (0,0))::[])) (fun y=>[ek_ m]) (fun y=>List.length (Mdl.di m) - y.1) ⟨(0:Nat),by simp,zj_⟩ zl d_ zh ?_;rintro ⟨i,G,J⟩;dsimp only at G J ⊢;refine Zi 7 (fun d=>?_) fun d=>?_
  ·refine Zz 11 ?_
   exact Y_ vu_ () (m_ rfl (by rw[ho_ (fun q=>by rw[q.2]at C;cases C),gZ_ J za_])) f_ zt
  obtain⟨A,B,x,F⟩:=zge (show i<List.length (Mdl.di m) by omega);refine Zz 12 ?_;refine e_ (O_ w_ s_ rfl rfl (fun v _ h=>aq_ (n:=6) Fc.cells_len ze_ zaq_ x) za_ zg_) rfl ?_;refine e_ (ae_ (ad:=(Mdl.dia m)) (us:=Fc.cells B) aB_ s_ rfl (fun v _ h=>by exact h.1.2.2.2.1) (Fc.cells_len _) (p_ Fc.cells_len x)) rfl (E_ Q_ rfl fun N=>z_ 0 s_ rfl rfl rfl rfl rfl rfl (Zz 4 ?_));refine t_ 9 [0,1,2,3,4] zk zs (Zz 6 ?_);refine o_ 5 rfl zk (j_ (jT_ a B.r b) rfl f_ zt rfl fun _=>Zz 3 ?_);refine t_ 6 [6,7] zk zs (cZ_ rfl (ca_ (p:=B) (q:=(aa_ a B.r b)) rfl rfl) rfl fun H e=>Zz 2 ?_);cases H
  ·replace e:=zdf e
   refine t_ 0 [8,9,10,11,12,13] zk zs (Zz 18 ?_);exact x_ ⟨i+1,A,(cD_ J x (pi_ e))⟩ zb_ zl (c_ d_) zh
  replace e:=zdt e;refine t_ 2 [8,9,10,11] zk zs (Zz 5 ?_);refine o_ 12 rfl zk (ap_ rfl rfl (A_ (jV_ m K B.r r) rfl f_ zf rfl fun P L=>Zz 3 ?_));refine t_ 0 [13] zk zs (Zz 4 ?_);cases P
  ·refine Zz 9 ?_
   exact x_ ⟨i+1,A,(cD_ J x (ph_ L))⟩ zb_ zl (c_ d_) zh
  refine Zz 7 ?_;exact Y_ vu_ () (m_ rfl (by rw[ho_ (fun q=>by rw[q.2]at C;cases C),ga_ F (mS_ e L)])) f_ zt
 refine Zz 16 ?_;refine K_ (ι:={y:Nat // y≤List.length (Mdl.di m)∧(List.any (List.take y (Mdl.di m)) (lR_ m a r b))=false}) (fun y=>[(1,str a),(2,str r),(3,str b),(4,zp_ I 0),(8,.bool false),(9,.int .i64 (y.1:Int))]) (fun y=>((I,.cells #[.slice (Mdl.noa m) (List.length (Mdl.no m)) (Mdl.noc m),.slice (Mdl.tya m) (List.length (Mdl.ty m)) (Mdl.tyc m),.slice (Mdl.lia m) (List.length (Mdl.li m)) (Mdl.lic m),.slice (Mdl.dia m) (List.length (Mdl.di m)) (Mdl.dic m),.slice (Mdl.raa m) (List.length (Mdl.ra m)) (Mdl.rac m),.slice (Mdl.roa m) (List.length (Mdl.ro m)) (Mdl.roc m)] 28 (0,0))::[])) (fun y=>[ek_ m]) (fun y=>List.length (Mdl.di m) - y.1) ⟨(0:Nat),by simp,zj_⟩ zl d_ zh ?_;rintro ⟨i,G,J⟩;dsimp only at G J ⊢;refine Zi 7 (fun C=>?_) fun C=>?_
 ·refine Zz 11 ?_
  exact Y_ vu_ () (m_ rfl (by rw[ho_ (fun q=>by rw[q.1]at E;cases E),gZ_ J za_])) f_ zt
 obtain⟨A,B,x,F⟩:=zge (show i<List.length (Mdl.di m) by omega);refine Zz 12 ?_;refine e_ (O_ w_ s_ rfl rfl (fun v _ h=>aq_ (n:=6) Fc.cells_len ze_ zaq_ x) za_ zg_) rfl ?_;refine e_ (ae_ (ad:=(Mdl.dia m)) (us:=Fc.cells B) aB_ s_ rfl (fun v _ h=>by exact h.1.2.2.2.1) (Fc.cells_len _) (p_ Fc.cells_len x)) rfl (E_ Q_ rfl fun N=>z_ 0 s_ rfl rfl rfl rfl rfl rfl (Zz 4 ?_));refine t_ 9 [0,1,2,3,4] zk zs (Zz 6 ?_);refine o_ 5 rfl zk (j_ (jT_ a B.r b) rfl f_ zt rfl fun _=>Zz 3 ?_);refine t_ 6 [6,7] zk zs (cZ_ rfl (ca_ (p:=B) (q:=(aa_ a B.r b)) rfl rfl) rfl fun M d=>Zz 2 ?_);cases M
 ·replace d:=zdf d
  refine t_ 0 [8,9,10,11,12,13] zk zs (Zz 18 ?_);exact x_ ⟨i+1,A,(cD_ J x (pi_ d))⟩ zb_ zl (c_ d_) zh
 replace d:=zdt d;refine t_ 2 [8,9,10,11] zk zs (Zz 5 ?_);refine o_ 12 rfl zk (ap_ rfl rfl (A_ (jV_ m K B.r r) rfl f_ zf rfl fun H e=>Zz 3 ?_));refine t_ 0 [13] zk zs (Zz 4 ?_);cases H
 ·refine Zz 9 ?_
  exact x_ ⟨i+1,A,(cD_ J x (ph_ e))⟩ zb_ zl (c_ d_) zh
 refine Zz 7 ?_;exact Y_ vu_ () (m_ rfl zaI_) f_ zt
theorem vj_ (m:Mdl) (K:m.ok) (n t:Str) (lo hi:Int):Tri Tryz.prog 23 #[Mdl.val m,str n,str t,.agg #[.int .i64 lo,.int .i64 hi]] [] [ek_ m] (fun _:Unit=>.bool (rngB m n t lo hi)) (fun _=>[]) (fun _=>[]):=by
 refine i_ Tryz.func23 rfl rfl Tryz.ntmps23 rfl fun M=>?_;have O:=K.ra;refine Zz 2 ?_;refine V_ rfl rfl fun F=>V_ rfl rfl fun G=>Zz 10 ?_
 refine K_ (ι:={y:Nat // y≤List.length (Mdl.ra m)∧(List.any (List.take y (Mdl.ra m)) (mT_ n t lo hi))=false}) (fun y=>[(1,str n),(2,str t),(4,zp_ F 0),(7,zp_ G 0),(8,.bool false),(9,.int .i64 (y.1:Int))]) (fun y=>((G,.cells #[.int .i64 lo,.int .i64 hi] 54 (0,0))::((F,.cells #[.slice (Mdl.noa m) (List.length (Mdl.no m)) (Mdl.noc m),.slice (Mdl.tya m) (List.length (Mdl.ty m)) (Mdl.tyc m),.slice (Mdl.lia m) (List.length (Mdl.li m)) (Mdl.lic m),.slice (Mdl.dia m) (List.length (Mdl.di m)) (Mdl.dic m),.slice (Mdl.raa m) (List.length (Mdl.ra m)) (Mdl.rac m),.slice (Mdl.roa m) (List.length (Mdl.ro m)) (Mdl.roc m)] 28 (0,0))::[]))) (fun y=>[ek_ m]) (fun y=>List.length (Mdl.ra m) - y.1) ⟨(0:Nat),by simp,zj_⟩ zl zp zh ?_;rintro ⟨i,H,I⟩;dsimp only at H I ⊢;refine Zi 7 (fun J=>?_) fun J=>?_
 ·refine Zz 11 ?_
  exact Y_ Tryz.results23 () (m_ rfl (gZ_ I za_).symm) f_ zt
 obtain⟨A,d,x,E⟩:=zge (show i<List.length (Mdl.ra m) by omega);refine Zz 12 ?_;refine e_ (O_ w_ s_ rfl rfl (fun v _ h=>aq_ (n:=6) Fc.cells_len ze_ (by exact h.1.2.2.2.2.1) x) za_ zg_) rfl ?_;refine e_ (ae_ (ad:=(Mdl.raa m)) (us:=Fc.cells d) aB_ s_ rfl (fun v _ h=>by exact h.1.2.2.2.2.1) (Fc.cells_len _) (p_ Fc.cells_len x)) rfl (E_ Q_ rfl fun N=>z_ 0 s_ rfl rfl rfl rfl rfl rfl (Zz 4 ?_));refine t_ 16 [0,1,2,3,4,5,6] zk zs (Zz 8 ?_);refine o_ 7 rfl zk (j_ (sN_ n t d.lo d.hi) rfl f_ zt rfl fun _=>Zz 3 ?_);refine t_ 13 [8,9] zk zs (cZ_ rfl (ca_ (p:=d) (q:=(af_ n t d.lo d.hi)) rfl rfl) rfl fun L e=>Zz 2 ?_);cases L
 ·replace e:=zdf e
  refine t_ 0 [10,11,12,13,14,15,16,17,18,19,20,21,22] zk zs (Zz 25 ?_);exact x_ ⟨i+1,A,(cD_ I x zay_)⟩ zb_ zl (l_ (c_ d_) (c_ d_)) zh
 replace e:=zdt e;refine t_ 6 [10,11,12,13,14,15,16] zk zs (Zi 4 (fun C=>?_) fun C=>?_)
 ·refine Zz 3 ?_
  refine t_ 0 [17,18,19,20,21,22] zk zs (Zz 18 ?_);exact x_ ⟨i+1,A,(cD_ I x zam_)⟩ zb_ zl (l_ (c_ d_) (c_ d_)) zh
 refine Zz 3 ?_;refine t_ 0 [17,18,19,20,21,22] zk zs (Zi 4 (fun B=>?_) fun B=>?_)
 ·refine Zz 13 ?_
  exact x_ ⟨i+1,A,(cD_ I x zan_)⟩ zb_ zl (l_ (c_ d_) (c_ d_)) zh
 refine Zz 11 ?_;exact Y_ Tryz.results23 () (m_ rfl (ga_ E zL_).symm) f_ zt
end Go.Proofs.YtpbnmnfdgckaiaaGreatDoor
namespace Go.Proofs.YtpbnmnfdgckaiaaGreatDoor
open Go Go.Sx Go.Proofs
attribute [local irreducible] Code.wp wpList wpAnyH
open Go.Vs Go.Shelf Go.RowKit
def kS_ (m:Mdl) (f:Fc):Bool:=decide (f.a∈m.no)&&(decide (f=Z_ f.a f.b)&&(f.b != []))
def lX_ (m:Mdl) (f:Fc):Bool:=decide (f.a∈m.no)&&((decide (f=aa_ f.a f.r f.b)&&(f.r != []))&&decide (f.b∈m.no))
def lW_ (m:Mdl) (f:Fc):Bool:=decide (f.a∈m.no)&&((((decide (f=af_ f.a f.r f.lo f.hi)&&(f.r != []))&&decide (-1099511627776≤f.lo))&&decide (f.lo≤f.hi))&&decide (f.hi≤1099511627776))
def nZ_ (m:Mdl) (f:Fc):Bool:=(lX_ m f&&!nls f.a)&&!nls f.b
theorem yf_ {m:Mdl} (h:∀ s∈m.no,s≠[]) (f:Fc):kS_ m f=mC_ m.no f:=by
 unfold kS_ mC_ jQ_
 by_cases q:f.a∈m.no
 ·have e:(f.a != [])=true:=bne_iff_ne.2 (h _ q)
  rw[decide_eq_true q,e];simp
 rw[decide_eq_false q];simp
theorem tg_ {m:Mdl} (f:Fc):lX_ m f=kd_ m.no f:=by
  unfold lX_ kd_;cases decide (f.a∈m.no)<;>cases decide (f.b∈m.no)<;>cases decide (f=aa_ f.a f.r f.b)<;>cases (f.r != [])<;>rfl
theorem ye_ {m:Mdl} (f:Fc):lW_ m f=nV_ m.no f:=by
  unfold lW_ nV_;cases decide (f.a∈m.no)<;>cases decide (f=af_ f.a f.r f.lo f.hi)<;>cases (f.r != [])<;>cases decide (-1099511627776≤f.lo)<;>cases decide (f.lo≤f.hi)<;>rfl
theorem rw_ {α:Type} {l:List α} {p:α→Bool} {i:Nat} {x:α} (d:l[i]? = some x):(l.take (i+1)).all p=((l.take i).all p&&p x):=by rw[tk1 d,List.all_append];simp
theorem wq_ {α:Type} {l:List α} {p:α→Bool} {i:Nat} {x:α} {G:Bool} (e:false=(G&&(l.take i).all p)) (d:l[i]? = some x):false=(G&&(l.take (i+1)).all p):=by rw[rw_ d,← Bool.and_assoc,← e];rfl
theorem kj_ {α:Type} {l:List α} {p:α→Bool} {i:Nat} {x:α} {G b:Bool} (e:true=(G&&(l.take i).all p)) (d:l[i]? = some x) (h:p x=b):b=(G&&(l.take (i+1)).all p):=by rw[rw_ d,← Bool.and_assoc,← e,Bool.true_and];exact h.symm
theorem oM_ {α:Type} {l:List α} {p:α→Bool} {i:Nat} {G g:Bool} (d:g=(G&&(l.take i).all p)) (hi:l.length≤i):g=(G&&l.all p):=by rwa [List.take_of_length_le hi]at d
def nA_ (m:Mdl):Bool:=(((decide (m.ty.Pairwise Fc.lt)&&decide (m.li.Pairwise Fc.lt))&&decide (m.di.Pairwise Fc.lt))&&decide (m.ra.Pairwise Fc.lt))&&decide (m.ro.Pairwise Fc.lt)
theorem yO_ {m:Mdl} (I:la_ m.no) {g:Bool} (J:g=(((((nA_ m&&m.ty.all (kS_ m))&&m.li.all (nZ_ m))&&m.di.all (lX_ m))&&m.ra.all (lW_ m))&&m.ro.all jQ_)):g=true↔MdV m:=by
  rw[J];unfold nA_;simp only[Bool.and_eq_true,decide_eq_true_eq,List.all_eq_true];have A:∀ f,kS_ m f=mC_ m.no f:=yf_ I.1;have G:∀ f,nZ_ m f=nY_ m.no f:=fun f=>by unfold nZ_ nY_;rw[tg_]
  simp only[A,G,tg_,ye_];exact⟨fun⟨⟨⟨⟨⟨⟨⟨⟨⟨H,d⟩,F⟩,y⟩,x⟩,B⟩,E⟩,h⟩,e⟩,C⟩=>⟨I,⟨B,H⟩,⟨E,d⟩,⟨h,F⟩,⟨e,y⟩,⟨C,x⟩⟩,fun q=>⟨⟨⟨⟨⟨⟨⟨⟨⟨q.ty.2,q.li.2⟩,q.di.2⟩,q.ra.2⟩,q.ro.2⟩,q.ty.1⟩,q.li.1⟩,q.di.1⟩,q.ra.1⟩,q.ro.1⟩⟩
theorem il_ (l:List Fc) (ad:Option Addr) (cap:Nat) (hl:l.length≤9223372036854775807):Tri Tryz.prog 58 #[.slice ad (List.length l) cap] [] [ai_ ad (List.flatMap Fc.cells l)] (fun _:Unit=>.bool (decide (l.Pairwise Fc.lt))) (fun _=>[]) (fun _=>[]):=by
 refine i_ Tryz.func58 rfl rfl Tryz.ntmps58 rfl fun J=>?_;refine Zz 12 ?_;refine K_ (ι:={y:Nat // (List.take (y+1) l).Pairwise Fc.lt}) (fun y=>[(0,.slice ad (List.length l) cap),(3,.int .i64 ((y.1+1:Nat):Int))]) (fun y=>([])) (fun y=>[ai_ ad (List.flatMap Fc.cells l)]) (fun y=>List.length l - y.1) ⟨(0:Nat),vy_ l⟩ zl f_ zh ?_;rintro ⟨k,hk⟩;dsimp only at hk ⊢;refine Zi 6 (fun q=>?_) fun q=>?_
 ·refine Zz 11 ?_
  exact Y_ Tryz.results58 () (m_ rfl (decide_eq_true (by rw[List.take_of_length_le za_]at hk;exact hk)).symm) f_ zt
 obtain⟨B,C,h,A⟩:=zge (show k<List.length l by omega);obtain⟨G,F,e,E⟩:=zge (show (k+1:Nat)<List.length l by omega);refine Zz 9 ?_;refine t_ 2 [0,1,2,3,4,5,6,7,8] zk zs (Zz 2 ?_);refine N_ rfl (ar_ (aZ_ rfl rfl rfl (ce_ za_ za_)) (show Value.int .i64 (((k+1:Nat):Int) - 1)=Value.int .i64 (k:Int) from congrArg _ za_)) rfl (Zz 7 ?_);refine o_ 9 rfl zk (A_ (less_c C F) rfl f_ zt rfl fun H d=>Zz 3 ?_);refine t_ 0 [10] zk zs (N_ rfl (as_ rfl) rfl (Zz 3 ?_));cases H
 ·replace d:=zdf d
  refine Zz 7 ?_;exact Y_ Tryz.results58 () (m_ rfl (decide_eq_false (vz_ h e d)).symm) f_ zt
 replace d:=zdt d;refine Zz 9 ?_;exact x_ ⟨k+1,(sS_ (lt:=Fc.lt) (fun x I=>Fc.lt_trans x I) hk h e d)⟩ zb_ zl f_ zh
theorem vr_ (m:Mdl) (y:m.ok) (f:Fc):Tri Tryz.prog 59 #[Mdl.val m,Fc.val f,.int .i64 1] [] [ek_ m] (fun _:Unit=>.bool (kS_ m f)) (fun _=>[]) (fun _=>[]):=by
 refine i_ Tryz.func59 rfl rfl Tryz.ntmps59 rfl fun E=>?_;refine Zz 2 ?_;refine V_ rfl rfl fun F=>V_ rfl rfl fun G=>Zz 10 ?_
 refine A_ (kc_ (Mdl.no m) (Mdl.noa m) (Mdl.noc m) f.a y.no) rfl f_ (fun v _ h=>by exact⟨h.1.1,trivial⟩) rfl fun B d=>e_ (as_ rfl) rfl (Zz 2 ?_)
 cases B
 ·replace d:=zdf d
  refine Zz 7 ?_;exact Y_ cC_ () (m_ rfl (by unfold kS_;simp only[decide_eq_false (p:=f.a∈(Mdl.no m)) d,Bool.and_true,Bool.and_false,Bool.true_and,Bool.false_and,Bool.not_true,Bool.not_false])) f_ zt
 replace d:=zdt d;refine Zz 12 ?_;refine e_ (ar_ (br_ rfl rfl) (show _=Value.bool true from congrArg Value.bool ze_)) rfl (Zz 6 ?_);refine t_ 8 [0,1,2,3,4] zk zs (Zz 6 ?_);refine o_ 5 rfl zk (j_ (pf_ f.a f.b) rfl f_ zt rfl fun _=>Zz 3 ?_);refine t_ 5 [6,7] zk zs (cZ_ rfl (ca_ (p:=f) (q:=(Z_ f.a f.b)) rfl rfl) rfl fun A e=>Zz 2 ?_);cases A
 ·replace e:=zdf e
  refine t_ 0 [8,9,10,11,12] zk zs (Zz 9 ?_);exact Y_ cC_ () (m_ rfl (by unfold kS_;simp only[decide_eq_true (p:=f.a∈(Mdl.no m)) d,decide_eq_false (p:=f=(Z_ f.a f.b)) e,Bool.and_true,Bool.and_false,Bool.true_and,Bool.false_and,Bool.not_true,Bool.not_false])) f_ zt
 replace e:=zdt e;refine t_ 0 [8,9,10,11,12] zk zs (Zz 2 ?_);refine bG_ rfl rfl rfl (cT_ rfl rfl) rfl fun C x=>Zz 6 ?_
 exact Y_ cC_ () (m_ rfl (by rw[← x];unfold kS_;simp only[decide_eq_true (p:=f.a∈(Mdl.no m)) d,decide_eq_true (p:=f=(Z_ f.a f.b)) e,Bool.and_true,Bool.and_false,Bool.true_and,Bool.false_and,Bool.not_true,Bool.not_false])) f_ zt
theorem qs_ (m:Mdl) (A:m.ok) (f:Fc):Tri Tryz.prog 59 #[Mdl.val m,Fc.val f,.int .i64 2] [] [ek_ m] (fun _:Unit=>.bool (lX_ m f)) (fun _=>[]) (fun _=>[]):=by
 refine i_ Tryz.func59 rfl rfl Tryz.ntmps59 rfl fun F=>?_;refine Zz 2 ?_;refine V_ rfl rfl fun G=>V_ rfl rfl fun H=>Zz 10 ?_
 refine A_ (kc_ (Mdl.no m) (Mdl.noa m) (Mdl.noc m) f.a A.no) rfl f_ (fun v _ h=>by exact⟨h.1.1,trivial⟩) rfl fun C d=>e_ (as_ rfl) rfl (Zz 2 ?_)
 cases C
 ·replace d:=zdf d
  refine Zz 7 ?_;exact Y_ cC_ () (m_ rfl (by unfold lX_;simp only[decide_eq_false (p:=f.a∈(Mdl.no m)) d,Bool.and_true,Bool.and_false,Bool.true_and,Bool.false_and,Bool.not_true,Bool.not_false])) f_ zt
 replace d:=zdt d;refine Zz 12 ?_;refine e_ (ar_ (br_ rfl rfl) (show _=Value.bool false from congrArg Value.bool ze_)) rfl (Zz 6 ?_);refine e_ (ar_ (br_ rfl rfl) (show _=Value.bool true from congrArg Value.bool ze_)) rfl (Zz 6 ?_);refine t_ 15 [0,1,2,3,4,5,6] zk zs (Zz 8 ?_);refine o_ 7 rfl zk (j_ (jT_ f.a f.r f.b) rfl f_ zt rfl fun _=>Zz 3 ?_);refine t_ 12 [8,9] zk zs (cZ_ rfl (ca_ (p:=f) (q:=(aa_ f.a f.r f.b)) rfl rfl) rfl fun B e=>Zz 2 ?_);cases B
 ·replace e:=zdf e
  refine t_ 0 [10,11,12,13,14,15,16,17,18,19,20,21] zk zs (Zz 16 ?_);exact Y_ cC_ () (m_ rfl (by unfold lX_;simp only[decide_eq_true (p:=f.a∈(Mdl.no m)) d,decide_eq_false (p:=f=(aa_ f.a f.r f.b)) e,Bool.and_true,Bool.and_false,Bool.true_and,Bool.false_and,Bool.not_true,Bool.not_false])) f_ zt
 replace e:=zdt e;refine t_ 7 [10,11,12,13,14] zk zs (Zi 2 (fun x=>?_) fun x=>?_)
 ·refine Zz 3 ?_
  refine t_ 0 [15,16,17,18,19,20,21] zk zs (Zz 11 ?_);exact Y_ cC_ () (m_ rfl (by unfold lX_;simp only[decide_eq_true (p:=f.a∈(Mdl.no m)) d,decide_eq_true (p:=f=(aa_ f.a f.r f.b)) e,(show (f.r != [])=false from by rw[x];exact bne_self_eq_false _),Bool.and_true,Bool.and_false,Bool.true_and,Bool.false_and,Bool.not_true,Bool.not_false])) f_ zt
 refine Zz 3 ?_;refine t_ 3 [15,16,17,18] zk zs (Zz 5 ?_);refine o_ 19 rfl zk (ap_ rfl rfl (A_ (kc_ (Mdl.no m) (Mdl.noa m) (Mdl.noc m) f.b A.no) rfl f_ (fun v _ h=>by exact⟨h.1.1,trivial⟩) rfl fun E y=>Zz 3 ?_));refine t_ 0 [20,21] zk zs (Zz 6 ?_);exact Y_ cC_ () (m_ rfl (by rw[← y];unfold lX_;simp only[decide_eq_true (p:=f.a∈(Mdl.no m)) d,decide_eq_true (p:=f=(aa_ f.a f.r f.b)) e,(show (f.r != [])=true from bne_iff_ne.2 x),Bool.and_true,Bool.and_false,Bool.true_and,Bool.false_and,Bool.not_true,Bool.not_false])) f_ zt
theorem vq_ (m:Mdl) (C:m.ok) (f:Fc):Tri Tryz.prog 59 #[Mdl.val m,Fc.val f,.int .i64 3] [] [ek_ m] (fun _:Unit=>.bool (lW_ m f)) (fun _=>[]) (fun _=>[]):=by
 refine i_ Tryz.func59 rfl rfl Tryz.ntmps59 rfl fun H=>?_;refine Zz 2 ?_;refine V_ rfl rfl fun I=>V_ rfl rfl fun J=>Zz 10 ?_
 refine A_ (kc_ (Mdl.no m) (Mdl.noa m) (Mdl.noc m) f.a C.no) rfl f_ (fun v _ h=>by exact⟨h.1.1,trivial⟩) rfl fun F d=>e_ (as_ rfl) rfl (Zz 2 ?_)
 cases F
 ·replace d:=zdf d
  refine Zz 7 ?_;exact Y_ cC_ () (m_ rfl (by unfold lW_;simp only[decide_eq_false (p:=f.a∈(Mdl.no m)) d,Bool.and_true,Bool.and_false,Bool.true_and,Bool.false_and,Bool.not_true,Bool.not_false])) f_ zt
 replace d:=zdt d;refine Zz 12 ?_;refine e_ (ar_ (br_ rfl rfl) (show _=Value.bool false from congrArg Value.bool ze_)) rfl (Zz 6 ?_);refine e_ (ar_ (br_ rfl rfl) (show _=Value.bool false from congrArg Value.bool ze_)) rfl (Zz 8 ?_);refine t_ 25 [0,1,2,3,4,5,6,7,8] zk zs (Zz 10 ?_);refine o_ 9 rfl zk (j_ (sN_ f.a f.r f.lo f.hi) rfl f_ zt rfl fun _=>Zz 3 ?_);refine t_ 22 [10,11] zk zs (cZ_ rfl (ca_ (p:=f) (q:=(af_ f.a f.r f.lo f.hi)) rfl rfl) rfl fun E e=>Zz 2 ?_);cases E
 ·replace e:=zdf e
  refine t_ 0 [12,13,14,15,16,17,18,19,20,21,22,23,24,25,26,27,28,29,30,31,32,33] zk zs (Zz 26 ?_);exact Y_ cC_ () (m_ rfl (by unfold lW_;simp only[decide_eq_true (p:=f.a∈(Mdl.no m)) d,decide_eq_false (p:=f=(af_ f.a f.r f.lo f.hi)) e,Bool.and_true,Bool.and_false,Bool.true_and,Bool.false_and,Bool.not_true,Bool.not_false])) f_ zt
 replace e:=zdt e;refine t_ 17 [12,13,14,15,16] zk zs (Zi 2 (fun x=>?_) fun x=>?_)
 ·refine Zz 3 ?_
  refine t_ 0 [17,18,19,20,21,22,23,24,25,26,27,28,29,30,31,32,33] zk zs (Zz 21 ?_);exact Y_ cC_ () (m_ rfl (by unfold lW_;simp only[decide_eq_true (p:=f.a∈(Mdl.no m)) d,decide_eq_true (p:=f=(af_ f.a f.r f.lo f.hi)) e,(show (f.r != [])=false from by rw[x];exact bne_self_eq_false _),Bool.and_true,Bool.and_false,Bool.true_and,Bool.false_and,Bool.not_true,Bool.not_false])) f_ zt
 refine Zz 3 ?_;refine t_ 12 [17,18,19,20,21] zk zs (Zi 2 (fun y=>?_) fun y=>?_)
 ·refine Zz 3 ?_
  refine t_ 0 [22,23,24,25,26,27,28,29,30,31,32,33] zk zs (Zz 16 ?_);exact Y_ cC_ () (m_ rfl (by unfold lW_;simp only[decide_eq_true (p:=f.a∈(Mdl.no m)) d,decide_eq_true (p:=f=(af_ f.a f.r f.lo f.hi)) e,(show (f.r != [])=true from bne_iff_ne.2 x),decide_eq_false (p:=(-1099511627776)≤f.lo) y,Bool.and_true,Bool.and_false,Bool.true_and,Bool.false_and,Bool.not_true,Bool.not_false])) f_ zt
 refine Zz 3 ?_;refine t_ 5 [22,23,24,25,26,27,28] zk zs (Zi 4 (fun A=>?_) fun A=>?_)
 ·refine Zz 3 ?_
  refine t_ 0 [29,30,31,32,33] zk zs (Zz 9 ?_);exact Y_ cC_ () (m_ rfl (by unfold lW_;simp only[decide_eq_true (p:=f.a∈(Mdl.no m)) d,decide_eq_true (p:=f=(af_ f.a f.r f.lo f.hi)) e,(show (f.r != [])=true from bne_iff_ne.2 x),decide_eq_true (p:=(-1099511627776)≤f.lo) y,decide_eq_false (p:=f.lo≤f.hi) A,Bool.and_true,Bool.and_false,Bool.true_and,Bool.false_and,Bool.not_true,Bool.not_false])) f_ zt
 refine Zz 3 ?_;refine t_ 0 [29,30,31,32,33] zk zs (Zz 2 ?_);refine bG_ rfl rfl rfl (dK_ rfl rfl) rfl fun G B=>Zz 6 ?_
 exact Y_ cC_ () (m_ rfl (by rw[← B];unfold lW_;simp only[decide_eq_true (p:=f.a∈(Mdl.no m)) d,decide_eq_true (p:=f=(af_ f.a f.r f.lo f.hi)) e,(show (f.r != [])=true from bne_iff_ne.2 x),decide_eq_true (p:=(-1099511627776)≤f.lo) y,decide_eq_true (p:=f.lo≤f.hi) A,Bool.and_true,Bool.and_false,Bool.true_and,Bool.false_and,Bool.not_true,Bool.not_false])) f_ zt
theorem hY_ {G:Prop} (h:G:=by
 exact x_ ⟨i+1,x,(iN_ hV d B fun p q=>by omega)⟩ zb_ zl d_ zh):G:=h
theorem gm_ {G:Prop} (h:G:=by
 refine Zz 6 ?_;exact met ⟨rfl,rfl,rfl,(m_ rfl (jaf E)),trivial⟩):G:=h
theorem gn_ {G:Prop} (h:G:=by
 exact x_ ⟨i+1,x,(iN_ hV d B fun p _ hp=>by rw[F]at hp;obtain rfl:=Option.some.inj hp;unfold pl_;simp_all)⟩ zb_ zl d_ zh):G:=h
theorem go_ {G:Prop} (h:G:=by
 refine Zz 7 ?_;exact Y_ Tryz.results25 ⟨1,.inr rfl,fun q=>absurd q ze_,fun q=>absurd (vN_ q.no d za_ F) (by unfold pl_;simp_all)⟩ rfl f_ zt):G:=h
theorem hZ_ {G:Prop} (h:G:=by
 refine Zz 2 ?_;refine t_ 0 [3,4,5,6,7,8,9,10,11,12,13,14,15,16,17,18,19,20,21,22,23,24,25,26,27,28,29,30,31] zk zs (Zz 41 ?_);exact hY_):G:=h
theorem tQ_ (m:Mdl) (J:m.ok):Tri Tryz.prog 25 #[Mdl.val m] [] [ek_ m] (fun e:{e:Int // (e=0∨e=1)∧(e=0↔MdV m)}=>.int .i64 e.1) (fun _=>[]) (fun _=>[]):=by
 refine i_ Tryz.func25 rfl rfl Tryz.ntmps25 rfl fun v_1=>?_;have hdl_no:=J.no;have hdl_ty:=J.ty;have hdl_li:=J.li;have hdl_di:=J.di;have hdl_ra:=J.ra;have hdl_ro:=J.ro;refine Zz 2 ?_;refine V_ rfl rfl fun H=>Zz 10 ?_
 refine K_ (ι:={y:Nat // y≤List.length (Mdl.no m)∧la_ (List.take y (Mdl.no m))}) (fun y=>[(1,zp_ H 0),(2,.int .i64 0),(3,.int .i64 (y.1:Int))]) (fun y=>((H,.cells #[.slice (Mdl.noa m) (List.length (Mdl.no m)) (Mdl.noc m),.slice (Mdl.tya m) (List.length (Mdl.ty m)) (Mdl.tyc m),.slice (Mdl.lia m) (List.length (Mdl.li m)) (Mdl.lic m),.slice (Mdl.dia m) (List.length (Mdl.di m)) (Mdl.dic m),.slice (Mdl.raa m) (List.length (Mdl.ra m)) (Mdl.rac m),.slice (Mdl.roa m) (List.length (Mdl.ro m)) (Mdl.roc m)] 28 (0,0))::[])) (fun y=>[ek_ m]) (fun y=>List.length (Mdl.no m) - y.1) ⟨(0:Nat),by simp,⟨by simp,by simp⟩⟩ zl d_ zh ?_;rintro ⟨i,hi_i,hV⟩;dsimp only at hi_i hV ⊢;refine Zi 7 (fun hr_1=>?_) fun hr_1=>?_
 ·have hV_1:la_ (Mdl.no m):=by rw[List.take_of_length_le za_]at hV;exact hV
  refine Zz 9 ?_;refine A_ (il_ (Mdl.ty m) (Mdl.tya m) (Mdl.tyc m) J.ty) rfl f_ (fun v _ h=>by exact⟨h.1.2.1,trivial⟩) rfl fun r_1 B=>Zz 1 ?_
  refine aj_ 4 ((decide ((List.Pairwise Fc.lt (Mdl.ty m))))&&(decide ((List.Pairwise Fc.lt (Mdl.li m))))) (fun r=>[(1,zp_ H 0),(2,.int .i64 0),(3,.int .i64 (i:Int)),(85,.bool r)]) ?_ fun r_2 a4=>?_
  ·cases r_1
   ·have E:=B
    replace B:=zdf B;exact gm_
   have E:=B;replace B:=zdt B;refine Zz 5 ?_;refine A_ (il_ (Mdl.li m) (Mdl.lia m) (Mdl.lic m) J.li) rfl f_ (fun v _ h=>by exact⟨h.1.2.2.1,trivial⟩) rfl fun a7 R=>Zz 3 ?_
   exact met ⟨rfl,rfl,rfl,(m_ rfl (jat E R)),trivial⟩
  refine Zz 1 ?_;refine aj_ 4 ((((decide ((List.Pairwise Fc.lt (Mdl.ty m))))&&(decide ((List.Pairwise Fc.lt (Mdl.li m))))))&&(decide ((List.Pairwise Fc.lt (Mdl.di m))))) (fun r=>[(1,zp_ H 0),(2,.int .i64 0),(3,.int .i64 (i:Int)),(90,.bool r)]) ?_ fun a7 R=>?_
  ·cases r_2
   ·have E:=a4
    exact gm_
   have E:=a4;refine Zz 5 ?_;refine A_ (il_ (Mdl.di m) (Mdl.dia m) (Mdl.dic m) J.di) rfl f_ (fun v _ h=>by exact⟨h.1.2.2.2.1,trivial⟩) rfl fun a1 L=>Zz 3 ?_
   exact met ⟨rfl,rfl,rfl,(m_ rfl (jat E L)),trivial⟩
  refine Zz 1 ?_;refine aj_ 4 ((((((decide ((List.Pairwise Fc.lt (Mdl.ty m))))&&(decide ((List.Pairwise Fc.lt (Mdl.li m))))))&&(decide ((List.Pairwise Fc.lt (Mdl.di m))))))&&(decide ((List.Pairwise Fc.lt (Mdl.ra m))))) (fun r=>[(1,zp_ H 0),(2,.int .i64 0),(3,.int .i64 (i:Int)),(95,.bool r)]) ?_ fun a1 L=>?_
  ·cases a7
   ·have E:=R
    exact gm_
   have E:=R;refine Zz 5 ?_;refine A_ (il_ (Mdl.ra m) (Mdl.raa m) (Mdl.rac m) J.ra) rfl f_ (fun v _ h=>by exact⟨h.1.2.2.2.2.1,trivial⟩) rfl fun a6 O=>Zz 3 ?_
   exact met ⟨rfl,rfl,rfl,(m_ rfl (jat E O)),trivial⟩
  refine Zz 1 ?_;refine aj_ 4 ((((((((decide ((List.Pairwise Fc.lt (Mdl.ty m))))&&(decide ((List.Pairwise Fc.lt (Mdl.li m))))))&&(decide ((List.Pairwise Fc.lt (Mdl.di m))))))&&(decide ((List.Pairwise Fc.lt (Mdl.ra m))))))&&(decide ((List.Pairwise Fc.lt (Mdl.ro m))))) (fun r=>[(1,zp_ H 0),(2,.int .i64 0),(3,.int .i64 (i:Int)),(100,.bool r)]) ?_ fun a6 O=>?_
  ·cases a1
   ·have E:=L
    exact gm_
   have E:=L;refine Zz 5 ?_;refine A_ (il_ (Mdl.ro m) (Mdl.roa m) (Mdl.roc m) J.ro) rfl f_ (fun v _ h=>by exact⟨h.1.2.2.2.2.2,trivial⟩) rfl fun M U=>Zz 3 ?_
   exact met ⟨rfl,rfl,rfl,(m_ rfl (jat E U)),trivial⟩
  refine Zz 10 ?_;refine K_ (ι:={y:Nat×Bool // y.1≤List.length (Mdl.ty m)∧y.2=((nA_ m)&&List.all (List.take y.1 (Mdl.ty m)) (kS_ m))}) (fun y=>[(1,zp_ H 0),(2,.int .i64 0),(3,.int .i64 (i:Int)),(4,.bool y.1.2),(5,.int .i64 (y.1.1:Int))]) (fun y=>((H,.cells #[.slice (Mdl.noa m) (List.length (Mdl.no m)) (Mdl.noc m),.slice (Mdl.tya m) (List.length (Mdl.ty m)) (Mdl.tyc m),.slice (Mdl.lia m) (List.length (Mdl.li m)) (Mdl.lic m),.slice (Mdl.dia m) (List.length (Mdl.di m)) (Mdl.dic m),.slice (Mdl.raa m) (List.length (Mdl.ra m)) (Mdl.rac m),.slice (Mdl.roa m) (List.length (Mdl.ro m)) (Mdl.roc m)] 28 (0,0))::[])) (fun y=>[ek_ m]) (fun y=>List.length (Mdl.ty m) - y.1.1) ⟨((0:Nat),a6),by simp,(by rw[List.take_zero,List.all_nil,Bool.and_true];exact O.symm)⟩ zl d_ zh ?_;rintro ⟨⟨Y,g_1⟩,hi_jty,a2⟩;dsimp only at hi_jty a2 ⊢;refine Zi 7 (fun U=>?_) fun U=>?_
  ·refine Zz 12 ?_
   refine K_ (ι:={y:Nat×Bool // y.1≤List.length (Mdl.li m)∧y.2=(((nA_ m)&&List.all (Mdl.ty m) (kS_ m))&&List.all (List.take y.1 (Mdl.li m)) (nZ_ m))}) (fun y=>[(1,zp_ H 0),(2,.int .i64 0),(3,.int .i64 (i:Int)),(5,.int .i64 (Y:Int)),(4,.bool y.1.2),(6,.int .i64 (y.1.1:Int))]) (fun y=>((H,.cells #[.slice (Mdl.noa m) (List.length (Mdl.no m)) (Mdl.noc m),.slice (Mdl.tya m) (List.length (Mdl.ty m)) (Mdl.tyc m),.slice (Mdl.lia m) (List.length (Mdl.li m)) (Mdl.lic m),.slice (Mdl.dia m) (List.length (Mdl.di m)) (Mdl.dic m),.slice (Mdl.raa m) (List.length (Mdl.ra m)) (Mdl.rac m),.slice (Mdl.roa m) (List.length (Mdl.ro m)) (Mdl.roc m)] 28 (0,0))::[])) (fun y=>[ek_ m]) (fun y=>List.length (Mdl.li m) - y.1.1) ⟨((0:Nat),g_1),by simp,(by rw[List.take_zero,List.all_nil,Bool.and_true];exact oM_ a2 za_)⟩ zl d_ zh ?_;rintro ⟨⟨W,g_2⟩,hi_jli,V⟩;dsimp only at hi_jli V ⊢;refine Zi 7 (fun I=>?_) fun I=>?_
   ·refine Zz 12 ?_
    refine K_ (ι:={y:Nat×Bool // y.1≤List.length (Mdl.di m)∧y.2=((((nA_ m)&&List.all (Mdl.ty m) (kS_ m))&&List.all (Mdl.li m) (nZ_ m))&&List.all (List.take y.1 (Mdl.di m)) (lX_ m))}) (fun y=>[(1,zp_ H 0),(2,.int .i64 0),(3,.int .i64 (i:Int)),(5,.int .i64 (Y:Int)),(6,.int .i64 (W:Int)),(4,.bool y.1.2),(7,.int .i64 (y.1.1:Int))]) (fun y=>((H,.cells #[.slice (Mdl.noa m) (List.length (Mdl.no m)) (Mdl.noc m),.slice (Mdl.tya m) (List.length (Mdl.ty m)) (Mdl.tyc m),.slice (Mdl.lia m) (List.length (Mdl.li m)) (Mdl.lic m),.slice (Mdl.dia m) (List.length (Mdl.di m)) (Mdl.dic m),.slice (Mdl.raa m) (List.length (Mdl.ra m)) (Mdl.rac m),.slice (Mdl.roa m) (List.length (Mdl.ro m)) (Mdl.roc m)] 28 (0,0))::[])) (fun y=>[ek_ m]) (fun y=>List.length (Mdl.di m) - y.1.1) ⟨((0:Nat),g_2),by simp,(by rw[List.take_zero,List.all_nil,Bool.and_true];exact oM_ V za_)⟩ zl d_ zh ?_;rintro ⟨⟨jdi,g_3⟩,hi_jdi,a3⟩;dsimp only at hi_jdi a3 ⊢;refine Zi 7 (fun G=>?_) fun G=>?_
    ·refine Zz 12 ?_
     refine K_ (ι:={y:Nat×Bool // y.1≤List.length (Mdl.ra m)∧y.2=(((((nA_ m)&&List.all (Mdl.ty m) (kS_ m))&&List.all (Mdl.li m) (nZ_ m))&&List.all (Mdl.di m) (lX_ m))&&List.all (List.take y.1 (Mdl.ra m)) (lW_ m))}) (fun y=>[(1,zp_ H 0),(2,.int .i64 0),(3,.int .i64 (i:Int)),(5,.int .i64 (Y:Int)),(6,.int .i64 (W:Int)),(7,.int .i64 (jdi:Int)),(4,.bool y.1.2),(8,.int .i64 (y.1.1:Int))]) (fun y=>((H,.cells #[.slice (Mdl.noa m) (List.length (Mdl.no m)) (Mdl.noc m),.slice (Mdl.tya m) (List.length (Mdl.ty m)) (Mdl.tyc m),.slice (Mdl.lia m) (List.length (Mdl.li m)) (Mdl.lic m),.slice (Mdl.dia m) (List.length (Mdl.di m)) (Mdl.dic m),.slice (Mdl.raa m) (List.length (Mdl.ra m)) (Mdl.rac m),.slice (Mdl.roa m) (List.length (Mdl.ro m)) (Mdl.roc m)] 28 (0,0))::[])) (fun y=>[ek_ m]) (fun y=>List.length (Mdl.ra m) - y.1.1) ⟨((0:Nat),g_3),by simp,(by rw[List.take_zero,List.all_nil,Bool.and_true];exact oM_ a3 za_)⟩ zl d_ zh ?_;rintro ⟨⟨jra,g_4⟩,hi_jra,a5⟩;dsimp only at hi_jra a5 ⊢;refine Zi 7 (fun C=>?_) fun C=>?_
     ·refine Zz 12 ?_
      refine K_ (ι:={y:Nat×Bool // y.1≤List.length (Mdl.ro m)∧y.2=((((((nA_ m)&&List.all (Mdl.ty m) (kS_ m))&&List.all (Mdl.li m) (nZ_ m))&&List.all (Mdl.di m) (lX_ m))&&List.all (Mdl.ra m) (lW_ m))&&List.all (List.take y.1 (Mdl.ro m)) (jQ_))}) (fun y=>[(1,zp_ H 0),(2,.int .i64 0),(3,.int .i64 (i:Int)),(5,.int .i64 (Y:Int)),(6,.int .i64 (W:Int)),(7,.int .i64 (jdi:Int)),(8,.int .i64 (jra:Int)),(4,.bool y.1.2),(9,.int .i64 (y.1.1:Int))]) (fun y=>((H,.cells #[.slice (Mdl.noa m) (List.length (Mdl.no m)) (Mdl.noc m),.slice (Mdl.tya m) (List.length (Mdl.ty m)) (Mdl.tyc m),.slice (Mdl.lia m) (List.length (Mdl.li m)) (Mdl.lic m),.slice (Mdl.dia m) (List.length (Mdl.di m)) (Mdl.dic m),.slice (Mdl.raa m) (List.length (Mdl.ra m)) (Mdl.rac m),.slice (Mdl.roa m) (List.length (Mdl.ro m)) (Mdl.roc m)] 28 (0,0))::[])) (fun y=>[ek_ m]) (fun y=>List.length (Mdl.ro m) - y.1.1) ⟨((0:Nat),g_4),by simp,(by rw[List.take_zero,List.all_nil,Bool.and_true];exact oM_ a5 za_)⟩ zl d_ zh ?_;rintro ⟨⟨jro,g_5⟩,hi_jro,P⟩;dsimp only at hi_jro P ⊢;refine Zi 7 (fun N=>?_) fun N=>?_
      ·refine Zz 9 ?_
       refine e_ (as_ rfl) rfl (Zz 2 ?_);cases g_5
       ·refine Zz 7 ?_
        exact Y_ Tryz.results25 ⟨1,.inr rfl,fun q=>absurd q ze_,fun q=>absurd ((yO_ hV_1 (oM_ P za_)).2 q) ze_⟩ rfl f_ zt
       refine Zz 9 ?_;exact Y_ Tryz.results25 ⟨0,.inl rfl,fun _=>(yO_ hV_1 (oM_ P za_)).1 rfl,fun _=>rfl⟩ rfl f_ zt
      obtain⟨x,A,d,S⟩:=zge (show jro<List.length (Mdl.ro m) by omega);refine Zz 12 ?_;refine e_ (O_ w_ s_ rfl rfl (fun v _ h=>aq_ (n:=6) Fc.cells_len ze_ (by exact h.1.2.2.2.2.2) d) za_ zg_) rfl ?_;refine e_ (ae_ (ad:=(Mdl.roa m)) (us:=Fc.cells A) aB_ s_ rfl (fun v _ h=>by exact h.1.2.2.2.2.2) (Fc.cells_len _) (p_ Fc.cells_len d)) rfl (E_ Q_ rfl fun b_2=>z_ 0 s_ rfl rfl rfl rfl rfl rfl (Zz 3 ?_));refine t_ 19 [0,1] zk zs (Zz 3 ?_);cases g_5
      ·refine t_ 0 [2,3,4,5,6,7,8,9,10,11,12,13,14,15,16,17,18,19,20] zk zs (Zz 28 ?_)
       exact x_ ⟨(jro+1,false),x,(wq_ P d)⟩ zb_ zl (c_ d_) zh
      refine t_ 14 [2,3,4,5,6] zk zs (Zz 6 ?_);refine o_ 7 rfl zk (ap_ rfl rfl (j_ (pf_ A.a A.b) rfl f_ zt rfl fun _=>Zz 3 ?_));refine t_ 10 [8,9,10] zk zs (bG_ rfl rfl rfl (ca_ (p:=A) (q:=(Z_ A.a A.b)) rfl rfl) rfl fun M K=>Zz 3 ?_);cases M
      ·replace K:=zdf K
       refine t_ 0 [11,12,13,14,15,16,17,18,19,20] zk zs (Zz 19 ?_);exact x_ ⟨(jro+1,false),x,(kj_ P d (by unfold jQ_;simp only[decide_eq_false (p:=A=(Z_ A.a A.b)) K,Bool.and_true,Bool.and_false,Bool.true_and,Bool.false_and,Bool.not_true,Bool.not_false]))⟩ zb_ zl (c_ d_) zh
      replace K:=zdt K;refine t_ 5 [11,12,13,14,15] zk zs (Zi 2 (fun a0=>?_) fun a0=>?_)
      ·refine Zz 3 ?_
       refine t_ 0 [16,17,18,19,20] zk zs (Zz 14 ?_);exact x_ ⟨(jro+1,false),x,(kj_ P d (by unfold jQ_;simp only[decide_eq_true (p:=A=(Z_ A.a A.b)) K,(show (A.a != [])=false from by rw[a0];exact bne_self_eq_false _),Bool.and_true,Bool.and_false,Bool.true_and,Bool.false_and,Bool.not_true,Bool.not_false]))⟩ zb_ zl (c_ d_) zh
      refine Zz 3 ?_;refine t_ 0 [16,17,18,19,20] zk zs (Zz 2 ?_);refine bG_ rfl rfl rfl (cT_ rfl rfl) rfl fun r_7 hr_14=>Zz 11 ?_
      exact x_ ⟨(jro+1,r_7),x,(kj_ P d (by unfold jQ_;simp only[decide_eq_true (p:=A=(Z_ A.a A.b)) K,(show (A.a != [])=true from bne_iff_ne.2 a0),Bool.and_true,Bool.and_false,Bool.true_and,Bool.false_and,Bool.not_true,Bool.not_false];exact hr_14))⟩ zb_ zl (c_ d_) zh
     obtain⟨x,A,d,S⟩:=zge (show jra<List.length (Mdl.ra m) by omega);refine Zz 8 ?_;refine t_ 9 [0,1] zk zs (Zz 3 ?_);cases g_4
     ·refine t_ 0 [2,3,4,5,6,7,8,9,10] zk zs (Zz 18 ?_)
      exact x_ ⟨(jra+1,false),x,(wq_ a5 d)⟩ zb_ zl d_ zh
     refine t_ 3 [2,3,4,5,6,7] zk zs (Zz 4 ?_);refine aP_ rfl rfl rfl (O_ w_ s_ rfl rfl (fun v _ h=>aq_ (n:=6) Fc.cells_len ze_ (by exact h.1.2.2.2.2.1) d) za_ zg_) rfl ?_;refine aP_ rfl rfl rfl (ae_ (ad:=(Mdl.raa m)) (us:=Fc.cells A) aB_ s_ rfl (fun v _ h=>by exact h.1.2.2.2.2.1) (Fc.cells_len _) (p_ Fc.cells_len d)) rfl (bh_ (o_ 8 rfl zk (ap_ rfl rfl (A_ (vq_ m J A) rfl f_ zf rfl fun M N=>Zz 3 ?_))));refine t_ 0 [9,10] zk zs (Zz 11 ?_);exact x_ ⟨(jra+1,M),x,(kj_ a5 d N)⟩ zb_ zl d_ zh
    obtain⟨x,A,d,S⟩:=zge (show jdi<List.length (Mdl.di m) by omega);refine Zz 8 ?_;refine t_ 9 [0,1] zk zs (Zz 3 ?_);cases g_3
    ·refine t_ 0 [2,3,4,5,6,7,8,9,10] zk zs (Zz 18 ?_)
     exact x_ ⟨(jdi+1,false),x,(wq_ a3 d)⟩ zb_ zl d_ zh
    refine t_ 3 [2,3,4,5,6,7] zk zs (Zz 4 ?_);refine aP_ rfl rfl rfl (O_ w_ s_ rfl rfl (fun v _ h=>aq_ (n:=6) Fc.cells_len ze_ zaq_ d) za_ zg_) rfl ?_;refine aP_ rfl rfl rfl (ae_ (ad:=(Mdl.dia m)) (us:=Fc.cells A) aB_ s_ rfl (fun v _ h=>by exact h.1.2.2.2.1) (Fc.cells_len _) (p_ Fc.cells_len d)) rfl (bh_ (o_ 8 rfl zk (ap_ rfl rfl (A_ (qs_ m J A) rfl f_ zf rfl fun M C=>Zz 3 ?_))));refine t_ 0 [9,10] zk zs (Zz 11 ?_);exact x_ ⟨(jdi+1,M),x,(kj_ a3 d C)⟩ zb_ zl d_ zh
   obtain⟨x,A,d,S⟩:=zge (show W<List.length (Mdl.li m) by omega);refine Zz 8 ?_;refine t_ 29 [0,1] zk zs (Zz 3 ?_);cases g_2
   ·refine t_ 0 [2,3,4,5,6,7,8,9,10,11,12,13,14,15,16,17,18,19,20,21,22,23,24,25,26,27,28,29,30] zk zs (Zz 38 ?_)
    exact x_ ⟨(W+1,false),x,(wq_ V d)⟩ zb_ zl d_ zh
   refine t_ 23 [2,3,4,5,6,7] zk zs (Zz 4 ?_);refine aP_ rfl rfl rfl (O_ w_ s_ rfl rfl (fun v _ h=>aq_ (n:=6) Fc.cells_len ze_ (by exact h.1.2.2.1) d) za_ zg_) rfl ?_;refine aP_ rfl rfl rfl (ae_ (ad:=(Mdl.lia m)) (us:=Fc.cells A) aB_ s_ rfl (fun v _ h=>by exact h.1.2.2.1) (Fc.cells_len _) (p_ Fc.cells_len d)) rfl (bh_ (o_ 8 rfl zk (ap_ rfl rfl (A_ (qs_ m J A) rfl f_ zf rfl fun M G=>Zz 3 ?_))));refine t_ 20 [9,10] zk zs (Zz 3 ?_);cases M
   ·refine t_ 0 [11,12,13,14,15,16,17,18,19,20,21,22,23,24,25,26,27,28,29,30] zk zs (Zz 29 ?_)
    exact x_ ⟨(W+1,false),x,(kj_ V d (by unfold nZ_;simp only[G,Bool.and_true,Bool.and_false,Bool.true_and,Bool.false_and,Bool.not_true,Bool.not_false]))⟩ zb_ zl d_ zh
   refine t_ 14 [11,12,13,14,15,16] zk zs (Zz 3 ?_);refine aP_ rfl rfl rfl (O_ w_ s_ rfl rfl (fun v _ h=>aq_ (n:=6) Fc.cells_len ze_ (by exact h.1.2.2.1) d) za_ zg_) rfl ?_;refine Zz 1 ?_;refine aP_ rfl rfl rfl (bl_ (ad:=(Mdl.lia m)) ab_ rfl (fun v _ h=>by exact h.1.2.2.1) (p_ Fc.cells_len d 1 _ rfl)) rfl (bh_ (o_ 17 rfl zk (ap_ rfl rfl (A_ (cb_ A.a) rfl f_ zt rfl fun r_7 C=>Zz 3 ?_))));refine t_ 10 [18,19,20] zk zs (aP_ rfl rfl rfl (as_ rfl) rfl (Zz 3 ?_));cases r_7
   ·refine t_ 4 [21,22,23,24,25,26] zk zs (Zz 3 ?_)
    refine aP_ rfl rfl rfl (O_ w_ s_ rfl rfl (fun v _ h=>aq_ (n:=6) Fc.cells_len ze_ (by exact h.1.2.2.1) d) za_ zg_) rfl ?_;refine Zz 1 ?_;refine aP_ rfl rfl rfl (bl_ (ad:=(Mdl.lia m)) ab_ rfl (fun v _ h=>by exact h.1.2.2.1) (p_ Fc.cells_len d 2 _ rfl)) rfl (bh_ (o_ 27 rfl zk (ap_ rfl rfl (A_ (cb_ A.b) rfl f_ zt rfl fun r_8 N=>Zz 3 ?_))));refine t_ 0 [28,29,30] zk zs (aP_ rfl rfl rfl (as_ rfl) rfl (Zz 11 ?_));exact x_ ⟨(W+1,(!r_8)),x,(kj_ V d (by unfold nZ_;simp only[G,C,Bool.and_true,Bool.and_false,Bool.true_and,Bool.false_and,Bool.not_true,Bool.not_false];rw[N]))⟩ zb_ zl d_ zh
   refine t_ 0 [21,22,23,24,25,26,27,28,29,30] zk zs (Zz 19 ?_);exact x_ ⟨(W+1,false),x,(kj_ V d (by unfold nZ_;simp only[G,C,Bool.and_true,Bool.and_false,Bool.true_and,Bool.false_and,Bool.not_true,Bool.not_false]))⟩ zb_ zl d_ zh
  obtain⟨x,A,d,S⟩:=zge (show Y<List.length (Mdl.ty m) by omega);refine Zz 8 ?_;refine t_ 9 [0,1] zk zs (Zz 3 ?_);cases g_1
  ·refine t_ 0 [2,3,4,5,6,7,8,9,10] zk zs (Zz 18 ?_)
   exact x_ ⟨(Y+1,false),x,(wq_ a2 d)⟩ zb_ zl d_ zh
  refine t_ 3 [2,3,4,5,6,7] zk zs (Zz 4 ?_);refine aP_ rfl rfl rfl (O_ w_ s_ rfl rfl (fun v _ h=>aq_ (n:=6) Fc.cells_len ze_ (by exact h.1.2.1) d) za_ zg_) rfl ?_;refine aP_ rfl rfl rfl (ae_ (ad:=(Mdl.tya m)) (us:=Fc.cells A) aB_ s_ rfl (fun v _ h=>by exact h.1.2.1) (Fc.cells_len _) (p_ Fc.cells_len d)) rfl (bh_ (o_ 8 rfl zk (ap_ rfl rfl (A_ (vr_ m J A) rfl f_ zf rfl fun M I=>Zz 3 ?_))));refine t_ 0 [9,10] zk zs (Zz 11 ?_);exact x_ ⟨(Y+1,M),x,(kj_ a2 d I)⟩ zb_ zl d_ zh
 obtain⟨x,A,d,S⟩:=zge (show i<List.length (Mdl.no m) by omega);refine Zi 15 (fun B=>?_) fun B=>?_
 ·refine Zi 4 (fun a4=>?_) fun a4=>?_
  ·refine Zz 30 ?_
   refine t_ 29 [0,1,2] zk zs (Zi 1 (fun R=>?_) fun R=>?_)
   ·exact hZ_
   obtain⟨Z,T,Q,X⟩:=zge (show (Int.toNat ((i:Int) - 1))<List.length (Mdl.no m) by omega);have F:(Mdl.no m)[i - 1]? = some T:=by rw[show i - 1=Int.toNat ((i:Int) - 1) by omega];exact Q
   refine Zz 2 ?_;refine t_ 18 [3,4,5,6,7,8,10,11,12,13,14] zk zs (Zz 12 ?_);refine o_ 9 rfl zk (ap_ rfl rfl (A_ (cb_ T) rfl f_ zt rfl fun r_1 L=>Zz 3 ?_));refine o_ 15 rfl zk (ap_ rfl rfl (A_ (cb_ A) rfl f_ zt rfl fun r_2 O=>Zz 3 ?_));refine t_ 13 [16,17,18] zk zs (bG_ rfl rfl rfl (fp_ dt_ rfl rfl) rfl fun a7 U=>Zz 3 ?_);cases a7
   ·refine t_ 0 [19,20,21,22,23,24,25,26,27,28,29,30,31] zk zs (Zz 25 ?_)
    exact hY_
   refine t_ 0 [19,20,21,22,23,24,25,26,27,28,29,30,31] zk zs (Zz 11 ?_);refine bG_ rfl rfl rfl (jI_ rfl rfl) rfl fun a1 I=>Zz 4 ?_
   cases a1
   ·replace I:=zdf I
    refine Zz 9 ?_;exact hY_
   replace I:=zdt I;exact go_
  obtain⟨Z,T,Q,X⟩:=zge (show (Int.toNat ((i:Int) - 1))<List.length (Mdl.no m) by omega);have F:(Mdl.no m)[i - 1]? = some T:=by rw[show i - 1=Int.toNat ((i:Int) - 1) by omega];exact Q
  refine Zz 15 ?_;refine A_ (cb_ T) rfl f_ zt rfl fun r_1 R=>Zz 4 ?_
  cases r_1
  ·refine Zz 17 ?_
   refine t_ 29 [0,1,2] zk zs (Zi 1 (fun L=>?_) fun L=>?_)
   ·exact hZ_
   obtain⟨Z,T,Q,X⟩:=zge (show (Int.toNat ((i:Int) - 1))<List.length (Mdl.no m) by omega);have F:(Mdl.no m)[i - 1]? = some T:=by rw[show i - 1=Int.toNat ((i:Int) - 1) by omega];exact Q
   refine Zz 2 ?_;refine t_ 18 [3,4,5,6,7,8,10,11,12,13,14] zk zs (Zz 12 ?_);refine o_ 9 rfl zk (ap_ rfl rfl (A_ (cb_ T) rfl f_ zt rfl fun r_2 O=>Zz 3 ?_));refine o_ 15 rfl zk (ap_ rfl rfl (A_ (cb_ A) rfl f_ zt rfl fun a7 U=>Zz 3 ?_));refine t_ 13 [16,17,18] zk zs (bG_ rfl rfl rfl (fp_ dt_ rfl rfl) rfl fun a1 I=>Zz 3 ?_);cases a1
   ·refine t_ 0 [19,20,21,22,23,24,25,26,27,28,29,30,31] zk zs (Zz 25 ?_)
    exact gn_
   refine t_ 0 [19,20,21,22,23,24,25,26,27,28,29,30,31] zk zs (Zz 11 ?_);refine bG_ rfl rfl rfl (jI_ rfl rfl) rfl fun a6 G=>Zz 4 ?_
   cases a6
   ·replace G:=zdf G
    refine Zz 9 ?_;exact gn_
   replace G:=zdt G;exact go_
  refine Zz 11 ?_;refine A_ (cb_ A) rfl f_ zt rfl fun r_2 L=>ap_ rfl rfl (e_ (as_ rfl) rfl (Zz 5 ?_))
  cases r_2
  ·exact go_
  refine Zz 5 ?_;refine t_ 29 [0,1,2] zk zs (Zi 1 (fun O=>?_) fun O=>?_)
  ·exact hZ_
  obtain⟨Z,T,Q,X⟩:=zge (show (Int.toNat ((i:Int) - 1))<List.length (Mdl.no m) by omega);have F:(Mdl.no m)[i - 1]? = some T:=by rw[show i - 1=Int.toNat ((i:Int) - 1) by omega];exact Q
  refine Zz 2 ?_;refine t_ 18 [3,4,5,6,7,8,10,11,12,13,14] zk zs (Zz 12 ?_);refine o_ 9 rfl zk (ap_ rfl rfl (A_ (cb_ T) rfl f_ zt rfl fun a7 U=>Zz 3 ?_));refine o_ 15 rfl zk (ap_ rfl rfl (A_ (cb_ A) rfl f_ zt rfl fun a1 I=>Zz 3 ?_));refine t_ 13 [16,17,18] zk zs (bG_ rfl rfl rfl (fp_ dt_ rfl rfl) rfl fun a6 G=>Zz 3 ?_);cases a6
  ·refine t_ 0 [19,20,21,22,23,24,25,26,27,28,29,30,31] zk zs (Zz 25 ?_)
   exact gn_
  refine t_ 0 [19,20,21,22,23,24,25,26,27,28,29,30,31] zk zs (Zz 11 ?_);refine bG_ rfl rfl rfl (jI_ rfl rfl) rfl fun M C=>Zz 4 ?_
  cases M
  ·replace C:=zdf C
   refine Zz 9 ?_;exact gn_
  replace C:=zdt C;exact go_
 refine Zz 31 ?_;exact Y_ Tryz.results25 ⟨1,.inr rfl,fun q=>absurd q ze_,fun q=>absurd B (vO_ q.no d)⟩ rfl f_ zt
end Go.Proofs.YtpbnmnfdgckaiaaGreatDoor
namespace Go.Proofs.YtpbnmnfdgckaiaaGreatDoor
open Go Go.Sx Go.Proofs
attribute [local irreducible] Code.wp wpList wpAnyH
open Go.Vs Go.Shelf Go.RowKit
theorem jK_ {N:Nf} {fr:Fr} {H:Hp} {Γ:List Fct} {P:Program} {ty t h:TypeId} {x y:Operand} {m n:Int} (e:Fr.ev fr x=some (.int .i64 m)) (q:Fr.ev fr y=some (.int .i64 n)):Yld P N fr H Γ (.binOp .add t x y h) ty (.int .i64 (IntKind.wrap .i64 (m+n))) :=
  fun a v d _ _ _ _ _=>by simp[execOp,d.ev e,d.ev q,eqGuard,binOp,Op.intArith]
theorem uG_ (x:Int):IntKind.wrap .i64 ((IntKind.wrap .i64 x).tdiv 100)=(IntKind.wrap .i64 x).tdiv 100:=by
 have q:-9223372036854775808≤IntKind.wrap .i64 x∧IntKind.wrap .i64 x≤9223372036854775807:=by
   simp[IntKind.wrap,IntKind.signed,IntKind.bits]
   split<;>omega
 generalize IntKind.wrap .i64 x=w at q ⊢
 rcases Int.le_total 0 w with h|h
 ·rw[Int.tdiv_eq_ediv_of_nonneg h]
  exact ce_ za_ za_
 have e:w.tdiv 100=-((-w) / 100):=by
   have d:w.tdiv 100=-((-w).tdiv 100):=by rw[Int.neg_tdiv,Int.neg_neg]
   rw[d,Int.tdiv_eq_ediv_of_nonneg za_]
 rw[e];exact ce_ za_ za_
theorem fls_ok {m:Mdl} (h:m.ok):∀ x∈m.fls,x.l.length≤9223372036854775807:=fun x d=>by
 unfold Mdl.fls at d;simp only[List.mem_cons,List.not_mem_nil,or_false]at d;rcases d with rfl|rfl|rfl|rfl|rfl
 ·exact h.ty
 ·exact h.li
 ·exact h.di
 ·exact h.ra
 exact h.ro
theorem wI_ {a b:Int} {P:Prop} (h:(a=0∨a=1)∧(a=0↔P)) (k:(b=0∨b=1)∧(b=0↔P)):a=b:=by
  have e:a=0↔b=0:=h.2.trans k.2.symm;omega
theorem sm_ (m:Mdl) (N:m.ok):Tri Tryz.prog 19 #[Mdl.val m] [] [ek_ m] (fun b:Bool=>.bool b) (fun _=>[]) (fun _=>[]):=by
 refine i_ Tryz.func19 rfl rfl Tryz.ntmps19 rfl fun Q=>?_;refine Zz 2 ?_;refine V_ rfl rfl fun S=>Zz 24 ?_
 refine X_ cI_ bT_ ds_ rfl rfl rfl rfl rfl rfl fun A=>?_;refine cL_ (List.flatMap FL.cells (Mdl.fls m)) d_ rfl ?_;refine Zz 5 ?_;have P:(Mdl.fls m).length=5:=rfl;refine K_ (ι:={y:Nat×Int // y.1≤List.length (Mdl.fls m)}) (fun y=>[(2,.bool false),(3,.int .i64 y.1.2),(21,.slice (some ⟨A,0,none⟩) (List.length (Mdl.fls m)) 5),(22,.int .i64 (List.length (Mdl.fls m):Int)),(23,.int .i64 (y.1.1:Int))]) (fun y=>([])) (fun y=>[ai_ (some ⟨A,0,none⟩) (List.flatMap FL.cells (Mdl.fls m)),ek_ m]) (fun y=>List.length (Mdl.fls m) - y.1.1) ⟨((0:Nat),(List.length (Mdl.no m):Int)),by simp⟩ zl f_ zh ?_;rintro ⟨⟨q,w⟩,I⟩;dsimp only at I ⊢;refine Zi 2 (fun L=>?_) fun L=>?_
 ·refine Zz 9 ?_
  refine G_ (dK_ rfl rfl) rfl fun O F=>Zz 4 ?_
  exact Y_ Tryz.results19 O rfl f_ zt
 have B:q<List.length (Mdl.fls m):=by omega
 obtain⟨d,G⟩:∃ H,(Mdl.fls m)[q]? = some H:=⟨_,List.getElem?_eq_getElem B⟩;have e:d∈(Mdl.fls m):=List.mem_of_getElem? G;have T:=fls_ok N d e;refine Zz 11 ?_;refine e_ (bl_ (ad:=(some ⟨A,0,none⟩)) Tryz.isAgg26 rfl zf (p_ FL.cells_len G 0 _ rfl)) rfl (Zz 8 ?_);refine e_ (jK_ rfl rfl) rfl (Zz 11 ?_);refine K_ (ι:={y:Nat×Int // y.1≤List.length (FL.l d)}) (fun y=>[(2,.bool false),(3,.int .i64 y.1.2),(21,.slice (some ⟨A,0,none⟩) (List.length (Mdl.fls m)) 5),(22,.int .i64 (List.length (Mdl.fls m):Int)),(23,.int .i64 (q:Int)),(31,.slice (FL.ad d) (List.length (FL.l d)) (FL.cap d)),(32,.int .i64 (List.length (FL.l d):Int)),(33,.int .i64 (y.1.1:Int))]) (fun y=>([])) (fun y=>[ai_ (some ⟨A,0,none⟩) (List.flatMap FL.cells (Mdl.fls m)),ek_ m]) (fun y=>List.length (FL.l d) - y.1.1) ⟨((0:Nat),(IntKind.wrap .i64 (w+(List.length (FL.l d):Int)))),by simp⟩ zl f_ zh ?_;rintro ⟨⟨u,J⟩,K⟩;dsimp only at K ⊢;refine Zi 2 (fun F=>?_) fun F=>?_
 ·refine Zz 11 ?_
  exact x_ ⟨(q+1,J),B⟩ zb_ zl f_ zh
 have E:u<List.length (FL.l d):=by omega
 obtain⟨x,C⟩:∃ H,(FL.l d)[u]? = some H:=⟨_,List.getElem?_eq_getElem E⟩;have M:x∈(FL.l d):=List.mem_of_getElem? C;refine Zz 10 ?_;refine e_ (O_ w_ s_ rfl rfl (fun v _ h=>aq_ (n:=6) Fc.cells_len ze_ (by exact ((Mdl.flsF h.2.1) d e)) C) za_ zg_) rfl ?_;refine e_ (ae_ (ad:=(FL.ad d)) (us:=Fc.cells x) aB_ s_ rfl (fun v _ h=>by exact ((Mdl.flsF h.2.1) d e)) (Fc.cells_len _) (p_ Fc.cells_len C)) rfl (E_ Q_ rfl fun R=>z_ 0 s_ rfl rfl rfl rfl rfl rfl (Zz 6 ?_));refine e_ (cl_ S_ rfl) rfl (Zz 2 ?_);refine e_ (cl_ S_ rfl) rfl (e_ (jK_ rfl rfl) rfl (Zz 2 ?_));refine e_ (cl_ S_ rfl) rfl (e_ (jK_ rfl rfl) rfl (e_ (wZ_ rfl rfl ze_ (uG_ _)) rfl (e_ (jK_ rfl rfl) rfl (Zz 8 ?_))));exact x_ ⟨(u+1,(IntKind.wrap .i64 (J+(Int.tdiv (IntKind.wrap .i64 ((IntKind.wrap .i64 ((x.a.length:Int)+(x.b.length:Int)))+(x.r.length:Int))) 100)))),E⟩ zb_ zl f_ zh
set_option maxHeartbeats 1000000 in
theorem canonAsksSpec_c (m:Mdl) (d:m.ok) (a b c:Str) (ha:a.length≤140737488351232) (hb:b.length≤140737488351232) (hc:c.length≤140737488351232) (lo hi:Int):Tri Tryz.prog 6 #[Mdl.val m,str a,str b,str c,.agg #[.int .i64 lo,.int .i64 hi]] [] [ek_ m,cn_,lQ_] (fun _:Unit=>.bool true) (fun _=>[]) (fun _=>[]):=by
 refine i_ Tryz.func6 rfl rfl Tryz.ntmps6 rfl fun Y=>?_;refine Zz 2 ?_;refine V_ rfl rfl fun U=>V_ rfl rfl fun a1=>Zz 6 ?_
 refine j_ (vh_) rfl f_ zf rfl fun _=>e_ (as_ rfl) rfl (Zz 9 ?_)
 refine j_ (sm_ m d) rfl f_ zf rfl fun fb=>e_ (as_ rfl) rfl (Zz 1 ?_)
 cases fb
 ·refine Zz 19 ?_
  exact Y_ Tryz.results6 () rfl f_ zt
 refine Zz 3 ?_;refine e_ (cl_ S_ rfl) rfl (Zz 3 ?_);refine e_ (cl_ S_ rfl) rfl (Zz 5 ?_);refine e_ (cl_ S_ rfl) rfl (Zi 3 (fun L=>?_) fun L=>?_)
 ·refine Zz 8 ?_
  refine t_ 44 [0,1,2,4,5,6] zk zs (Zz 7 ?_);refine o_ 3 rfl zk (A_ (nL_ m d a c) rfl f_ zf rfl fun X H=>Zz 3 ?_);refine o_ 7 rfl zk (A_ (rN_ m d a c) rfl f_ zf rfl fun W K=>Zz 3 ?_);refine t_ 40 [8,9] zk zs (cZ_ rfl (fp_ dt_ rfl rfl) rfl fun O q=>Zz 2 ?_);cases O
  ·exfalso;rw[← H,← K]at q;simp at q
  refine t_ 32 [10,11,12,13,15,16,17,18] zk zs (Zz 9 ?_);refine o_ 14 rfl zk (ap_ rfl rfl (A_ (sP_ m d a c b) rfl f_ zf rfl fun a3 J=>Zz 3 ?_));refine o_ 19 rfl zk (ap_ rfl rfl (A_ (xx_ m d a c b) rfl f_ zf rfl fun V I=>Zz 3 ?_));refine t_ 27 [20,21,22] zk zs (bG_ rfl rfl rfl (fp_ dt_ rfl rfl) rfl fun N x=>Zz 3 ?_);cases N
  ·exfalso;rw[← J,← I]at x;simp at x
  refine t_ 19 [23,24,25,26,28,29,30,31] zk zs (Zz 9 ?_);refine o_ 27 rfl zk (ap_ rfl rfl (A_ (vx_ m d a c lo hi) rfl f_ zf rfl fun Z F=>Zz 3 ?_));refine o_ 32 rfl zk (ap_ rfl rfl (A_ (vj_ m d a c lo hi) rfl f_ zf rfl fun a0 E=>Zz 3 ?_));refine t_ 14 [33,34,35] zk zs (bG_ rfl rfl rfl (fp_ dt_ rfl rfl) rfl fun P h=>Zz 3 ?_);cases P
  ·exfalso;rw[← F,← E]at h;simp at h
  refine t_ 12 [36,38] zk zs (Zz 3 ?_);refine o_ 37 rfl zk (ap_ rfl rfl (A_ (bE_ a) rfl f_ zt rfl fun Q A=>Zz 3 ?_));refine o_ 39 rfl zk (ap_ rfl rfl (A_ (cb_ a) rfl f_ zt rfl fun R B=>Zz 3 ?_));refine t_ 7 [40,41,42] zk zs (bG_ rfl rfl rfl (fp_ dt_ rfl rfl) rfl fun C e=>Zz 3 ?_);cases C
  ·exfalso;rw[← A,← B]at e;simp at e
  refine t_ 5 [43,45] zk zs (Zz 3 ?_);refine o_ 44 rfl zk (ap_ rfl rfl (j_ (rp_ m d) rfl f_ zf rfl fun⟨T,G⟩=>?_));dsimp only;refine Zz 3 ?_;refine o_ 46 rfl zk (ap_ rfl rfl (j_ (tQ_ m d) rfl f_ zf rfl fun⟨a2,M⟩=>?_));dsimp only;refine Zz 3 ?_;refine t_ 0 [47,48,49] zk zs (bG_ rfl rfl rfl (br_ rfl rfl) rfl fun S y=>Zz 6 ?_);exact Y_ Tryz.results6 () (m_ rfl (by rw[← y];exact beq_iff_eq.2 (wI_ G M))) f_ zt
 refine Zz 10 ?_;exact Y_ Tryz.results6 () rfl f_ zt
end Go.Proofs.YtpbnmnfdgckaiaaGreatDoor
namespace Go.Proofs.YtpbnmnfdgckaiaaGreatDoor
open Go Go.Sx Go.Proofs
attribute [local irreducible] Code.wp wpList wpAnyH
open Go.Vs Go.ChangeShapes Go.WideShapes Go.ChangeAt Go.RowKit
theorem own:ownKnob Tryz.prog.godebug=none:=by kernel_rfl
def gw_ : List (String × DataW Unit) := [("math/bits.deBruijn32tab", Rows.laid_math_bits_deBruijn32tab), ("math/bits.deBruijn64tab", Rows.laid_math_bits_deBruijn64tab), ("internal/strconv.uint64pow10", Rows.laid_internal_strconv_uint64pow10), ("unicode/utf8.acceptRanges", Rows.laid_unicode_utf8_acceptRanges), ("veilstone/terms.needs", Rows.laid_veilstone_terms_needs), ("veilstone/terms.uses", Rows.laid_veilstone_terms_uses), ("veilstone/normal.uses", Rows.laid_veilstone_normal_uses), ("unicode/utf8.first", Rows.laid_unicode_utf8_first)]
theorem vW_:Kids Tryz.prog (·<Tryz.prog.types.size):=kids_rows zd_ zd_
theorem full:∀ t e,t<Tryz.prog.types.size→Tryz.prog.underlying t=some (.slice e)→0<Tryz.prog.cellsOf e:=slices_full_of _ zd_
theorem nn_:Tryz.prog.types.size=322:=by kernel_rfl
theorem uP_:Tys Tryz.prog 3 4 9 25 40 38 42 22 174 63 where
  i:=u_
  b:=dt_
  s:=aH_
  ss:=ie_
  c:=⟨_,Tryz.underlying40,rfl⟩
  cs:=Tryz.underlying38
  a:=⟨_,Tryz.underlying42,rfl⟩
  axs:=Tryz.underlying22
  p:=⟨_,eY_,rfl⟩
  ps:=Tryz.underlying63
  ci:=by kernel_rfl
  cb:=by kernel_rfl
  cs1:=by kernel_rfl
  css:=by kernel_rfl
  cc:=by kernel_rfl
  ccs:=by kernel_rfl
  ca:=by kernel_rfl
  cp:=by kernel_rfl
  bs:=by kernel_rfl
  bc:=by kernel_rfl
  ba:=by kernel_rfl
  bp:=by kernel_rfl
theorem lO_ {W:World} (h:laidMetH Tryz.prog gw_ W):∃ T fz,W.heap[1]? = some (.cells (fc_ (H:=Unit) Rows.laid_veilstone_terms_needs).toArray T fz):=by
  rw[MakeChecks.laidMetH_plain _ _ _ zk]at h;exact jP_ vW_ (name := "veilstone/terms.needs") h (by simp [gw_]) (g := 1) (t := 201) zk zk (by rw [nn_]; decide) (m := 4) zk
theorem mF_ {W:World} (h:laidMetH Tryz.prog gw_ W):∃ T fz,W.heap[0]? = some (.cells (fc_ (H:=Unit) Rows.laid_veilstone_terms_uses).toArray T fz):=by
  rw[MakeChecks.laidMetH_plain _ _ _ zk]at h;exact jP_ vW_ (name := "veilstone/terms.uses") h (by simp [gw_]) (g := 0) (t := 96) zk zk (by rw [nn_]; decide) (m := 4) zk
theorem lP_ {W:World} (h:laidMetH Tryz.prog gw_ W):∃ T fz,W.heap[2]? = some (.cells (fc_ (H:=Unit) Rows.laid_veilstone_normal_uses).toArray T fz):=by
  rw[MakeChecks.laidMetH_plain _ _ _ zk]at h;exact jP_ vW_ (name := "veilstone/normal.uses") h (by simp [gw_]) (g := 2) (t := 205) zk zk (by rw [nn_]; decide) (m := 4) zk
theorem gL_ {W:World} (h:laidMetH Tryz.prog gw_ W):∃ T fz,W.heap[6]? = some (.cells (fc_ (H:=Unit) Rows.laid_internal_strconv_uint64pow10).toArray T fz):=by
  rw[MakeChecks.laidMetH_plain _ _ _ zk]at h;exact jP_ vW_ (name := "internal/strconv.uint64pow10") h (by simp [gw_]) (g := 6) (t := 305) zk zk (by rw [nn_]; decide) (m := 4) zk
theorem pg_ {W:World} {g:Nat} {l:List Value} {d:List Value} (h:∃ T fz,W.heap[g]? = some (.cells l.toArray T fz)) (e:l=d):bu_ (vw W) (some ⟨g,0,none⟩) d:=by
  obtain⟨T,fz,h⟩:=h;subst e;exact .inr ⟨g,0,_,T,fz,rfl,(Array.getElem?_eq_some_iff.1 h).1,h,fun j x q=>by rw[Nat.zero_add];simpa using q⟩
theorem xe_ {W:World} (h:laidMetH Tryz.prog gw_ W):cn_.p (vw W):=by
  refine⟨pg_ (lO_ h) zk,pg_ (mF_ h) zk,trivial,?_⟩;obtain⟨T,fz,d⟩:=gL_ h;refine⟨trivial,(Array.getElem?_eq_some_iff.1 d).1,T,fz,?_⟩;rw[show (Lib.pow10Tab.map fun z=>Value.int .u64 z)=fc_ (H:=Unit) Rows.laid_internal_strconv_uint64pow10 by kernel_rfl];exact d
theorem xf_ {W:World} (h:laidMetH Tryz.prog gw_ W):lQ_.p (vw W):=pg_ (lP_ h) zd_
end Go.Proofs.YtpbnmnfdgckaiaaGreatDoor
namespace Go.Proofs.YtpbnmnfdgckaiaaGreatDoor
open Go Go.Sx Go.Proofs
attribute [local irreducible] Code.wp wpList wpAnyH
open Go.Vs Go.ChangeShapes Go.WideShapes Go.ChangeAt Go.RowKit
structure Tys2 (P:Program) (tI tS tSs tF tFs tK:TypeId):Prop where
  f:∃ fs,P.underlying tF=some (.struct fs)∧fs.toList.map (fun f=>(f.type,f.offset))=[(tI,0),(tS,1),(tS,2),(tS,3),(tI,4),(tI,5)]
  fs:P.underlying tFs=some (.slice tF)
  k:∃ fs,P.underlying tK=some (.struct fs)∧fs.toList.map (fun f=>(f.type,f.offset))=[(tSs,0),(tFs,1)]
  cf:P.cellsOf tF=6
  cfs:P.cellsOf tFs=1
  ck:P.cellsOf tK=2
  bf:P.bytesOf tF=72
structure bigF (f:Fc):Prop where
  a:f.a.length≤140737488351232
  b:f.b.length≤140737488351232
  r:f.r.length≤140737488351232
section
variable {H:Type} {enc:TypeId×Value→H} {P:Program} {W:World} {tI tB tS tSs tC tCs tA tAs tP tPs tF tFs tK:TypeId} (X:Tys P tI tB tS tSs tC tCs tA tAs tP tPs) (Z:Tys2 P tI tS tSs tF tFs tK)
include X Z
theorem fc_of {n:Nat} {cs:List Value} {x:DataW H×List MemPlace} (h:DataW.trod enc P W 0 (fun _=>true) true n tF cs=some x) (I:wok (x.1.weights P tF)):∃ f:Fc,cs=f.cells∧bigF f:=by
  obtain⟨fs,U,V⟩:=Z.f;obtain⟨T,m,hn,Y,hl,C,e,Q⟩:=fields_of U V h;rw[Q]at I
  match T,C with
  | [x0,x1,x2,x3,x4,x5],_ =>
  simp only[List.map_cons,List.map_nil,DataW.weightsEach,fP_]at I;have L:=e 0 _ rfl;have N:=e 1 _ rfl;have y:=e 2 _ rfl;have q:=e 3 _ rfl;have F:=e 4 _ rfl;have J:=e 5 _ rfl;simp only[List.getElem?_cons_zero,List.getElem?_cons_succ,X.ci,X.cs1]at L N y q F J;obtain⟨k,A,_,_⟩:=nx_ X L;obtain⟨a,M,O⟩:=Go.Vs.str_of X N I.2.1;obtain⟨b,E,R⟩:=Go.Vs.str_of X y I.2.2.1;obtain⟨r,G,S⟩:=Go.Vs.str_of X q I.2.2.2.1;obtain⟨lo,B,_,_⟩:=nx_ X F;obtain⟨hi,K,_,_⟩:=nx_ X J;rw[Z.cf]at hl
  match cs,hl with
  | [c0,c1,c2,c3,c4,c5],_ =>
  simp only[List.drop_succ_cons,List.drop_zero,List.take_succ_cons,List.take_zero,List.cons.injEq,and_true]at A M E G B K;subst A M E G B K;exact⟨⟨k,a,b,r,lo,hi⟩,rfl,O,R,S⟩
theorem nI_ {n:Nat} {cs:List Value} {x:DataW H×List MemPlace} (h:DataW.trod enc P W 0 (fun _=>true) true n tFs cs=some x) (I:wok (x.1.weights P tFs)) :
    ∃ (l:List Fc) (ad:Option Addr) (cap:Nat),cs=[.slice ad l.length cap]∧bu_ (vw W) ad (l.flatMap Fc.cells)∧(∀ y∈l,bigF y)∧l.length≤cap∧cap≤1954687338212:=by
  obtain⟨l,ad,cap,e,A,E,B,q⟩:=sO_ Fc.cells 6 Fc.cells_len ze_ bigF Z.fs Z.cf (fun J _ F y G C=>fc_of X Z G C) h I;rw[Z.bf]at q;simp only[reachBytes]at q;exact⟨l,ad,cap,e,A,E,B,by omega⟩
variable {base:Nat} {v:Value} {d:DataW H} {ps:List MemPlace}
end
end Go.Proofs.YtpbnmnfdgckaiaaGreatDoor
namespace Go.Proofs.YtpbnmnfdgckaiaaGreatDoor
open Go Go.Sx Go.Proofs
attribute [local irreducible] Code.wp wpList wpAnyH
open Go.Vs Go.ChangeShapes Go.WideShapes Go.ChangeAt Go.RowKit
theorem oX_ {H:Type} {enc:TypeId×Value→H} {P:Program} {w:World} {base:Nat} {e:Nat→Bool} {q:Bool} {t0 t1 t2 t3 t4:TypeId} {args:Array Value} {ds:List (DataW H)} {ps:List MemPlace} (h:DataW.TrodAll enc P w base e q [t0,t1,t2,t3,t4] args.toList ds ps) :
    ∃ v0 v1 v2 v3 v4 d0 d1 d2 d3 d4 p0 p1 p2 p3 p4,args=#[v0,v1,v2,v3,v4]∧ds=[d0,d1,d2,d3,d4]∧ps=p0++p1++p2++p3++p4∧DataW.Trod enc P w base e q t0 v0 d0 p0∧DataW.Trod enc P w base e q t1 v1 d1 p1∧DataW.Trod enc P w base e q t2 v2 d2 p2∧DataW.Trod enc P w base e q t3 v3 d3 p3∧DataW.Trod enc P w base e q t4 v4 d4 p4:=by
  obtain⟨a0,s_1,I,e_1,N,q_1,y,rfl,rfl,x,F⟩:=trodAll_cons h;obtain⟨Q,s_2,O,e_2,S,q_2,rfl,rfl,rfl,L,R⟩:=trodAll_cons F;obtain⟨A,s_3,T,e_3,M,q_3,rfl,rfl,rfl,J,V⟩:=trodAll_cons R;obtain⟨U,s_4,a3,e_4,K,q_4,rfl,rfl,rfl,a2,a4⟩:=trodAll_cons V;obtain⟨a1,s_5,G,e_5,E,q_5,rfl,rfl,rfl,B,C⟩:=trodAll_cons a4;obtain⟨rfl,rfl,rfl⟩:=trodAll_nil C;exact⟨a0,Q,A,U,a1,I,O,T,a3,G,N,S,M,K,E,by cases args;simp_all,rfl,by simp,x,L,J,a2,B⟩
structure TysM (P:Program) (tI tSs tFs tM tV:TypeId):Prop where
  m:∃ fs,P.underlying tM=some (.struct fs)∧fs.toList.map (fun f=>(f.type,f.offset))=[(tSs,0),(tFs,1),(tFs,2),(tFs,3),(tFs,4),(tFs,5)]
  v:∃ fs,P.underlying tV=some (.struct fs)∧fs.toList.map (fun f=>(f.type,f.offset))=[(tI,0),(tI,1)]
  cm:P.cellsOf tM=6
  cv:P.cellsOf tV=2
section
variable {H:Type} {enc:TypeId×Value→H} {P:Program} {W:World} {tI tB tS tSs tC tCs tA tAs tP tPs tF tFs tK tM tV:TypeId} (X:Tys P tI tB tS tSs tC tCs tA tAs tP tPs) (Z:Tys2 P tI tS tSs tF tFs tK) (Y:TysM P tI tSs tFs tM tV) {base:Nat} {v:Value} {d:DataW H} {ps:List MemPlace}
include X Z Y
theorem yA_ (e:Value.okWide P W .any base tM v) (h:DataW.Trod enc P W 0 (fun _=>true) true tM v d ps) (q:wok (d.weights P tM)):∃ m:Mdl,v=m.val∧(ek_ m).p (vw W)∧m.ok:=by
  obtain⟨fs,hu,hL⟩:=Y.m;unfold Value.okWide at e;rw[hu]at e;obtain⟨cs,rfl,_⟩:=e;obtain⟨n,hn⟩:=h;simp only[Value.cells]at hn;obtain⟨xs,k,hn_1,hx,hl,B,x,V⟩:=fields_of hu hL hn;rw[V]at q
  match xs,B with
  | [x0,x1,x2,x3,x4,x5],_ =>
  simp only[List.map_cons,List.map_nil,DataW.weightsEach,fP_]at q;have F:=x 0 _ rfl;have G:=x 1 _ rfl;have y:=x 2 _ rfl;have I:=x 3 _ rfl;have C:=x 4 _ rfl;have E:=x 5 _ rfl;simp only[List.getElem?_cons_zero,List.getElem?_cons_succ,X.css,Z.cfs]at F G y I C E;obtain⟨a8,a5,a1,A,U,_,b_1,m_1⟩:=xm_ X F q.1;obtain⟨a0,a6,b2,N,a9,_,b_2,m_2⟩:=nI_ X Z G q.2.1;obtain⟨T,a3,b6,K,b0,_,b_3,m_3⟩:=nI_ X Z y q.2.2.1;obtain⟨a4,a7,b1,L,b5,_,b_4,m_4⟩:=nI_ X Z I q.2.2.2.1;obtain⟨a2,Q,b4,J,S,_,b_5,m_5⟩:=nI_ X Z C q.2.2.2.2.1;obtain⟨b3,R,b7,M,O,_,b_6,m_6⟩:=nI_ X Z E q.2.2.2.2.2.1;rw[Y.cm]at hl;refine⟨⟨a8,a5,a1,a0,a6,b2,T,a3,b6,a4,a7,b1,a2,Q,b4,b3,R,b7⟩,?_,⟨U,a9,b0,b5,S,O⟩,⟨by dsimp only;omega,by dsimp only;omega,by dsimp only;omega,by dsimp only;omega,by dsimp only;omega,by dsimp only;omega⟩⟩;obtain⟨cl⟩:=cs
  match cl,hl with
  | [d0,d1,d2,d3,d4,d5],_ =>
  simp only[List.drop_succ_cons,List.drop_zero,List.take_succ_cons,List.take_zero,List.cons.injEq,and_true]at A N K L J M;subst A N K L J M;rfl
omit X Z in
theorem yB_ (X:Tys P tI tB tS tSs tC tCs tA tAs tP tPs) (e:Value.okWide P W .any base tV v) (h:DataW.Trod enc P W 0 (fun _=>true) true tV v d ps):∃ lo hi:Int,v=.agg #[.int .i64 lo,.int .i64 hi]:=by
  obtain⟨fs,G,K⟩:=Y.v;unfold Value.okWide at e;rw[G]at e;obtain⟨cs,rfl,_⟩:=e;obtain⟨n,E⟩:=h;simp only[Value.cells]at E;obtain⟨J,k,F,L,hl,y,C,I⟩:=fields_of G K E
  match J,y with
  | [x0,x1],_ =>
  have A:=C 0 _ rfl;have x:=C 1 _ rfl;simp only[List.getElem?_cons_zero,List.getElem?_cons_succ,X.ci]at A x;obtain⟨lo,q,_,_⟩:=nx_ X A;obtain⟨hi,B,_,_⟩:=nx_ X x;rw[Y.cv]at hl;refine⟨lo,hi,?_⟩;obtain⟨cl⟩:=cs
  match cl,hl with
  | [d0,d1],_ =>
  simp only[List.drop_succ_cons,List.drop_zero,List.take_succ_cons,List.take_zero,List.cons.injEq,and_true]at q B;subst q B;rfl
end
theorem tysZ:Tys2 Tryz.prog 3 9 25 36 26 67 where
  f:=⟨_,ol_,rfl⟩
  fs:=Tryz.underlying26
  k:=⟨_,Tryz.underlying67,rfl⟩
  cf:=by kernel_rfl
  cfs:=by kernel_rfl
  ck:=by kernel_rfl
  bf:=by kernel_rfl
theorem tysM:TysM Tryz.prog 3 25 26 28 54 where
  m:=⟨_,Tryz.underlying28,rfl⟩
  v:=⟨_,Tryz.underlying54,rfl⟩
  cm:=by kernel_rfl
  cv:=by kernel_rfl
end Go.Proofs.YtpbnmnfdgckaiaaGreatDoor
