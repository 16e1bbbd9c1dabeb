/-
  Part of the proof of the law ProofToolsSpec over this seat: the small logic, the data, the contracts of functions (no condition).
-/
import Derived.Test.YtkeanlfhghlgiaaGreatDoorQProofToolsSpec14
set_option linter.unusedVariables false
set_option linter.unusedSimpArgs false
set_option linter.unusedSectionVars false
set_option maxHeartbeats 1000000
namespace Go.Proofs.YtkeanlfhghlgiaaGreatDoor
open Go Go.Sx Go.Proofs
attribute [local irreducible] Code.wp wpList wpAnyH
open Go.Vs
theorem kF_ (Y:List Stp) (yad:Option Addr) (ycap:Nat) (q:Int) (s:Stp) (h0:0≤q) (hs:Y[Int.toNat q]? = some s) (hl:Y.length≤1000000):Tri Tryz.prog 59 #[.agg #[.slice yad (List.length Y) ycap],.int .i64 q] [] [af_ yad (List.flatMap Stp.cells Y),ax_ Y] (fun _:Unit=>.int .i64 (bd_ Y s:Int)) (fun _=>[]) (fun _=>[]):=by
  have h:=tD_ Y yad ycap (Int.toNat q) s hs hl
  rwa [show ((Int.toNat q:Nat):Int)=q by omega]at h
theorem ms_one {Y:List Stp} {bs cs:List Bool} {n j:Nat} {s:Stp} (h0:j=0∨bs[n]? = some true) (hw:bs[n]? = some false) (hc:∀ i:Nat,cs[i]? = some true↔bs[i]? = some true∨∃ q∈s.frm.take j,∃ t,Y[Int.toNat q]? = some t∧bd_ Y t=i):∀ i:Nat,cs[i]? = some true↔bs[i]? = some true:=fun i=>by
 rcases h0 with rfl|h
 ·rw[hc];simp
 rw[hw]at h;cases h
set_option maxHeartbeats 2000000 in
theorem tg_ (Y:List Stp) (yad:Option Addr) (ycap:Nat) (hl:Y.length≤1000000) (hfl:∀ s∈Y,s.frm.length≤1000000):Tri Tryz.prog 28 #[.agg #[.slice yad (List.length Y) ycap]] [] [af_ yad (List.flatMap Stp.cells Y),ax_ Y] (fun y:{y:List Stp×Option Addr×Nat×Int // qy_ Y y.1 y.2.2.2}=>.tuple #[.agg #[.slice y.1.2.1 y.1.1.length y.1.2.2.1],.int .i64 y.1.2.2.2]) (fun _=>[]) (fun y=>[af_ y.1.2.1 (List.flatMap Stp.cells y.1.1),ax_ y.1.1]):=by
 refine w_ Tryz.func28 rfl rfl Tryz.ntmps28 rfl fun v0=>?_
 refine Zz 2 ?_
 refine as_ rfl rfl fun b1=>J_ cp_ rfl fun b2=>Zz 7 ?_
 refine n_ (lB_ Y yad ycap hl hfl) rfl m_ zf rfl fun⟨od,hod⟩=>?_
 dsimp only
 refine i_ (bt_ rfl) rfl (Zz 2 ?_)
 cases od
 ·refine Zz 3 ?_
  refine i_ (H_ gZ_ rfl rfl) rfl (z_ 0 aT_ rfl rfl rfl rfl rfl rfl (Zz 4 ?_))
  exact pK_ ⟨([],none,0,1),⟨(fun q=>absurd (hod.2 q) (by simp)),fun _=>⟨rfl,rfl⟩⟩⟩ (fun aa v h1 h2 _=>dj_ 0 Tryz.results28 fE_ aT_ rfl rfl rfl rfl aa v h1 h2) m_ (fun v _ h=>by exact⟨.inl rfl,dO_,trivial⟩)
 obtain⟨hne,hord⟩:=hod.1 rfl
 have hoY:en_ Y:=⟨hne,hord⟩
 have hY0:=List.length_pos_iff.2 hne
 obtain⟨xl,hxl⟩:∃ e0,Y[Int.toNat ((List.length Y:Int) - 1)]? = some e0:=⟨_,List.getElem?_eq_getElem (by omega)⟩
 have hx0:Y[Y.length - 1]? = some xl:=by rw[show Y.length - 1=Int.toNat ((List.length Y:Int) - 1) by omega];exact hxl
 have hfl0:=hI_ (List.mem_of_getElem? hx0)
 refine Zz 10 ?_
 refine n_ (kF_ Y yad ycap ((List.length Y:Int) - 1) xl (by omega) hxl hl) rfl m_ zf rfl fun _=>Zz 8 ?_
 refine dn_ (n:=List.length Y) (by':=1) Tryz.underlying99 (z:=(.bool false)) zk rfl (by decide) rfl rfl (by omega) (by simp only[maxLen];omega) rfl fun svB HrB hrB=>?_
 have hqB:aE_ 4 1 svB (List.length (List.replicate (List.length Y) false)) (List.flatMap eC_ (List.replicate (List.length Y) false)) HrB:=by rw[List.length_replicate,← ev_ eC_];exact hrB
 refine Zz 3 ?_
 refine u_ (q_ (e_ d_) (ak_ V_)) (Zz 4 ?_)
 have hlw0:bd_ Y xl<List.length (List.replicate (List.length Y) false):=by rw[List.length_replicate];exact hfl0
 obtain⟨w0,hw0⟩:∃ e0,(List.replicate (List.length Y) false)[bd_ Y xl]? = some e0:=⟨_,List.getElem?_eq_getElem hlw0⟩
 have hmw0:w0∈(List.replicate (List.length Y) false):=List.mem_of_getElem? hw0
 refine i_ (ah_ hqB dY_ dz_ rfl rfl (by omega) (by omega)) rfl (bQ_ (k:=(bd_ Y xl:Int).toNat*1+0) hqB zp dz_ rfl rfl (by omega) rfl rfl fun Hr1 hr1=>?_)
 have hs1:=(cU_ eC_ 1 eL_ (List.replicate (List.length Y) false) (bd_ Y xl) 0 w0 true (.bool true) hw0 (by decide) rfl).trans (congrArg _ (rfl))
 have hq1:aE_ 4 1 svB (List.length (List.set (List.replicate (List.length Y) false) (bd_ Y xl) true)) (List.flatMap eC_ (List.set (List.replicate (List.length Y) false) (bd_ Y xl) true)) Hr1:=by rw[← hs1,show List.length (List.set (List.replicate (List.length Y) false) (bd_ Y xl) true)=List.length (List.replicate (List.length Y) false) from (List.length_set ..)];exact hr1
 refine Zz 3 ?_
 refine u_ (q_ (e_ d_) (ak_ V_)) (Zz 7 ?_)
 have hMs:=MS.start hoY hx0
 refine Q_ (ι:={y:Int×List Bool×Value×Hp // (-1≤y.1∧y.1<(List.length Y:Int))∧MS Y y.2.1 (y.1+1).toNat∧zR 4 1 eC_ y.2.2.1 y.2.1 y.2.2.2}) (fun y=>[(1,zp_ b1 0),(2,zp_ b2 0),(3,.int .i64 0),(4,.int .i64 (bd_ Y xl:Int)),(5,y.1.2.2.1),(6,.int .i64 y.1.1)]) (fun y=>((b2,.cells #[.slice none 0 0] 29 (0,0))::((b1,.cells #[.slice yad (List.length Y) ycap] 29 (0,0))::y.1.2.2.2))) (fun y=>[af_ yad (List.flatMap Stp.cells Y),ax_ Y]) (fun y=>(y.1.1+1).toNat) ⟨((bd_ Y xl:Int),(List.set (List.replicate (List.length Y) false) (bd_ Y xl) true),svB,Hr1),by dsimp only;omega,(by dsimp only;rw[show ((bd_ Y xl:Int)+1).toNat=bd_ Y xl+1 by omega];exact hMs),hq1⟩ zl zp zh ?_
 rintro ⟨⟨z,bs,sv_B,H_B⟩,hz,hM,hr_B⟩
 dsimp only at hz hM hr_B ⊢
 refine Zi 4 (fun hr1=>?_) fun hr1=>?_
 ·refine Zz 6 ?_
  have hMd:MS Y bs 0:=by have q:=hM;rwa [show (z+1).toNat=0 by omega]at q
  refine Zz 4 ?_
  refine dn_ (n:=List.length Y) (by':=8) fd_ (z:=(.int .i64 0)) zk rfl (by decide) rfl rfl (by omega) (by simp only[maxLen];omega) rfl fun svA HrA hrA=>?_
  have hqA:aE_ 3 1 svA (List.length (List.replicate (List.length Y) (0:Int))) (List.flatMap N_ (List.replicate (List.length Y) (0:Int))) HrA:=by rw[List.length_replicate,← ev_ N_];exact hrA
  refine Zz 3 ?_
  refine u_ (q_ (e_ d_) (ak_ (e_ d_))) (Zz 2 ?_)
  refine i_ (H_ gZ_ rfl rfl) rfl (J_ cp_ rfl fun b3=>z_ 0 aT_ rfl rfl rfl rfl rfl rfl (Zz 9 ?_))
  refine oU_ (ax_ ([]:List Stp)) (fun _ _ _=>dO_) ?_
  refine u_ (H':=([]:Hp)++((b3,.cells #[.slice none 0 0] 29 (0,0))::((b2,.cells #[.slice none 0 0] 29 (0,0))::((b1,.cells #[.slice yad (List.length Y) ycap] 29 (0,0))::(HrA++H_B))))) (List.Perm.refl _) ?_
  refine Q_ (ι:={y:Nat×List Int×List Int×List Stp×Value×Hp×Value×Hp×Value×Hp // y.1≤bd_ Y xl+1∧YS Y y.1 y.2.1 y.2.2.1 y.2.2.2.1∧y.2.2.2.1.length≤y.1∧zR 4 1 eC_ y.2.2.2.2.1 bs y.2.2.2.2.2.1∧zR 3 1 N_ y.2.2.2.2.2.2.1 y.2.2.1 y.2.2.2.2.2.2.2.1∧zR 48 9 Stp.cells y.2.2.2.2.2.2.2.2.1 y.2.2.2.1 y.2.2.2.2.2.2.2.2.2}) (fun y=>[(1,zp_ b1 0),(2,zp_ b2 0),(3,.int .i64 0),(4,.int .i64 (bd_ Y xl:Int)),(5,y.1.2.2.2.2.1),(6,.int .i64 z),(8,y.1.2.2.2.2.2.2.1),(9,zp_ b3 0),(10,.int .i64 (y.1.1:Int))]) (fun y=>((b3,.cells #[y.1.2.2.2.2.2.2.2.2.1] 29 (0,0))::((b2,.cells #[.slice none 0 0] 29 (0,0))::((b1,.cells #[.slice yad (List.length Y) ycap] 29 (0,0))::(y.1.2.2.2.2.2.1++(y.1.2.2.2.2.2.2.2.1++y.1.2.2.2.2.2.2.2.2.2)))))) (fun y=>[ax_ y.1.2.2.2.1,af_ yad (List.flatMap Stp.cells Y),ax_ Y]) (fun y=>bd_ Y xl+1 - y.1.1) ⟨((0:Nat),([]:List Int),(List.replicate (List.length Y) 0),([]:List Stp),sv_B,H_B,svA,HrA,(.slice none 0 0),[]),by dsimp only;omega,YS.nil Y,by simp,hr_B,hqA,(aE_.nil 48 9)⟩ zl zp zh ?_
  rintro ⟨⟨i,O,pl,V,sv_B,H_B,sv_A,H_A,sv_V,H_V⟩,hil,hYS,hVl,hr_B,hr_A,hr_V⟩
  dsimp only at hil hYS hVl hr_B hr_A hr_V ⊢
  refine Zi 5 (fun hr2=>?_) fun hr2=>?_
  ·refine Zz 6 ?_
   refine bk_ hr_V (c_ (c_ (c_ (e_ V_)))) fun vad vcap hvad hcvad hmvad hzvad=>?_
   subst hvad
   refine Zz 2 ?_
   refine z_ 1 aT_ rfl rfl rfl rfl rfl rfl (Zz 4 ?_)
   exact pK_ ⟨(V,vad,vcap,0),⟨(fun _=>⟨rfl,hYS.done (fun n hn=>by have:=kr_ hord hx0 hn;omega)⟩),fun q=>absurd hoY q⟩⟩ (fun aa v h1 h2 _=>dj_ 1 Tryz.results28 fE_ aT_ rfl rfl rfl rfl aa v h1 h2) m_ zf
  have hiY:i<List.length Y:=by omega
  have hlu2:i<List.length Y:=hiY
  obtain⟨u2,hu2⟩:∃ e0,Y[i]? = some e0:=⟨_,List.getElem?_eq_getElem hlu2⟩
  have hmu2:u2∈Y:=List.mem_of_getElem? hu2
  have hf2:=hfl u2 hmu2
  have hbl:=hMd.len
  have hpl:=hYS.pln
  have hlw3:i<List.length bs:=by omega
  obtain⟨w3,hw3⟩:∃ e0,bs[i]? = some e0:=⟨_,List.getElem?_eq_getElem hlw3⟩
  have hmw3:w3∈bs:=List.mem_of_getElem? hw3
  have hlw4:i<List.length pl:=by omega
  obtain⟨w4,hw4⟩:∃ e0,pl[i]? = some e0:=⟨_,List.getElem?_eq_getElem hlw4⟩
  have hmw4:w4∈pl:=List.mem_of_getElem? hw4
  refine Zz 12 ?_
  refine i_ (ah_ hr_B dY_ dz_ rfl rfl (by omega) (by omega)) rfl (i_ (av_ hr_B zp Tryz.isAgg4 rfl (t_ eL_ hw3 0 _ rfl)) rfl (i_ (bt_ rfl) rfl (Zz 2 ?_)))
  cases w3
  ·refine Zz 9 ?_
   exact y_ ⟨(i+1,O,pl,V,sv_B,H_B,sv_A,H_A,sv_V,H_V),by dsimp only;omega,hYS.skip (fun q=>by rw[← hMd.hi i (Nat.zero_le _),hw3]at q;cases q),by dsimp only;omega,hr_B,hr_A,hr_V⟩ (by dsimp only;omega) zl zp zh
  have hnd:NdS Y i:=(hMd.hi i (Nat.zero_le _)).1 hw3
  refine Zz 9 ?_
  refine i_ (ch_ hr_V P_ rfl) rfl (i_ (ah_ hr_A f_ o_ rfl rfl (by omega) (by omega)) rfl (bQ_ (k:=(i:Int).toNat*1+0) hr_A zp o_ rfl rfl (by omega) rfl rfl fun Hr2 hr2=>?_))
  have hs2:=(cU_ N_ 1 D_ pl i 0 w4 (List.length V:Int) (.int .i64 (List.length V:Int)) hw4 (by decide) rfl).trans (congrArg _ (rfl))
  have hq2:aE_ 3 1 sv_A (List.length (List.set pl i (List.length V:Int))) (List.flatMap N_ (List.set pl i (List.length V:Int))) Hr2:=by rw[← hs2,show List.length (List.set pl i (List.length V:Int))=List.length pl from (List.length_set ..)];exact hr2
  refine Zz 2 ?_
  refine u_ (q_ (e_ d_) (q_ (e_ d_) (ak_ (e_ d_)))) (Zz 7 ?_)
  refine J_ bn_ rfl fun b4=>z_ 0 ap_ rfl rfl rfl rfl rfl rfl (Zz 4 ?_)
  refine dT_ f_ o_ rfl fun b5=>u_ d_ (Zz 4 ?_)
  refine u_ (q_ (e_ d_) (q_ (e_ d_) (q_ (e_ d_) (ak_ (e_ d_))))) (Zz 6 ?_)
  refine Q_ (ι:={y:Nat×Value×Hp×Value×Hp×Value×Hp×Value×Hp // y.1≤List.length u2.frm∧zR 4 1 eC_ y.2.1 bs y.2.2.1∧zR 3 1 N_ y.2.2.2.1 (List.set pl i (List.length V:Int)) y.2.2.2.2.1∧zR 48 9 Stp.cells y.2.2.2.2.2.1 V y.2.2.2.2.2.2.1∧zR 3 1 N_ y.2.2.2.2.2.2.2.1 (List.map (fun q=>pix O (hF Y q)) (List.take y.1 u2.frm)) y.2.2.2.2.2.2.2.2}) (fun y=>[(1,zp_ b1 0),(2,zp_ b2 0),(3,.int .i64 0),(4,.int .i64 (bd_ Y xl:Int)),(5,y.1.2.1),(6,.int .i64 z),(8,y.1.2.2.2.1),(9,zp_ b3 0),(10,.int .i64 (i:Int)),(11,zp_ b4 0),(12,y.1.2.2.2.2.2.2.2.1),(13,.int .i64 (y.1.1:Int))]) (fun y=>((b4,.cells #[.int .i64 u2.rule,.int .i64 (Fc.kind u2.fact),str (Fc.a u2.fact),str (Fc.b u2.fact),str (Fc.r u2.fact),.int .i64 (Fc.lo u2.fact),.int .i64 (Fc.hi u2.fact),.int .i64 u2.piece,.slice u2.ad (List.length u2.frm) u2.cap] 48 (0,0))::((b3,.cells #[y.1.2.2.2.2.2.1] 29 (0,0))::((b2,.cells #[.slice none 0 0] 29 (0,0))::((b1,.cells #[.slice yad (List.length Y) ycap] 29 (0,0))::(y.1.2.2.1++(y.1.2.2.2.2.1++(y.1.2.2.2.2.2.2.1++y.1.2.2.2.2.2.2.2.2)))))))) (fun y=>[ax_ V,af_ yad (List.flatMap Stp.cells Y),ax_ Y]) (fun y=>List.length u2.frm - y.1.1) ⟨((0:Nat),sv_B,H_B,sv_A,Hr2,sv_V,H_V,(.slice (some ⟨b5,0,none⟩) 0 0),[(b5,.cells #[] 3 (0,0))]),by simp,hr_B,hq2,hr_V,(gd_ b5 3 1)⟩ zl zp zh ?_
  rintro ⟨⟨j,sv_B,H_B,sv_A,H_A,sv_V,H_V,sv_Rint,H_Rint⟩,hj,hr_B,hr_A,hr_V,hr_Rint⟩
  dsimp only at hj hr_B hr_A hr_V hr_Rint ⊢
  refine Zi 7 (fun hr3=>?_) fun hr3=>?_
  ·rw[show List.take j u2.frm=Stp.frm u2 from List.take_of_length_le (by omega)]at hr_Rint
   refine Zz 6 ?_
   refine bk_ hr_Rint (c_ (c_ (c_ (c_ (e_ (e_ V_)))))) fun fa fc hfa hcfa hmfa hzfa=>?_
   subst hfa
   refine Zz 3 ?_
   refine z_ 0 ik_ rfl rfl rfl rfl rfl rfl (Zz 6 ?_)
   refine S_ P_ ap_ bn_ rfl rfl rfl rfl rfl rfl fun b6=>?_
   refine aB_ (List.flatMap Stp.cells [(Stp.mk u2.rule u2.fact u2.piece fa fc (List.map (fun q=>pix O (hF Y q)) u2.frm))]) d_ rfl ?_
   refine bs_ (news:=List.flatMap Stp.cells [(Stp.mk u2.rule u2.fact u2.piece fa fc (List.map (fun q=>pix O (hF Y q)) u2.frm))]) hM_ hr_V rfl rfl (fun q=>by cases q) (by simp) (c_ (c_ (c_ (c_ (e_ V_))))) (by rw[bV_ Stp.cells 9 Stp.cells_len];rfl) zf (fun u hu=>ar_ Stp.cells_one hu) (by simp only[maxLen];first|omega|(simp;omega)) (by first|omega|(simp;omega)) rfl fun sv3 Hr3 hr3=>?_
   have hq3:=zsa hr3
   refine Zz 1 ?_
   refine u_ (q_ (e_ d_) (q_ (e_ d_) (q_ (e_ d_) (ak_ (e_ d_))))) (dq_ 1 hq3 ei_ rfl rfl rfl rfl (Zz 2 ?_))
   refine oU_ (ax_ (V++[(Stp.mk u2.rule u2.fact u2.piece fa fc (List.map (fun q=>pix O (hF Y q)) u2.frm))])) (fun v _ h=>fv_ (s:=(Stp.mk u2.rule u2.fact u2.piece fa fc (List.map (fun q=>pix O (hF Y q)) u2.frm))) h.2.2.1 h.2.1) ?_
   refine Zz 6 ?_
   exact y_ ⟨(i+1,(O++[(i:Int)]),(List.set pl i (List.length V:Int)),(V++[(Stp.mk u2.rule u2.fact u2.piece fa fc (List.map (fun q=>pix O (hF Y q)) u2.frm))]),sv_B,H_B,sv_A,H_A,sv3,Hr3),by dsimp only;omega,hYS.put hoY hnd hu2 ⟨rfl,rfl,rfl,rfl⟩,by dsimp only;rw[List.length_append,List.length_singleton];omega,hr_B,hr_A,hq3⟩ (by dsimp only;omega) zl (g_ (c_ d_) (g_ (c_ d_) (g_ (c_ d_) (p_ (c_ (e_ l_)) (p_ (c_ V_) F_))))) zf
  obtain⟨hlx3,x3,hx3,hmx3⟩:=zge (show j<List.length u2.frm by omega)
  have hx3b:=hord i u2 hu2 x3 hmx3
  obtain⟨t2,ht2⟩:∃ e0,Y[Int.toNat x3]? = some e0:=⟨_,List.getElem?_eq_getElem (by omega)⟩
  have hft:=gL_ ht2
  have hpx:(List.set pl i (List.length V:Int))[bd_ Y t2]? = some (pix O (hF Y x3)):=by rw[List.getElem?_set,if_neg (by omega)];exact hYS.at hoY hnd hu2 hmx3 ht2
  have hlpx:=(List.getElem?_eq_some_iff.1 hpx).1
  refine Zz 7 ?_
  refine ae_ ((b4,.cells #[.int .i64 u2.rule,.int .i64 (Fc.kind u2.fact),str (Fc.a u2.fact),str (Fc.b u2.fact),str (Fc.r u2.fact),.int .i64 (Fc.lo u2.fact),.int .i64 (Fc.hi u2.fact),.int .i64 u2.piece,.slice u2.ad (List.length u2.frm) u2.cap] 48 (0,0))::((b3,.cells #[sv_V] 29 (0,0))::((b2,.cells #[.slice none 0 0] 29 (0,0))::((b1,.cells #[.slice yad (List.length Y) ycap] 29 (0,0))::(H_B++(H_A++H_V)))))) zk ?_
  refine s_ 6 [0,1,2,3,4,5,6,7] zk zs (Zz 6 ?_)
  refine R_ rfl (X_ f_ o_ rfl rfl (fun v _ h=>G_ (n:=1) D_ (by decide) (by exact (h.2.2.1 u2 hmu2)) hx3) (by omega) (by first|omega|(simp;done))) rfl ?_
  refine R_ rfl (at_ (ad:=u2.ad) O_ rfl (fun v _ h=>by exact (h.2.2.1 u2 hmu2)) (t_ D_ hx3 0 _ rfl)) rfl (cJ_ (j_ 8 rfl zk (n_ (kF_ Y yad ycap x3 t2 (by omega) ht2 hl) rfl m_ zf rfl fun _=>Zz 2 ?_)))
  refine K_ zs (s_ 3 [9,10] zk zs (R_ rfl (ah_ hr_A f_ o_ rfl rfl (by omega) (by omega)) rfl (R_ rfl (av_ hr_A zp O_ rfl (t_ D_ hpx 0 _ rfl)) rfl (cJ_ (j_ 11 rfl zk (S_ f_ o_ A_ rfl rfl rfl rfl rfl rfl fun b7=>?_))))))
  refine aB_ (List.flatMap N_ [(pix O (hF Y x3))]) d_ rfl ?_
  refine Zz 2 ?_
  refine K_ zs (j_ 12 rfl zk (bs_ (news:=List.flatMap N_ [(pix O (hF Y x3))]) bP_ hr_Rint rfl rfl (fun q=>by cases q) (by simp) zp (by rw[bV_ N_ 1 D_];rfl) zf (fun u hu=>ar_ bp_ hu) (by simp only[maxLen];first|omega|(simp;omega)) (by first|omega|(simp;omega)) rfl fun sv4 Hr4 hr4=>?_))
  have hq4:=zsa hr4
  refine Zz 2 ?_
  refine K_ zs (s_ 0 [13] zk zs (Zz 4 ?_))
  refine u_ (q_ (e_ d_) (q_ (e_ d_) (q_ (e_ d_) (ak_ (e_ d_))))) (Zz 6 ?_)
  exact y_ ⟨(j+1,sv_B,H_B,sv_A,H_A,sv_V,H_V,sv4,Hr4),hlx3,hr_B,hr_A,hr_V,(by rw[dm_ hx3];exact hq4)⟩ (by dsimp only;omega) zl zp (fun _ _ h=>h.2)
 obtain⟨n,rfl⟩:∃ n:Nat,z=n:=⟨z.toNat,by omega⟩
 have hM2:MS Y bs (n+1):=by have q:=hM;rwa [show ((n:Int)+1).toNat=n+1 by omega]at q
 have hnl:n<List.length Y:=by omega
 have hbl:=hM2.len
 have hls1:n<List.length Y:=hnl
 obtain⟨s1,hs1⟩:∃ e0,Y[n]? = some e0:=⟨_,List.getElem?_eq_getElem hls1⟩
 have hms1:s1∈Y:=List.mem_of_getElem? hs1
 have hf1:=hfl s1 hms1
 have hlw1:n<List.length bs:=by omega
 obtain⟨w1,hw1⟩:∃ e0,bs[n]? = some e0:=⟨_,List.getElem?_eq_getElem hlw1⟩
 have hmw1:w1∈bs:=List.mem_of_getElem? hw1
 refine Zz 13 ?_
 refine Q_ (ι:={y:Nat×List Bool×Value×Hp // y.1≤List.length s1.frm∧y.2.1.length=bs.length∧(∀ i:Nat,y.2.1[i]? = some true↔bs[i]? = some true∨∃ q∈s1.frm.take y.1,∃ t,Y[Int.toNat q]? = some t∧bd_ Y t=i)∧(y.1=0∨bs[n]? = some true)∧y.2.1[n]? = bs[n]? ∧ zR 4 1 eC_ y.2.2.1 y.2.1 y.2.2.2}) (fun y=>[(1,zp_ b1 0),(2,zp_ b2 0),(3,.int .i64 0),(4,.int .i64 (bd_ Y xl:Int)),(5,y.1.2.2.1),(6,.int .i64 (n:Int)),(7,.int .i64 (y.1.1:Int))]) (fun y=>((b2,.cells #[.slice none 0 0] 29 (0,0))::((b1,.cells #[.slice yad (List.length Y) ycap] 29 (0,0))::y.1.2.2.2))) (fun y=>[af_ yad (List.flatMap Stp.cells Y),ax_ Y]) (fun y=>List.length s1.frm - y.1.1) ⟨((0:Nat),bs,sv_B,H_B),by simp,rfl,by simp,.inl rfl,rfl,hr_B⟩ zl zp zh ?_
 rintro ⟨⟨j,cs,sv_B,H_B⟩,hj,hcl,hcq,hj0,hcn,hr_B⟩
 dsimp only at hj hcl hcq hj0 hcn hr_B ⊢
 have hcw:cs[n]? = some w1:=hcn.trans hw1
 have hlcw:n<List.length cs:=by omega
 refine Zz 5 ?_
 refine i_ (ah_ hr_B dY_ dz_ rfl rfl (by omega) (by omega)) rfl (i_ (av_ hr_B zp Tryz.isAgg4 rfl (t_ eL_ hcw 0 _ rfl)) rfl (Zz 1 ?_))
 cases w1
 ·refine Zz 21 ?_
  exact y_ ⟨(((n:Int) - 1),cs,sv_B,H_B),by omega,(by rw[show ((n:Int) - 1+1).toNat=n by omega];exact hM2.miss hoY hw1 hcl (ms_one hj0 hw1 hcq)),hr_B⟩ (by dsimp only;omega) zl zp zh
 refine Zi 17 (fun hr4=>?_) fun hr4=>?_
 ·refine Zz 12 ?_
  exact y_ ⟨(((n:Int) - 1),cs,sv_B,H_B),by omega,(by rw[show ((n:Int) - 1+1).toNat=n by omega];exact hM2.hit hoY hw1 hs1 hcl (fun i=>by have q:=hcq i;rwa [show List.take j s1.frm=Stp.frm s1 from List.take_of_length_le (by omega)]at q)),hr_B⟩ (by dsimp only;omega) zl (g_ d_ (g_ d_ ay_)) zh
 obtain⟨hlx2,x2,hx2,hmx2⟩:=zge (show j<List.length s1.frm by omega)
 have hx2b:=hord n s1 hs1 x2 hmx2
 obtain⟨t2,ht2⟩:∃ e0,Y[Int.toNat x2]? = some e0:=⟨_,List.getElem?_eq_getElem (by omega)⟩
 have hft:=gL_ ht2
 have hlw2:bd_ Y t2<List.length cs:=by omega
 have hlw2:bd_ Y t2<List.length cs:=hlw2
 obtain⟨w2,hw2⟩:∃ e0,cs[bd_ Y t2]? = some e0:=⟨_,List.getElem?_eq_getElem hlw2⟩
 have hmw2:w2∈cs:=List.mem_of_getElem? hw2
 refine Zz 8 ?_
 refine ae_ ((b2,.cells #[.slice none 0 0] 29 (0,0))::((b1,.cells #[.slice yad (List.length Y) ycap] 29 (0,0))::[])) zk ?_
 refine s_ 3 [0,1,2,3,4,5,6,7,8,9,10] zk zs (Zz 9 ?_)
 refine R_ rfl (X_ f_ o_ rfl rfl (fun v _ h=>G_ (n:=1) D_ (by decide) (by exact (h.2.1 s1 hms1)) hx2) (by omega) (by first|omega|(simp;done))) rfl ?_
 refine R_ rfl (at_ (ad:=s1.ad) O_ rfl (fun v _ h=>by exact (h.2.1 s1 hms1)) (t_ D_ hx2 0 _ rfl)) rfl (cJ_ (j_ 11 rfl zk (n_ (kF_ Y yad ycap x2 t2 (by omega) ht2 hl) rfl m_ zf rfl fun _=>Zz 3 ?_)))
 refine s_ 1 [12] zk zs (R_ rfl (ah_ hr_B dY_ dz_ rfl rfl (by omega) (by omega)) rfl (cJ_ (j_ 13 rfl zk (bQ_ (k:=(bd_ Y t2:Int).toNat*1+0) hr_B zp dz_ rfl rfl (by omega) rfl rfl fun Hr5 hr5=>?_))))
 have hs5:=(cU_ eC_ 1 eL_ cs (bd_ Y t2) 0 w2 true (.bool true) hw2 (by decide) rfl).trans (congrArg _ (rfl))
 have hq5:aE_ 4 1 sv_B (List.length (List.set cs (bd_ Y t2) true)) (List.flatMap eC_ (List.set cs (bd_ Y t2) true)) Hr5:=by rw[← hs5,show List.length (List.set cs (bd_ Y t2) true)=List.length cs from (List.length_set ..)];exact hr5
 refine Zz 5 ?_
 refine u_ (q_ (e_ d_) (ak_ V_)) (Zz 6 ?_)
 exact y_ ⟨(j+1,(List.set cs (bd_ Y t2) true),sv_B,Hr5),hlx2,by rw[List.length_set];exact hcl,nq_ hcq hx2 ht2 (by omega),.inr hw1,by dsimp only;rw[List.getElem?_set,if_neg (by omega)];exact hcn,hq5⟩ (by dsimp only;omega) zl zp zh
end Go.Proofs.YtkeanlfhghlgiaaGreatDoor
