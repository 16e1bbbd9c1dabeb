/-
  Part of the proof of the law ProofFindSpec over this seat: the small logic, the data, the contracts of functions (no condition).
-/
import Derived.Test.YtkeanlfhghlgiaaGreatDoorQProofFindSpec11
import Derived.Test.YtkeanlfhghlgiaaGreatDoorQProofFindSpec7
set_option linter.unusedVariables false
set_option linter.unusedSimpArgs false
set_option linter.unusedSectionVars false
set_option maxHeartbeats 1000000
namespace Go.Proofs.YtkeanlfhghlgiaaGreatDoor
open Go Go.Sx Go.Proofs
attribute [local irreducible] Code.wp wpList wpAnyH
open Go.Vs
theorem eqKy2 (p q:Ky) (w:World):(Op.equalIn 10000 111 (Ky.val p) (Ky.val q)).run Tryz.prog w=.ok (decide (p=q)) w:=by
  have h:=run_equalIn_struct (P:=Tryz.prog) w 9999 111 (Ky.cells p).toArray (Ky.cells q).toArray (by simp only[Program.fieldsOf,Tryz.underlying111]) Tryz.stoodInHeld111
  refine h.trans ?_
  rw[← Ky.eqb_eq]
  simp only[Program.fieldsOf,Tryz.underlying111]
  exact bO_ rfl ak_ rfl rfl (eqI bE_ w) (bO_ rfl V_ rfl rfl (eqS aI_ w) (bO_ rfl V_ rfl rfl (eqS aI_ w) (ii_ w)))
theorem uh_ (p q:fn_) (w:World):(Op.equalIn 10000 114 (bi_ p) (bi_ q)).run Tryz.prog w=.ok (decide (p=q)) w:=by
  have h:=run_equalIn_struct (P:=Tryz.prog) w 9999 114 (iO_ p).toArray (iO_ q).toArray (by simp only[Program.fieldsOf,Tryz.underlying114]) Tryz.stoodInHeld114
  refine h.trans ?_
  rw[← ns_]
  simp only[Program.fieldsOf,Tryz.underlying114]
  exact bO_ rfl V_ rfl rfl (eqS aI_ w) (bO_ rfl V_ rfl rfl (eqS aI_ w) (ii_ w))
theorem okKy2 (p:Ky):hV_ Tryz.prog 111 (Ky.val p):=fun e w=>by
 have hi:∀ (n:Int) (w:World),(Instr.checkKey e (9998+1) 3 (.int .i64 n)).run Tryz.prog w=.ok () w:=fun n w=>MapKept.run_checkKey (d:=.int .i64) bE_ (by simp[MapKept.IsKey]) e 9998
 have hs:∀ (n:Str) (w:World),(Instr.checkKey e (9998+1) 9 (str n)).run Tryz.prog w=.ok () w:=fun n w=>MapKept.run_checkKey (d:=.string) aI_ (by simp[MapKept.IsKey,str]) e 9998
 refine ckF (n:=9999) Tryz.underlying111 fun f hf=>?_
 simp only[List.mem_cons,List.not_mem_nil,or_false]at hf
 rcases hf with rfl|rfl|rfl
 ·exact⟨rfl,ak_,_,rfl,hi _⟩
 ·exact⟨rfl,V_,_,rfl,hs _⟩
 exact⟨rfl,V_,_,rfl,hs _⟩
theorem tN_ (p:fn_):hV_ Tryz.prog 114 (bi_ p):=fun e w=>by
 have hi:∀ (n:Int) (w:World),(Instr.checkKey e (9998+1) 3 (.int .i64 n)).run Tryz.prog w=.ok () w:=fun n w=>MapKept.run_checkKey (d:=.int .i64) bE_ (by simp[MapKept.IsKey]) e 9998
 have hs:∀ (n:Str) (w:World),(Instr.checkKey e (9998+1) 9 (str n)).run Tryz.prog w=.ok () w:=fun n w=>MapKept.run_checkKey (d:=.string) aI_ (by simp[MapKept.IsKey,str]) e 9998
 refine ckF (n:=9999) Tryz.underlying114 fun f hf=>?_
 simp only[List.mem_cons,List.not_mem_nil,or_false]at hf
 rcases hf with rfl|rfl
 ·exact⟨rfl,V_,_,rfl,hs _⟩
 exact⟨rfl,V_,_,rfl,hs _⟩
theorem fk_:KeyT Tryz.prog 111 Ky.val:=eK_ (K:=Ky) Tryz.underlying111 okKy2 (fun p q w=>eqKy2 p q w) fun k=>gE_ (l:=Ky.cells k) fun v hv=>by
 simp only[Ky.cells,List.mem_cons,List.not_mem_nil,or_false]at hv
 rcases hv with rfl|rfl|rfl
 ·exact eS_ _ _
 ·exact cK_ _ _
 exact cK_ _ _
theorem cj_:KeyT Tryz.prog 114 bi_:=eK_ (K:=fn_) Tryz.underlying114 tN_ (fun p q w=>uh_ p q w) fun k=>gE_ (l:=iO_ k) fun v hv=>by
 simp only[iO_,List.mem_cons,List.not_mem_nil,or_false]at hv
 rcases hv with rfl|rfl
 ·exact cK_ _ _
 exact cK_ _ _
theorem cS_:Elt Tryz.prog 46 3 1 8:=mw_ Tryz.underlying46 (z:=.int .i64 0) (by kernel_rfl) rfl (by decide)
theorem jg_:Elt Tryz.prog 27 48 9 112:=mw_ Tryz.underlying27 (z:=.agg #[.int .i64 0,.int .i64 0,str [],str [],str [],.int .i64 0,.int .i64 0,.int .i64 0,.slice none 0 0]) (by kernel_rfl) rfl (by decide)
theorem eE_:jF_ Tryz.prog 111 [(0,1),(1,1),(2,1)] [.int .i64 0,str [],str []]:=⟨_,Tryz.zeroValue111,Tryz.runUnderlying111,fun w=>by simp[A_,E_]⟩
theorem hd_:jF_ Tryz.prog 114 [(0,1),(1,1)] [str [],str []]:=⟨_,hx_,Tryz.runUnderlying114,fun w=>by simp[E_]⟩
theorem tt_:jF_ Tryz.prog 105 [(0,1),(1,1),(2,1),(3,1),(4,1),(5,1),(6,1),(7,1),(8,1),(9,1)] [.slice none 0 0,.map none,.slice none 0 0,.map none,.map none,.map none,.map none,.map none,.map none,.map none]:=⟨_,Tryz.zeroValue105,aC_,fun w=>by simp[eH_,fA_,Tryz.sizeOf91,Tryz.sizeOf101,Tryz.sizeOf102,Tryz.sizeOf103]⟩
theorem oD_:jF_ Tryz.prog 48 [(0,1),(1,6),(7,1),(8,1)] [.int .i64 0,.int .i64 0,str [],str [],str [],.int .i64 0,.int .i64 0,.int .i64 0,.slice none 0 0]:=⟨_,dA_,bn_,fun w=>by simp[A_,q_,mE_]⟩
theorem Stp.cells_one (s:Stp):s.cells.all Value.oneCell'=true:=rfl
def RecR {K:Type} [DecidableEq K] (ks:List K) (vs:List Int) (k:K) (n m:Int):Prop:=(k∈ks→∃ i:Nat,ks[i]? = some k∧vs[i]? = some m)∧(k ∉ ks→m=n)
theorem ec_ {P:Program} {N:Nf} {fr:Fr} {H:Hp} {Γ:List Fct} {ty:TypeId} {s:TypeId} {x:Operand} {f b off k o:Nat} {fs:Array Field} {fd:Field} {n:Nat} (hu:∀ w,(underlying s).run P w=.ok (.struct fs) w) (hx:Fr.ev fr x=some (.pointer (some ⟨b,off+k,none⟩))) (hf:fs[f]? = some fd) (ho:fd.offset=o)
    (hs:∀ w,(sizeOf fd.type).run P w=.ok (n+1) w):Yld P N fr H Γ (.fieldAddr s x f) ty (.pointer (some ⟨b,off+(k+o),none⟩)):=by
  have:=bt_ (P:=P) (N:=N) (fr:=fr) (H:=H) (Γ:=Γ) (ty:=ty) hu hx hf ho hs
  rwa [Nat.add_assoc]at this
theorem rK_ (k:Fc) (n:Int) (ks:List Fc) (vs:List Int) (mb:Nat) (es:Array MapEntry) (c:Nat) (hE:IntE Fc.val es ks vs):Tri Tryz.prog 54 #[.map (some mb),Fc.val k,.int .i64 n] [(mb,.map es c)] [] (fun y:{y:(Bool×Int)×Array MapEntry×Nat // decide (k ∉ ks)=y.1.1∧RecR ks vs k n y.1.2∧IntE Fc.val y.2.1 (if k∈ks then ks else ks++[k]) (if k∈ks then vs else vs++[n])}=>.tuple #[.bool y.1.1.1,.int .i64 y.1.1.2]) (fun y=>[(mb,.map y.1.2.1 y.1.2.2)]) (fun _=>[]):=by
 refine x_ Tryz.func54 rfl rfl Tryz.ntmps54 rfl fun v0=>?_
 refine Zz 2 ?_
 refine ay_ rfl rfl fun b1=>Zz 9 ?_
 refine fi_ (k:=k) fH_ ew_ K_ rfl rfl hE zp rfl fun rl1 nl1 hrl1 hnl1=>Zz 12 ?_
 cases rl1
 ·replace hrl1:=zdf hrl1
  refine Zz 8 ?_
  refine kX_ (k:=k) 1 fH_ (.inr rfl) ew_ rfl rfl rfl rfl hE (by assumption) fun en1 cn1 hE1=>Zz 10 ?_
  exact tF_ Tryz.results54 ⟨((true,n),en1,cn1),by simp[*],⟨fun q=>absurd q (by assumption),fun _=>rfl⟩,by rw[if_neg (by assumption),if_neg (by assumption)];exact hE1⟩ rfl rfl rfl (c_ d_) zt
 replace hrl1:=zdt hrl1
 refine Zz 9 ?_
 exact tF_ Tryz.results54 ⟨((false,nl1),es,c),by simp[*],⟨fun _=>hnl1 rfl,fun q=>absurd (by assumption) q⟩,by rw[if_pos (by assumption),if_pos (by assumption)];exact hE⟩ rfl rfl rfl zp zt
theorem recP_c (k:Pc) (n:Int) (ks:List Pc) (vs:List Int) (mb:Nat) (es:Array MapEntry) (c:Nat) (hE:IntE Pc.val es ks vs):Tri Tryz.prog 63 #[.map (some mb),Pc.val k,.int .i64 n] [(mb,.map es c)] [] (fun y:{y:(Bool×Int)×Array MapEntry×Nat // decide (k ∉ ks)=y.1.1∧RecR ks vs k n y.1.2∧IntE Pc.val y.2.1 (if k∈ks then ks else ks++[k]) (if k∈ks then vs else vs++[n])}=>.tuple #[.bool y.1.1.1,.int .i64 y.1.1.2]) (fun y=>[(mb,.map y.1.2.1 y.1.2.2)]) (fun _=>[]):=by
 refine x_ Tryz.func63 rfl rfl Tryz.ntmps63 rfl fun v0=>?_
 refine Zz 2 ?_
 refine ay_ rfl rfl fun b1=>Zz 9 ?_
 refine fi_ (k:=k) mN_ Tryz.runUnderlying106 K_ rfl rfl hE zp rfl fun rl1 nl1 hrl1 hnl1=>Zz 12 ?_
 cases rl1
 ·replace hrl1:=zdf hrl1
  refine Zz 8 ?_
  refine kX_ (k:=k) 1 mN_ (.inr rfl) Tryz.runUnderlying106 rfl rfl rfl rfl hE (by assumption) fun en1 cn1 hE1=>Zz 10 ?_
  exact tF_ Tryz.results63 ⟨((true,n),en1,cn1),by simp[*],⟨fun q=>absurd q (by assumption),fun _=>rfl⟩,by rw[if_neg (by assumption),if_neg (by assumption)];exact hE1⟩ rfl rfl rfl (c_ d_) zt
 replace hrl1:=zdt hrl1
 refine Zz 9 ?_
 exact tF_ Tryz.results63 ⟨((false,nl1),es,c),by simp[*],⟨fun _=>hnl1 rfl,fun q=>absurd (by assumption) q⟩,by rw[if_pos (by assumption),if_pos (by assumption)];exact hE⟩ rfl rfl rfl zp zt
end Go.Proofs.YtkeanlfhghlgiaaGreatDoor
namespace Go.Proofs.YtkeanlfhghlgiaaGreatDoor
open Go Go.Sx Go.Proofs
attribute [local irreducible] Code.wp wpList wpAnyH
open Go.Vs
structure PB where
  g:Nat
  pb:Nat
  kb:Nat
  ab:Nat
  ub:Nat
  ob:Nat
  ib:Nat
  rb:Nat
  sb:Nat
  pad:Option Addr
  pcap:Nat
def gpF (B:PB) (p:List Pc) (u:Value):List Value:=[.slice B.pad (List.length p) B.pcap,.map (some B.pb),u,.map (some B.kb),.map (some B.ab),.map (some B.ub),.map (some B.ob),.map (some B.ib),.map (some B.rb),.map (some B.sb)]
structure PSt where
  sv:Value
  es:Array MapEntry
  c:Nat
  h:Hp
def PSt.ok (y:PSt) (l:List Stp):Prop:=zR 48 9 Stp.cells y.sv l y.h∧IntE Fc.val y.es (fcs l) (iot (List.length l))
def PSt.own (B:PB) (p:List Pc) (y:PSt):Hp:=(B.g,.cells #[.slice B.pad (List.length p) B.pcap,.map (some B.pb),y.sv,.map (some B.kb),.map (some B.ab),.map (some B.ub),.map (some B.ob),.map (some B.ib),.map (some B.rb),.map (some B.sb)] 105 (0,0))::(B.kb,.map y.es y.c)::y.h
theorem co_ (B:PB) (p:List Pc) (rule piece:Int) (f:Fc) (fad:Option Addr) (fcap:Nat) (fr:List Int) (l:List Stp) (sv:Value) (es:Array MapEntry) (c:Nat) (Hr:Hp) (hr:zR 48 9 Stp.cells sv l Hr) (hK:IntE Fc.val es (fcs l) (iot (List.length l))) (hl:l.length≤100000000):Tri Tryz.prog 65 #[zp_ B.g 0,.int .i64 rule,Fc.val f,.int .i64 piece,.slice fad (List.length fr) fcap] ((B.g,.cells #[.slice B.pad (List.length p) B.pcap,.map (some B.pb),sv,.map (some B.kb),.map (some B.ab),.map (some B.ub),.map (some B.ob),.map (some B.ib),.map (some B.rb),.map (some B.sb)] 105 (0,0))::(B.kb,.map es c)::Hr) [bh_ l,af_ fad (List.flatMap al_ fr)] (fun _:{y:List Stp×PSt // y.1=iE_ l (Stp.mk rule f piece fad fcap fr)∧y.2.ok y.1}=>.tuple #[]) (fun y=>y.1.2.own B p) (fun y=>[bh_ y.1.1]):=by
 refine x_ Tryz.func65 rfl rfl Tryz.ntmps65 rfl fun v0=>?_
 refine Zz 2 ?_
 refine ay_ rfl rfl fun b1=>Zz 3 ?_
 refine ab_ ((b1,.cells #[.int .i64 f.kind,str f.a,str f.b,str f.r,.int .i64 f.lo,.int .i64 f.hi] 24 (0,0))::((B.g,.cells #[.slice B.pad (List.length p) B.pcap,.map (some B.pb),sv,.map (some B.kb),.map (some B.ab),.map (some B.ub),.map (some B.ob),.map (some B.ib),.map (some B.rb),.map (some B.sb)] 105 (0,0))::Hr)) zk ?_
 refine p_ 6 [0,1,2,3,4,5,6,7,8,9] zk zs (Zz 9 ?_)
 refine aa_ rfl (dj_ hr T_ rfl) rfl (dW_ (m_ 10 rfl zk (o_ (rK_ f (List.length l:Int) (fcs l) (iot (List.length l)) B.kb es c hK) rfl zp zt rfl fun⟨⟨⟨rc1,rn1⟩,er1,cr1⟩,hrc1,hrm1,hE_r1⟩=>?_)))
 dsimp only
 simp only[List.cons_append,List.nil_append]
 refine Zz 2 ?_
 refine M_ zs (p_ 0 [11,12,13,14,15] zk zs (Zz 13 ?_))
 cases rc1
 ·replace hrc1:=zdf hrc1
  refine Zz 3 ?_
  have hyes:f∈fcs l:=Decidable.not_not.1 (by assumption)
  have e0:iE_ l (Stp.mk rule f piece fad fcap fr)=l:=if_pos hyes
  rw[if_pos hyes,if_pos hyes]at hE_r1
  exact cd_ Tryz.results65 ⟨(l,⟨sv,er1,cr1,Hr⟩),e0.symm,⟨hr,hE_r1⟩⟩ rfl (f_ (c_ (c_ d_)) (f_ d_ B_)) zf
 replace hrc1:=zdt hrc1
 refine dl_ rfl ?_
 refine ab_ ((b1,.cells #[.int .i64 f.kind,str f.a,str f.b,str f.r,.int .i64 f.lo,.int .i64 f.hi] 24 (0,0))::[]) zk ?_
 refine p_ 6 [0,1,2,3,5,6,7,8,9] zk zs (Zz 8 ?_)
 refine aa_ rfl (L_ oD_ rfl rfl) rfl (dW_ ?_)
 refine cq_ 4 10 rfl rfl zk ?_ ?_
 ·refine Zz 3 ?_
  refine M_ zs (m_ 10 rfl zk (N_ T_ aJ_ dA_ rfl rfl rfl rfl rfl rfl fun b2=>Zz 2 ?_))
  refine M_ zs (m_ 11 rfl zk (ap_ (news:=List.flatMap Stp.cells [(Stp.mk rule f piece fad fcap fr)]) jg_ hr rfl rfl zp rfl (bA_ 0 rfl) (fun u hu=>Y_ Stp.cells_one hu) (by simp only[maxLen];first|omega|(simp;omega)) (by first|omega|(simp;omega)) rfl fun sv1 Hr1 hr1=>?_))
  refine y_ List.perm_append_comm ?_
  have hq1:=zsa hr1
  refine Zz 2 ?_
  refine M_ (fun _ a b=>⟨Vw.sat.sub (a.perm (c_ (c_ d_))),b⟩) (p_ 1 [12,13] zk (fun _ a b=>⟨Vw.sat.sub (a.perm (c_ (c_ d_))),b⟩) (Zz 3 ?_))
  refine m_ 14 rfl zk (eo_ 3 hq1 fA_ rfl rfl rfl rfl (Zz 2 ?_))
  refine M_ (fun _ a b=>⟨Vw.sat.sub (a.perm (c_ (c_ d_))),b⟩) (Zz 2 ?_)
  have e0:iE_ l (Stp.mk rule f piece fad fcap fr)=(l++[(Stp.mk rule f piece fad fcap fr)]):=if_neg (by assumption)
  rw[if_neg (by assumption),if_neg (by assumption)]at hE_r1
  exact cd_ Tryz.results65 ⟨((l++[(Stp.mk rule f piece fad fcap fr)]),⟨sv1,er1,cr1,Hr1⟩),e0.symm,⟨hq1,(by rw[cV_,List.length_append];show IntE _ _ _ (iot (l.length+1));rw[oc_];exact hE_r1)⟩⟩ rfl (f_ (c_ (c_ (c_ d_))) (f_ (c_ d_) (c_ B_))) (fun v _ h=>by exact⟨he_ h.1 h.2.1,trivial⟩)
 refine N_ T_ aJ_ dA_ rfl rfl rfl rfl rfl rfl fun b3=>Zz 2 ?_
 refine M_ zs (m_ 4 rfl zk (Zz 3 ?_))
 refine M_ zs (m_ 11 rfl zk (ap_ (news:=List.flatMap Stp.cells [(Stp.mk rule f piece fad fcap fr)]) jg_ hr rfl rfl zp rfl (bA_ 0 rfl) (fun u hu=>Y_ Stp.cells_one hu) (by simp only[maxLen];first|omega|(simp;omega)) (by first|omega|(simp;omega)) rfl fun sv2 Hr2 hr2=>?_))
 refine y_ List.perm_append_comm ?_
 have hq2:=zsa hr2
 refine Zz 2 ?_
 refine M_ (fun _ a b=>⟨Vw.sat.sub (a.perm (c_ (c_ d_))),b⟩) (p_ 1 [12,13] zk (fun _ a b=>⟨Vw.sat.sub (a.perm (c_ (c_ d_))),b⟩) (Zz 3 ?_))
 refine m_ 14 rfl zk (eo_ 3 hq2 fA_ rfl rfl rfl rfl (Zz 2 ?_))
 refine M_ (fun _ a b=>⟨Vw.sat.sub (a.perm (c_ (c_ d_))),b⟩) (Zz 2 ?_)
 have e0:iE_ l (Stp.mk rule f piece fad fcap fr)=(l++[(Stp.mk rule f piece fad fcap fr)]):=if_neg (by assumption)
 rw[if_neg (by assumption),if_neg (by assumption)]at hE_r1
 exact cd_ Tryz.results65 ⟨((l++[(Stp.mk rule f piece fad fcap fr)]),⟨sv2,er1,cr1,Hr2⟩),e0.symm,⟨hq2,(by rw[cV_,List.length_append];show IntE _ _ _ (iot (l.length+1));rw[oc_];exact hE_r1)⟩⟩ rfl (f_ (c_ (c_ (c_ d_))) (f_ (c_ d_) (c_ B_))) (fun v _ h=>by exact⟨he_ h.1 h.2.1,trivial⟩)
end Go.Proofs.YtkeanlfhghlgiaaGreatDoor
namespace Go.Proofs.YtkeanlfhghlgiaaGreatDoor
open Go Go.Sx Go.Proofs
attribute [local irreducible] Code.wp wpList wpAnyH
open Go.Vs
theorem dD_ (a b:Str):Fn0 Tryz.prog 60 #[str a,str b] (Fc.val (D_ a b)):=by
  refine x_ Tryz.func60 rfl rfl Tryz.ntmps60 rfl fun v0=>?_
  refine Zz 2 ?_
  refine J_ F_ rfl fun b1=>Zz 6 ?_
  refine i_ (L_ dJ_ rfl rfl) rfl (w_ 0 q_ rfl rfl rfl rfl rfl rfl (Zz 3 ?_))
  exact er_ () (fun aa v h1 h2=>cQ_ (us:=Fc.cells (D_ a b)) 0 Tryz.results60 bc_ q_ rfl rfl rfl aa v h1 h2) j_ zt
theorem dZ_ (a r b:Str):Fn0 Tryz.prog 61 #[str a,str r,str b] (Fc.val (I_ a r b)):=by
  refine x_ Tryz.func61 rfl rfl Tryz.ntmps61 rfl fun v0=>?_
  refine Zz 2 ?_
  refine J_ F_ rfl fun b1=>Zz 7 ?_
  refine i_ (L_ dJ_ rfl rfl) rfl (w_ 0 q_ rfl rfl rfl rfl rfl rfl (Zz 3 ?_))
  exact er_ () (fun aa v h1 h2=>cQ_ (us:=Fc.cells (I_ a r b)) 0 Tryz.results61 bc_ q_ rfl rfl rfl aa v h1 h2) j_ zt
theorem kf_ (a r:Str) (lo hi:Int):Fn0 Tryz.prog 62 #[str a,str r,.int .i64 lo,.int .i64 hi] (Fc.val (R_ a r lo hi)):=by
  refine x_ Tryz.func62 rfl rfl Tryz.ntmps62 rfl fun v0=>?_
  refine Zz 2 ?_
  refine J_ F_ rfl fun b1=>Zz 8 ?_
  refine i_ (L_ dJ_ rfl rfl) rfl (w_ 0 q_ rfl rfl rfl rfl rfl rfl (Zz 3 ?_))
  exact er_ () (fun aa v h1 h2=>cQ_ (us:=Fc.cells (R_ a r lo hi)) 0 Tryz.results62 bc_ q_ rfl rfl rfl aa v h1 h2) j_ zt
theorem lu_ (B:PB) (p:List Pc) (A:List Str) (fm:List (Ky×Int)) (afm:Ky→Option Addr×Nat) (x:Jx) (aab aub:Str→Option Addr×Nat) (aob aib arb asb:fn_→Option Addr×Nat) (hv:∀ z∈p,z.vok) (hfd:Fnd p fm) (hpl:p.length≤16384) (n n1:Nat) (f:Fc) (l:List Stp) (y:PSt) (hS:y.ok l) (hE:Eng p A l) (hB:∀ l,Eng p A l→l.length≤65536) (D:Nat→Prop) (hD:Fre D l) (hx:x.of (l.take n1)) (hxl:x.len n1) (hn1:n1≤65536) (hform:f.form) (hn:n<65536) (hk:f.kind=1) (hAt:At l n (D_ f.a f.b)):Tri Tryz.prog 66 #[zp_ B.g 0,Fc.val f,.int .i64 (n:Int)] (y.own B p) [af_ B.pad (List.flatMap Pc.cells p),mlF Tryz.prog 111 Ky.val al_ B.pb fm afm,bh_ l,imF D] (fun _:{y:List Stp×PSt // y.2.ok y.1∧Eng p A y.1∧l <+: y.1∧Fre D y.1∧RawC p fm f l y.1}=>.tuple #[]) (fun y=>y.1.2.own B p) (fun y=>[bh_ y.1.1]):=by
 refine x_ Tryz.func66 rfl rfl Tryz.ntmps66 rfl fun v0=>?_
 refine Zz 2 ?_
 refine ay_ rfl rfl fun b1=>Zz 5 ?_
 refine p_ 0 [0,1,2,3,4,5,6,7,8,9] zk zs (Zz 6 ?_)
 refine aa_ rfl (L_ eE_ rfl rfl) rfl (aa_ rfl (bb_ (k:=(Ky.mk 1 [] f.b)) (adr:=afm) fk_ bI_ ad_ rfl rfl zf) rfl (Zz 6 ?_))
 refine U_ (ι:={y:Nat×List Stp×PSt // y.1≤List.length (lat fm (Ky.mk 1 [] f.b))∧y.2.2.ok y.2.1∧Eng p A y.2.1∧l <+: y.2.1∧eZ_ p (lat fm (Ky.mk 1 [] f.b)) y.1 (fun x=>D_ f.a x.c∈fcs y.2.1)∧Fre D y.2.1}) (fun y=>[(0,zp_ B.g 0),(2,.int .i64 (n:Int)),(4,zp_ b1 0),(27,.slice (Prod.fst (afm (Ky.mk 1 [] f.b))) (List.length (lat fm (Ky.mk 1 [] f.b))) (Prod.snd (afm (Ky.mk 1 [] f.b)))),(28,.int .i64 (List.length (lat fm (Ky.mk 1 [] f.b)):Int)),(29,.int .i64 (y.1.1:Int))]) (fun y=>((B.g,.cells #[.slice B.pad (List.length p) B.pcap,.map (some B.pb),y.1.2.2.sv,.map (some B.kb),.map (some B.ab),.map (some B.ub),.map (some B.ob),.map (some B.ib),.map (some B.rb),.map (some B.sb)] 105 (0,0))::((B.kb,.map y.1.2.2.es y.1.2.2.c)::((b1,.cells #[.int .i64 f.kind,str f.a,str f.b,str f.r,.int .i64 f.lo,.int .i64 f.hi] 24 (0,0))::y.1.2.2.h)))) (fun y=>[bh_ y.1.2.1,af_ B.pad (List.flatMap Pc.cells p),mlF Tryz.prog 111 Ky.val al_ B.pb fm afm,imF D]) (fun y=>List.length (lat fm (Ky.mk 1 [] f.b)) - y.1.1) ⟨((0:Nat),l,y),by simp,by exact hS,by exact hE,List.prefix_refl _,(eZ_.zero),by exact hD⟩ zl zp zf ?_
 rintro ⟨⟨i,l_i,y_i⟩,hi_i,hS_i,hE_i,hp_i,hu_i,hD_i⟩
 dsimp only at hi_i hS_i hE_i hp_i hu_i hD_i ⊢
 have hb_i:=Nat.le_trans (Nat.le_trans (bp_ fm (Ky.mk 1 [] f.b)) hfd.len) (Nat.mul_le_mul_left 2 hpl)
 refine Zi 2 (fun hr1=>?_) fun hr1=>?_
 ·refine Zz 9 ?_
  refine p_ 0 [0,1,2,3,4,5,6,7,8,9] zk zs (Zz 6 ?_)
  refine aa_ rfl (L_ eE_ rfl rfl) rfl (aa_ rfl (bb_ (k:=(Ky.mk 2 [] f.b)) (adr:=afm) fk_ bI_ ad_ rfl rfl zf) rfl (Zz 6 ?_))
  refine U_ (ι:={y:Nat×List Stp×PSt // y.1≤List.length (lat fm (Ky.mk 2 [] f.b))∧y.2.2.ok y.2.1∧Eng p A y.2.1∧l_i <+: y.2.1∧eZ_ p (lat fm (Ky.mk 2 [] f.b)) y.1 (fun x=>D_ f.a x.a∈fcs l→D_ f.a x.b∈fcs l→D_ f.a x.c∈fcs y.2.1)∧Fre D y.2.1}) (fun y=>[(0,zp_ B.g 0),(2,.int .i64 (n:Int)),(4,zp_ b1 0),(27,.slice (Prod.fst (afm (Ky.mk 1 [] f.b))) (List.length (lat fm (Ky.mk 1 [] f.b))) (Prod.snd (afm (Ky.mk 1 [] f.b)))),(28,.int .i64 (List.length (lat fm (Ky.mk 1 [] f.b)):Int)),(29,.int .i64 (i:Int)),(57,.slice (Prod.fst (afm (Ky.mk 2 [] f.b))) (List.length (lat fm (Ky.mk 2 [] f.b))) (Prod.snd (afm (Ky.mk 2 [] f.b)))),(58,.int .i64 (List.length (lat fm (Ky.mk 2 [] f.b)):Int)),(59,.int .i64 (y.1.1:Int))]) (fun y=>((B.g,.cells #[.slice B.pad (List.length p) B.pcap,.map (some B.pb),y.1.2.2.sv,.map (some B.kb),.map (some B.ab),.map (some B.ub),.map (some B.ob),.map (some B.ib),.map (some B.rb),.map (some B.sb)] 105 (0,0))::((B.kb,.map y.1.2.2.es y.1.2.2.c)::((b1,.cells #[.int .i64 f.kind,str f.a,str f.b,str f.r,.int .i64 f.lo,.int .i64 f.hi] 24 (0,0))::y.1.2.2.h)))) (fun y=>[bh_ y.1.2.1,af_ B.pad (List.flatMap Pc.cells p),mlF Tryz.prog 111 Ky.val al_ B.pb fm afm,imF D]) (fun y=>List.length (lat fm (Ky.mk 2 [] f.b)) - y.1.1) ⟨((0:Nat),l_i,y_i),by simp,by exact hS_i,by exact hE_i,List.prefix_refl _,(eZ_.zero),by exact hD_i⟩ zl zp zh ?_
  rintro ⟨⟨j,l_j,y_j⟩,hi_j,hS_j,hE_j,hp_j,hu_j,hD_j⟩
  dsimp only at hi_j hS_j hE_j hp_j hu_j hD_j ⊢
  have hb_j:=Nat.le_trans (Nat.le_trans (bp_ fm (Ky.mk 2 [] f.b)) hfd.len) (Nat.mul_le_mul_left 2 hpl)
  refine Zi 2 (fun hr2=>?_) fun hr2=>?_
  ·refine Zz 9 ?_
   refine p_ 0 [0,1,2,3,4,5,6,7,8,9] zk zs (Zz 6 ?_)
   refine aa_ rfl (L_ eE_ rfl rfl) rfl (aa_ rfl (bb_ (k:=(Ky.mk 3 [] f.b)) (adr:=afm) fk_ bI_ ad_ rfl rfl zf) rfl (Zz 6 ?_))
   refine U_ (ι:={y:Nat×List Stp×PSt // y.1≤List.length (lat fm (Ky.mk 3 [] f.b))∧y.2.2.ok y.2.1∧Eng p A y.2.1∧l_j <+: y.2.1∧eZ_ p (lat fm (Ky.mk 3 [] f.b)) y.1 (fun x=>I_ f.a x.r x.c∈fcs y.2.1)∧Fre D y.2.1}) (fun y=>[(0,zp_ B.g 0),(2,.int .i64 (n:Int)),(4,zp_ b1 0),(27,.slice (Prod.fst (afm (Ky.mk 1 [] f.b))) (List.length (lat fm (Ky.mk 1 [] f.b))) (Prod.snd (afm (Ky.mk 1 [] f.b)))),(28,.int .i64 (List.length (lat fm (Ky.mk 1 [] f.b)):Int)),(29,.int .i64 (i:Int)),(57,.slice (Prod.fst (afm (Ky.mk 2 [] f.b))) (List.length (lat fm (Ky.mk 2 [] f.b))) (Prod.snd (afm (Ky.mk 2 [] f.b)))),(58,.int .i64 (List.length (lat fm (Ky.mk 2 [] f.b)):Int)),(59,.int .i64 (j:Int)),(119,.slice (Prod.fst (afm (Ky.mk 3 [] f.b))) (List.length (lat fm (Ky.mk 3 [] f.b))) (Prod.snd (afm (Ky.mk 3 [] f.b)))),(120,.int .i64 (List.length (lat fm (Ky.mk 3 [] f.b)):Int)),(121,.int .i64 (y.1.1:Int))]) (fun y=>((B.g,.cells #[.slice B.pad (List.length p) B.pcap,.map (some B.pb),y.1.2.2.sv,.map (some B.kb),.map (some B.ab),.map (some B.ub),.map (some B.ob),.map (some B.ib),.map (some B.rb),.map (some B.sb)] 105 (0,0))::((B.kb,.map y.1.2.2.es y.1.2.2.c)::((b1,.cells #[.int .i64 f.kind,str f.a,str f.b,str f.r,.int .i64 f.lo,.int .i64 f.hi] 24 (0,0))::y.1.2.2.h)))) (fun y=>[bh_ y.1.2.1,af_ B.pad (List.flatMap Pc.cells p),mlF Tryz.prog 111 Ky.val al_ B.pb fm afm,imF D]) (fun y=>List.length (lat fm (Ky.mk 3 [] f.b)) - y.1.1) ⟨((0:Nat),l_j,y_j),by simp,by exact hS_j,by exact hE_j,List.prefix_refl _,(eZ_.zero),by exact hD_j⟩ zl zp zh ?_
   rintro ⟨⟨k,l_k,y_k⟩,hi_k,hS_k,hE_k,hp_k,hu_k,hD_k⟩
   dsimp only at hi_k hS_k hE_k hp_k hu_k hD_k ⊢
   have hb_k:=Nat.le_trans (Nat.le_trans (bp_ fm (Ky.mk 3 [] f.b)) hfd.len) (Nat.mul_le_mul_left 2 hpl)
   refine Zi 2 (fun hr3=>?_) fun hr3=>?_
   ·refine Zz 8 ?_
    refine p_ 0 [0,1,2,3,4,5,6,7,8,9] zk zs (Zz 6 ?_)
    refine aa_ rfl (L_ eE_ rfl rfl) rfl (aa_ rfl (bb_ (k:=(Ky.mk 8 [] f.b)) (adr:=afm) fk_ bI_ ad_ rfl rfl zf) rfl (Zz 6 ?_))
    refine U_ (ι:={y:Nat×List Stp×PSt // y.1≤List.length (lat fm (Ky.mk 8 [] f.b))∧y.2.2.ok y.2.1∧Eng p A y.2.1∧l_k <+: y.2.1∧eZ_ p (lat fm (Ky.mk 8 [] f.b)) y.1 (fun x=>R_ f.a x.r x.lo x.hi∈fcs y.2.1)∧Fre D y.2.1}) (fun y=>[(0,zp_ B.g 0),(2,.int .i64 (n:Int)),(4,zp_ b1 0),(27,.slice (Prod.fst (afm (Ky.mk 1 [] f.b))) (List.length (lat fm (Ky.mk 1 [] f.b))) (Prod.snd (afm (Ky.mk 1 [] f.b)))),(28,.int .i64 (List.length (lat fm (Ky.mk 1 [] f.b)):Int)),(29,.int .i64 (i:Int)),(57,.slice (Prod.fst (afm (Ky.mk 2 [] f.b))) (List.length (lat fm (Ky.mk 2 [] f.b))) (Prod.snd (afm (Ky.mk 2 [] f.b)))),(58,.int .i64 (List.length (lat fm (Ky.mk 2 [] f.b)):Int)),(59,.int .i64 (j:Int)),(119,.slice (Prod.fst (afm (Ky.mk 3 [] f.b))) (List.length (lat fm (Ky.mk 3 [] f.b))) (Prod.snd (afm (Ky.mk 3 [] f.b)))),(120,.int .i64 (List.length (lat fm (Ky.mk 3 [] f.b)):Int)),(121,.int .i64 (k:Int)),(157,.slice (Prod.fst (afm (Ky.mk 8 [] f.b))) (List.length (lat fm (Ky.mk 8 [] f.b))) (Prod.snd (afm (Ky.mk 8 [] f.b)))),(158,.int .i64 (List.length (lat fm (Ky.mk 8 [] f.b)):Int)),(159,.int .i64 (y.1.1:Int))]) (fun y=>((B.g,.cells #[.slice B.pad (List.length p) B.pcap,.map (some B.pb),y.1.2.2.sv,.map (some B.kb),.map (some B.ab),.map (some B.ub),.map (some B.ob),.map (some B.ib),.map (some B.rb),.map (some B.sb)] 105 (0,0))::((B.kb,.map y.1.2.2.es y.1.2.2.c)::((b1,.cells #[.int .i64 f.kind,str f.a,str f.b,str f.r,.int .i64 f.lo,.int .i64 f.hi] 24 (0,0))::y.1.2.2.h)))) (fun y=>[bh_ y.1.2.1,af_ B.pad (List.flatMap Pc.cells p),mlF Tryz.prog 111 Ky.val al_ B.pb fm afm,imF D]) (fun y=>List.length (lat fm (Ky.mk 8 [] f.b)) - y.1.1) ⟨((0:Nat),l_k,y_k),by simp,by exact hS_k,by exact hE_k,List.prefix_refl _,(eZ_.zero),by exact hD_k⟩ zl zp zh ?_
    rintro ⟨⟨m,l_m,y_m⟩,hi_m,hS_m,hE_m,hp_m,hu_m,hD_m⟩
    dsimp only at hi_m hS_m hE_m hp_m hu_m hD_m ⊢
    have hb_m:=Nat.le_trans (Nat.le_trans (bp_ fm (Ky.mk 8 [] f.b)) hfd.len) (Nat.mul_le_mul_left 2 hpl)
    refine Zi 2 (fun hr4=>?_) fun hr4=>?_
    ·refine Zz 6 ?_
     exact cd_ Tryz.results66 ⟨(l_m,y_m),hS_m,hE_m,(((((List.prefix_refl l).trans hp_i).trans hp_j).trans hp_k).trans hp_m),hD_m,⟨(hu_i.done (by omega)).mono fun x hx=>ao_ (hp_j.trans (hp_k.trans hp_m)) hx,(hu_j.done (by omega)).mono fun x hx q1 q2=>ao_ (hp_k.trans hp_m) (hx q1 q2),(hu_k.done (by omega)).mono fun x hx=>ao_ hp_m hx,hu_m.done (by omega)⟩⟩ rfl (f_ d_ (f_ d_ B_)) zf
    obtain⟨hlx4,x4,hx4,hmx4⟩:=zge (show m<List.length (lat fm (Ky.mk 8 [] f.b)) by omega)
    obtain⟨k_x4,z_x4,e_x4,hz_x4,hk_x4⟩:=hfd.snd _ _ (bo_.1 hmx4)
    subst e_x4
    have hlz_x4:k_x4<List.length p:=(List.getElem?_eq_some_iff.1 hz_x4).1
    have hmz_x4:z_x4∈p:=List.mem_of_getElem? hz_x4
    refine Zz 10 ?_
    refine i_ (ag_ l_ A_ rfl rfl (fun v _ h=>Q_ (n:=1) Z_ (by decide) (by exact (aA_ h.2.2.1 (Ky.mk 8 [] f.b))) hx4) (by omega) (by first|omega|(simp;done))) rfl ?_
    refine i_ (aM_ (ad:=(Prod.fst (afm (Ky.mk 8 [] f.b)))) ak_ rfl (fun v _ h=>by exact (aA_ h.2.2.1 (Ky.mk 8 [] f.b))) (H_ Z_ hx4 0 _ rfl)) rfl (Zz 12 ?_)
    refine J_ aH_ rfl fun b2=>w_ 0 W_ rfl rfl rfl rfl rfl rfl (Zz 12 ?_)
    refine o_ (kf_ f.a z_x4.r z_x4.lo z_x4.hi) rfl j_ zt rfl fun _=>Zz 2 ?_
    refine N_ l_ A_ K_ rfl rfl rfl rfl rfl rfl fun b3=>?_
    refine cL_ (fun v h1 h=>(cp_ h1 d_ (by exact h.2.2.2.1):¬ D b3)) fun hnd_b3=>?_
    refine ar_ (List.flatMap al_ [(n:Int)]) d_ rfl ?_
    refine o_ (co_ B p 11 (k_x4:Int) (R_ f.a z_x4.r z_x4.lo z_x4.hi) (some ⟨b3,0,none⟩) 1 [(n:Int)] l_m y_m.sv y_m.es y_m.c y_m.h hS_m.1 hS_m.2 (Nat.le_trans (hB _ hE_m) (by decide))) rfl (f_ (c_ d_) (f_ (c_ d_) (c_ B_))) zf rfl fun⟨⟨l1,y1⟩,hl1,hy1⟩=>?_
    dsimp only
    simp only[PSt.own,List.cons_append]
    have hE1:Eng p A l1:=bL_ hl1 hE_m (cor11 hz_x4 hk_x4 (hAt.pre (((((List.prefix_refl l).trans hp_i).trans hp_j).trans hp_k).trans hp_m))) (show (11:Int)≤14 from by decide)
    have hq1:l_m <+: l1:=bJ_ hl1
    have hm1:=bK_ hl1;dsimp only at hm1
    have hD1:Fre D l1:=cr_ hl1 hD_m (fun _=>bW_ hnd_b3)
    refine Zz 2 ?_
    refine y_ (t_ d_ (t_ d_ (t_ (e_ d_) (av_ ac_)))) (Zz 5 ?_)
    exact u_ ⟨(m+1,l1,y1),hlx4,hy1,hE1,(hp_m.trans ((List.prefix_refl l_m).trans hq1)),(hu_m.step (fun x hx=>ao_ ((List.prefix_refl l_m).trans hq1) hx) hx4 hz_x4 (by exact hm1)),hD1⟩ (by dsimp only;omega) zl zp zf
   obtain⟨hlx3,x3,hx3,hmx3⟩:=zge (show k<List.length (lat fm (Ky.mk 3 [] f.b)) by omega)
   obtain⟨k_x3,z_x3,e_x3,hz_x3,hk_x3⟩:=hfd.snd _ _ (bo_.1 hmx3)
   subst e_x3
   have hlz_x3:k_x3<List.length p:=(List.getElem?_eq_some_iff.1 hz_x3).1
   have hmz_x3:z_x3∈p:=List.mem_of_getElem? hz_x3
   refine Zz 10 ?_
   refine i_ (ag_ l_ A_ rfl rfl (fun v _ h=>Q_ (n:=1) Z_ (by decide) (by exact (aA_ h.2.2.1 (Ky.mk 3 [] f.b))) hx3) (by omega) (by first|omega|(simp;done))) rfl ?_
   refine i_ (aM_ (ad:=(Prod.fst (afm (Ky.mk 3 [] f.b)))) ak_ rfl (fun v _ h=>by exact (aA_ h.2.2.1 (Ky.mk 3 [] f.b))) (H_ Z_ hx3 0 _ rfl)) rfl (Zz 3 ?_)
   refine fg_ (iS_ B.g (gpF B p) 105) ((b1,.cells #[.int .i64 f.kind,str f.a,str f.b,str f.r,.int .i64 f.lo,.int .i64 f.hi] 24 (0,0))::[]) zk ?_
   refine eq_ 3 [0,1,2,3,4,5,6,7,8,9,10,11,12,13,14,15,16,17,18,20,21] zk (ah_ (F:=(gpF B p)) (ai_ d_ (c_ d_)) fun v a b=>b) (P_ rfl (aB_ rfl) rfl (P_ rfl (bt_ at_ rfl rfl rfl E_) rfl (P_ rfl (bF_ 0 V_ rfl rfl rfl) rfl (P_ rfl (aB_ rfl) rfl (P_ rfl (df_ rfl) rfl (P_ rfl (bt_ aC_ rfl rfl rfl eH_) rfl (P_ rfl (eI_ (F:=(gpF B p)) gi_ rfl zf (fun _=>rfl)) rfl (P_ rfl (aB_ rfl) rfl ?_))))))))
   refine P_ rfl (ag_ aj_ W_ rfl rfl (fun v _ h=>Q_ (n:=10) Pc.cells_len (by decide) (by exact h.2.2.1) hz_x3) (by omega) (by first|omega|(simp;done))) rfl ?_
   refine P_ rfl (dC_ aX_ rfl rfl rfl E_) rfl (P_ rfl (aM_ (ad:=B.pad) V_ rfl zf (H_ Pc.cells_len hz_x3 4 _ rfl)) rfl (P_ rfl (aB_ rfl) rfl (P_ rfl (df_ rfl) rfl (P_ rfl (bt_ aC_ rfl rfl rfl eH_) rfl (P_ rfl (eI_ (F:=(gpF B p)) gi_ rfl zf (fun _=>rfl)) rfl (P_ rfl (aB_ rfl) rfl ?_))))))
   refine P_ rfl (ag_ aj_ W_ rfl rfl (fun v _ h=>Q_ (n:=10) Pc.cells_len (by decide) (by exact h.2.2.1) hz_x3) (by omega) (by first|omega|(simp;done))) rfl ?_
   refine P_ rfl (dC_ aX_ rfl rfl rfl E_) rfl (P_ rfl (aM_ (ad:=B.pad) V_ rfl zf (H_ Pc.cells_len hz_x3 3 _ rfl)) rfl (P_ rfl (aB_ rfl) rfl (P_ rfl (aB_ rfl) rfl (el_ ?_))))
   refine cq_ 19 22 rfl rfl zk ?_ ?_
   ·refine o_ (dZ_ f.a z_x3.r z_x3.c) rfl j_ zt rfl fun _=>Zz 2 ?_
    refine X_ (ah_ (F:=(gpF B p)) (ai_ d_ (c_ d_)) fun v a b=>b) (m_ 22 rfl zk (N_ l_ A_ K_ rfl rfl rfl rfl rfl rfl fun b4=>?_))
    refine cL_ (fun v h1 h=>(cp_ h1 d_ (by exact h.2.2.2.1):¬ D b4)) fun hnd_b4=>?_
    refine ar_ (List.flatMap al_ [(n:Int)]) d_ rfl ?_
    refine Zz 2 ?_
    refine X_ (ah_ (F:=(gpF B p)) (ai_ d_ (c_ d_)) fun v a b=>b.2) (m_ 23 rfl zk (o_ (co_ B p 5 (k_x3:Int) (I_ f.a z_x3.r z_x3.c) (some ⟨b4,0,none⟩) 1 [(n:Int)] l_k y_k.sv y_k.es y_k.c y_k.h hS_k.1 hS_k.2 (Nat.le_trans (hB _ hE_k) (by decide))) rfl zp zf rfl fun⟨⟨l2,y2⟩,hl2,hy2⟩=>?_))
    dsimp only
    simp only[PSt.own,List.cons_append]
    have hE2:Eng p A l2:=bL_ hl2 hE_k (cor5 hz_x3 hk_x3 (hAt.pre ((((List.prefix_refl l).trans hp_i).trans hp_j).trans hp_k))) (show (5:Int)≤14 from by decide)
    have hq2:l_k <+: l2:=bJ_ hl2
    have hm2:=bK_ hl2;dsimp only at hm2
    have hD2:Fre D l2:=cr_ hl2 hD_k (fun _=>bW_ hnd_b4)
    refine Zz 2 ?_
    refine X_ (ah_ (F:=(gpF B p)) (ai_ d_ (c_ ac_)) fun v a b=>b.2.2) (Zz 2 ?_)
    refine y_ (t_ d_ (t_ d_ (av_ ac_))) (Zz 5 ?_)
    exact u_ ⟨(k+1,l2,y2),hlx3,hy2,hE2,(hp_k.trans ((List.prefix_refl l_k).trans hq2)),(hu_k.step (fun x hx=>ao_ ((List.prefix_refl l_k).trans hq2) hx) hx3 hz_x3 (by exact hm2)),hD2⟩ (by dsimp only;omega) zl zp zf
   refine N_ l_ A_ K_ rfl rfl rfl rfl rfl rfl fun b5=>?_
   refine cL_ (fun v h1 h=>(cp_ h1 d_ (by exact h.2.2.2.1):¬ D b5)) fun hnd_b5=>?_
   refine ar_ (List.flatMap al_ [(n:Int)]) d_ rfl ?_
   refine Zz 2 ?_
   refine X_ (ah_ (F:=(gpF B p)) (ai_ d_ (c_ d_)) fun v a b=>b.2) (m_ 19 rfl zk (o_ (dZ_ f.a z_x3.r z_x3.c) rfl j_ zt rfl fun _=>Zz 2 ?_))
   refine X_ (ah_ (F:=(gpF B p)) (ai_ d_ (c_ d_)) fun v a b=>b.2) (m_ 23 rfl zk (o_ (co_ B p 5 (k_x3:Int) (I_ f.a z_x3.r z_x3.c) (some ⟨b5,0,none⟩) 1 [(n:Int)] l_k y_k.sv y_k.es y_k.c y_k.h hS_k.1 hS_k.2 (Nat.le_trans (hB _ hE_k) (by decide))) rfl zp zf rfl fun⟨⟨l3,y3⟩,hl3,hy3⟩=>?_))
   dsimp only
   simp only[PSt.own,List.cons_append]
   have hE3:Eng p A l3:=bL_ hl3 hE_k (cor5 hz_x3 hk_x3 (hAt.pre ((((List.prefix_refl l).trans hp_i).trans hp_j).trans hp_k))) (show (5:Int)≤14 from by decide)
   have hq3:l_k <+: l3:=bJ_ hl3
   have hm3:=bK_ hl3;dsimp only at hm3
   have hD3:Fre D l3:=cr_ hl3 hD_k (fun _=>bW_ hnd_b5)
   refine Zz 2 ?_
   refine X_ (ah_ (F:=(gpF B p)) (ai_ d_ (c_ ac_)) fun v a b=>b.2.2) (Zz 2 ?_)
   refine y_ (t_ d_ (t_ d_ (av_ ac_))) (Zz 5 ?_)
   exact u_ ⟨(k+1,l3,y3),hlx3,hy3,hE3,(hp_k.trans ((List.prefix_refl l_k).trans hq3)),(hu_k.step (fun x hx=>ao_ ((List.prefix_refl l_k).trans hq3) hx) hx3 hz_x3 (by exact hm3)),hD3⟩ (by dsimp only;omega) zl zp zf
  obtain⟨hlx2,x2,hx2,hmx2⟩:=zge (show j<List.length (lat fm (Ky.mk 2 [] f.b)) by omega)
  obtain⟨k_x2,z_x2,e_x2,hz_x2,hk_x2⟩:=hfd.snd _ _ (bo_.1 hmx2)
  subst e_x2
  have hlz_x2:k_x2<List.length p:=(List.getElem?_eq_some_iff.1 hz_x2).1
  have hmz_x2:z_x2∈p:=List.mem_of_getElem? hz_x2
  refine Zz 10 ?_
  refine i_ (ag_ l_ A_ rfl rfl (fun v _ h=>Q_ (n:=1) Z_ (by decide) (by exact (aA_ h.2.2.1 (Ky.mk 2 [] f.b))) hx2) (by omega) (by first|omega|(simp;done))) rfl ?_
  refine i_ (aM_ (ad:=(Prod.fst (afm (Ky.mk 2 [] f.b)))) ak_ rfl (fun v _ h=>by exact (aA_ h.2.2.1 (Ky.mk 2 [] f.b))) (H_ Z_ hx2 0 _ rfl)) rfl (Zz 12 ?_)
  refine J_ aH_ rfl fun b6=>w_ 0 W_ rfl rfl rfl rfl rfl rfl (Zz 4 ?_)
  refine p_ 7 [0,1,2,3,4,5,6,7] zk zs (Zz 9 ?_)
  refine m_ 8 rfl zk (o_ (dD_ f.a z_x2.a) rfl j_ zt rfl fun _=>Zz 3 ?_)
  refine m_ 9 rfl zk (fi_ (k:=(D_ f.a z_x2.a)) fH_ ew_ K_ rfl rfl hS_j.2 (c_ (c_ d_)) rfl fun rl1 nl1 hrl1 hnl1=>Zz 3 ?_)
  refine p_ 0 [10,11,12,13,14] zk zs (Zz 10 ?_)
  refine p_ 7 [0,1,2,3,4,5,6,7] zk zs (Zz 9 ?_)
  refine m_ 8 rfl zk (o_ (dD_ f.a z_x2.b) rfl j_ zt rfl fun _=>Zz 3 ?_)
  refine m_ 9 rfl zk (fi_ (k:=(D_ f.a z_x2.b)) fH_ ew_ K_ rfl rfl hS_j.2 (c_ (c_ d_)) rfl fun rl2 nl2 hrl2 hnl2=>Zz 3 ?_)
  refine p_ 0 [10,11,12,13,14] zk zs (Zz 12 ?_)
  cases rl1
  ·replace hrl1:=zdf hrl1
   refine Zz 12 ?_
   exact u_ ⟨(j+1,l_j,y_j),hlx2,hS_j,hE_j,(hp_j.trans (List.prefix_refl l_j)),(hu_j.step (fun x hx=>fun q0 q1=>ao_ (List.prefix_refl l_j) (hx q0 q1)) hx2 hz_x2 (by exact fun q1 q2=>absurd (ao_ (((List.prefix_refl l).trans hp_i).trans hp_j) q1) hrl1)),hD_j⟩ (by dsimp only;omega) zl (f_ (c_ d_) (f_ (c_ d_) (f_ (c_ d_) B_))) zh
  replace hrl1:=zdt hrl1
  refine Zz 5 ?_
  cases rl2
  ·replace hrl2:=zdf hrl2
   refine Zz 8 ?_
   exact u_ ⟨(j+1,l_j,y_j),hlx2,hS_j,hE_j,(hp_j.trans (List.prefix_refl l_j)),(hu_j.step (fun x hx=>fun q0 q1=>ao_ (List.prefix_refl l_j) (hx q0 q1)) hx2 hz_x2 (by exact fun q1 q2=>absurd (ao_ (((List.prefix_refl l).trans hp_i).trans hp_j) q2) hrl2)),hD_j⟩ (by dsimp only;omega) zl (f_ (c_ d_) (f_ (c_ d_) (f_ (c_ d_) B_))) zh
  replace hrl2:=zdt hrl2
  refine Zz 7 ?_
  refine o_ (dD_ f.a z_x2.c) rfl j_ zt rfl fun _=>Zz 3 ?_
  refine N_ l_ A_ K_ rfl rfl rfl rfl rfl rfl fun b7=>?_
  refine cL_ (fun v h1 h=>(cp_ h1 d_ (by exact h.2.2.2.1):¬ D b7)) fun hnd_b7=>?_
  refine ar_ (List.flatMap al_ [nl1,nl2]) d_ rfl ?_
  refine o_ (co_ B p 4 (k_x2:Int) (D_ f.a z_x2.c) (some ⟨b7,0,none⟩) 2 [nl1,nl2] l_j y_j.sv y_j.es y_j.c y_j.h hS_j.1 hS_j.2 (Nat.le_trans (hB _ hE_j) (by decide))) rfl (f_ (c_ d_) (f_ (c_ d_) (c_ B_))) zf rfl fun⟨⟨l4,y4⟩,hl4,hy4⟩=>?_
  dsimp only
  simp only[PSt.own,List.cons_append]
  have hE4:Eng p A l4:=bL_ hl4 hE_j (by obtain⟨q1,e1,a1⟩:=hI_ (hnl1 rfl);obtain⟨q2,e2,a2⟩:=hI_ (hnl2 rfl);rw[e1,e2];exact cor4 hz_x2 hk_x2 a1 a2) (show (4:Int)≤14 from by decide)
  have hq4:l_j <+: l4:=bJ_ hl4
  have hm4:=bK_ hl4;dsimp only at hm4
  have hD4:Fre D l4:=cr_ hl4 hD_j (fun _=>bW_ hnd_b7)
  refine Zz 2 ?_
  refine y_ (t_ d_ (t_ d_ (t_ (e_ d_) (av_ ac_)))) (Zz 5 ?_)
  exact u_ ⟨(j+1,l4,y4),hlx2,hy4,hE4,(hp_j.trans ((List.prefix_refl l_j).trans hq4)),(hu_j.step (fun x hx=>fun q0 q1=>ao_ ((List.prefix_refl l_j).trans hq4) (hx q0 q1)) hx2 hz_x2 (by exact fun _ _=>hm4)),hD4⟩ (by dsimp only;omega) zl zp zf
 obtain⟨hlx1,x1,hx1,hmx1⟩:=zge (show i<List.length (lat fm (Ky.mk 1 [] f.b)) by omega)
 obtain⟨k_x1,z_x1,e_x1,hz_x1,hk_x1⟩:=hfd.snd _ _ (bo_.1 hmx1)
 subst e_x1
 have hlz_x1:k_x1<List.length p:=(List.getElem?_eq_some_iff.1 hz_x1).1
 have hmz_x1:z_x1∈p:=List.mem_of_getElem? hz_x1
 refine Zz 10 ?_
 refine i_ (ag_ l_ A_ rfl rfl (fun v _ h=>Q_ (n:=1) Z_ (by decide) (by exact (aA_ h.2.2.1 (Ky.mk 1 [] f.b))) hx1) (by omega) (by first|omega|(simp;done))) rfl ?_
 refine i_ (aM_ (ad:=(Prod.fst (afm (Ky.mk 1 [] f.b)))) ak_ rfl (fun v _ h=>by exact (aA_ h.2.2.1 (Ky.mk 1 [] f.b))) (H_ Z_ hx1 0 _ rfl)) rfl (Zz 3 ?_)
 refine fg_ (iS_ B.g (gpF B p) 105) ((b1,.cells #[.int .i64 f.kind,str f.a,str f.b,str f.r,.int .i64 f.lo,.int .i64 f.hi] 24 (0,0))::[]) zk ?_
 refine eq_ 3 [0,1,2,3,4,5,6,7,8,9,10,12,13] zk (ah_ (F:=(gpF B p)) (ai_ d_ (c_ d_)) fun v a b=>b) (P_ rfl (aB_ rfl) rfl (P_ rfl (bt_ at_ rfl rfl rfl E_) rfl (P_ rfl (bF_ 0 V_ rfl rfl rfl) rfl (P_ rfl (aB_ rfl) rfl (P_ rfl (df_ rfl) rfl (P_ rfl (bt_ aC_ rfl rfl rfl eH_) rfl (P_ rfl (eI_ (F:=(gpF B p)) gi_ rfl zf (fun _=>rfl)) rfl (P_ rfl (aB_ rfl) rfl ?_))))))))
 refine P_ rfl (ag_ aj_ W_ rfl rfl (fun v _ h=>Q_ (n:=10) Pc.cells_len (by decide) (by exact h.2.2.1) hz_x1) (by omega) (by first|omega|(simp;done))) rfl ?_
 refine P_ rfl (dC_ aX_ rfl rfl rfl E_) rfl (P_ rfl (aM_ (ad:=B.pad) V_ rfl zf (H_ Pc.cells_len hz_x1 3 _ rfl)) rfl (P_ rfl (aB_ rfl) rfl (P_ rfl (aB_ rfl) rfl (el_ ?_))))
 refine cq_ 11 14 rfl rfl zk ?_ ?_
 ·refine o_ (dD_ f.a z_x1.c) rfl j_ zt rfl fun _=>Zz 2 ?_
  refine X_ (ah_ (F:=(gpF B p)) (ai_ d_ (c_ d_)) fun v a b=>b) (m_ 14 rfl zk (N_ l_ A_ K_ rfl rfl rfl rfl rfl rfl fun b8=>?_))
  refine cL_ (fun v h1 h=>(cp_ h1 d_ (by exact h.2.2.2.1):¬ D b8)) fun hnd_b8=>?_
  refine ar_ (List.flatMap al_ [(n:Int)]) d_ rfl ?_
  refine Zz 2 ?_
  refine X_ (ah_ (F:=(gpF B p)) (ai_ d_ (c_ d_)) fun v a b=>b.2) (m_ 15 rfl zk (o_ (co_ B p 3 (k_x1:Int) (D_ f.a z_x1.c) (some ⟨b8,0,none⟩) 1 [(n:Int)] l_i y_i.sv y_i.es y_i.c y_i.h hS_i.1 hS_i.2 (Nat.le_trans (hB _ hE_i) (by decide))) rfl zp zf rfl fun⟨⟨l5,y5⟩,hl5,hy5⟩=>?_))
  dsimp only
  simp only[PSt.own,List.cons_append]
  have hE5:Eng p A l5:=bL_ hl5 hE_i (cor3 hz_x1 hk_x1 (hAt.pre ((List.prefix_refl l).trans hp_i))) (show (3:Int)≤14 from by decide)
  have hq5:l_i <+: l5:=bJ_ hl5
  have hm5:=bK_ hl5;dsimp only at hm5
  have hD5:Fre D l5:=cr_ hl5 hD_i (fun _=>bW_ hnd_b8)
  refine Zz 2 ?_
  refine X_ (ah_ (F:=(gpF B p)) (ai_ d_ (c_ ac_)) fun v a b=>b.2.2) (Zz 2 ?_)
  refine y_ (t_ d_ (t_ d_ (av_ ac_))) (Zz 5 ?_)
  exact u_ ⟨(i+1,l5,y5),hlx1,hy5,hE5,(hp_i.trans ((List.prefix_refl l_i).trans hq5)),(hu_i.step (fun x hx=>ao_ ((List.prefix_refl l_i).trans hq5) hx) hx1 hz_x1 (by exact hm5)),hD5⟩ (by dsimp only;omega) zl zp zf
 refine N_ l_ A_ K_ rfl rfl rfl rfl rfl rfl fun b9=>?_
 refine cL_ (fun v h1 h=>(cp_ h1 d_ (by exact h.2.2.2.1):¬ D b9)) fun hnd_b9=>?_
 refine ar_ (List.flatMap al_ [(n:Int)]) d_ rfl ?_
 refine Zz 2 ?_
 refine X_ (ah_ (F:=(gpF B p)) (ai_ d_ (c_ d_)) fun v a b=>b.2) (m_ 11 rfl zk (o_ (dD_ f.a z_x1.c) rfl j_ zt rfl fun _=>Zz 2 ?_))
 refine X_ (ah_ (F:=(gpF B p)) (ai_ d_ (c_ d_)) fun v a b=>b.2) (m_ 15 rfl zk (o_ (co_ B p 3 (k_x1:Int) (D_ f.a z_x1.c) (some ⟨b9,0,none⟩) 1 [(n:Int)] l_i y_i.sv y_i.es y_i.c y_i.h hS_i.1 hS_i.2 (Nat.le_trans (hB _ hE_i) (by decide))) rfl zp zf rfl fun⟨⟨l6,y6⟩,hl6,hy6⟩=>?_))
 dsimp only
 simp only[PSt.own,List.cons_append]
 have hE6:Eng p A l6:=bL_ hl6 hE_i (cor3 hz_x1 hk_x1 (hAt.pre ((List.prefix_refl l).trans hp_i))) (show (3:Int)≤14 from by decide)
 have hq6:l_i <+: l6:=bJ_ hl6
 have hm6:=bK_ hl6;dsimp only at hm6
 have hD6:Fre D l6:=cr_ hl6 hD_i (fun _=>bW_ hnd_b9)
 refine Zz 2 ?_
 refine X_ (ah_ (F:=(gpF B p)) (ai_ d_ (c_ ac_)) fun v a b=>b.2.2) (Zz 2 ?_)
 refine y_ (t_ d_ (t_ d_ (av_ ac_))) (Zz 5 ?_)
 exact u_ ⟨(i+1,l6,y6),hlx1,hy6,hE6,(hp_i.trans ((List.prefix_refl l_i).trans hq6)),(hu_i.step (fun x hx=>ao_ ((List.prefix_refl l_i).trans hq6) hx) hx1 hz_x1 (by exact hm6)),hD6⟩ (by dsimp only;omega) zl zp zf
end Go.Proofs.YtkeanlfhghlgiaaGreatDoor
