/-
  Lemmas for the law ModuleTypes (no condition).
-/
import Derived.Test.YthmjeabeoodghaaGreatDoorQModuleTypes11
set_option linter.unusedVariables false
set_option linter.unusedSimpArgs false
set_option linter.unusedSectionVars false
set_option maxHeartbeats 1000000
namespace Go.Proofs.YthmjeabeoodghaaGreatDoor
open Go Go.Sx Go.Proofs Tryz
attribute [local irreducible] Code.wp wpList wpAnyH
open Go.Vs
theorem kJ_ {G:Prop} (h:G:=by
 refine e_ (u_ km_ rfl rfl) rfl (o_ 0 bG_ rfl rfl rfl rfl rfl rfl (Zz 4 ?_));exact cS_ ⟨((Cl.mk [] none 0 [] none 0),1),AP_ zai_ zaa_⟩ (fun aa v B A=>bM_ (us:=Cl.cells (Cl.mk [] none 0 [] none 0)) 0 hO_ gO_ bG_ rfl rfl rfl rfl aa v B A) g_ (fun v _ h=>by exact⟨.inl rfl,.inl rfl,trivial⟩)):G:=h
theorem hR_ {G:Prop} (h:G:=by
 refine Z_ (first:=[zp_ g 0]) (vs:=[Fc.val f]) (cap:=[]) hT rfl rfl (pf_six (B_ (c_ (c_ (c_ w_))) (B_ (c_ (c_ (c_ w_))) (B_ (c_ (c_ (c_ w_))) (B_ (c_ (c_ (c_ w_))) (B_ (c_ (c_ (c_ w_))) (B_ (c_ (c_ (c_ w_))) (c_ (c_ C_))))))))) (fun v _ h=>by exact⟨h.2.2.2.2.2.1,h.2.2.2.2.1,⟨h.2.2.2.2.2.2.2.1,h.2.2.2.2.2.2.1,h.2.2.2.2.2.1⟩,trivial⟩) rfl fun⟨W,V⟩=>A_ BJ_ (Zz 2 ?_)
 refine A_ (R_ (l_ (l_ (l_ (l_ (l_ (l_ (l_ d_))))))) (R_ (l_ (l_ (l_ (l_ (l_ (l_ (l_ d_))))))) (bg_ (l_ (l_ (l_ (l_ (l_ (l_ bi_))))))))) (Zz 2 ?_);refine D_ 0 [0,1,2,3,4,5,6] zk zs (Zz 4 ?_);refine T_ rfl (ao_ (nV_ (E:=(EA m hm (EngB.mk g pb ab ub ob ib rb sb lad lcap (aP_ (uniq [] p))) F C d kb fb)) (nw:=(rls (bE_ m) idk (bc_ (uniq [] p)) (Ix.add x (decide (f∈fm)) f) f (j+1) (q,fm)).1) (Hs:=W) V br_ rfl zp) (show _=Value.int .i64 (List.length (rls (bE_ m) idk (bc_ (uniq [] p)) (Ix.add x (decide (f∈fm)) f) f (j+1) (q,fm)).1:Int) from rfl)) rfl (Zi 1 (fun hr_6=>?_) fun hr_6=>?_)
 ·refine Zz 11 ?_
  exact x_ ⟨(j+1,W),a7,by exact V,.inr zab_⟩ zab_ zl zp zh
 refine Zz 9 ?_;refine D_ 0 [0,1,2,3,4,5,6] zk zs (Zz 4 ?_);refine T_ rfl (ao_ (nV_ (E:=(EA m hm (EngB.mk g pb ab ub ob ib rb sb lad lcap (aP_ (uniq [] p))) F C d kb fb)) (nw:=(rls (bE_ m) idk (bc_ (uniq [] p)) (Ix.add x (decide (f∈fm)) f) f (j+1) (q,fm)).1) (Hs:=W) V br_ rfl zp) (show _=Value.int .i64 (List.length (rls (bE_ m) idk (bc_ (uniq [] p)) (Ix.add x (decide (f∈fm)) f) f (j+1) (q,fm)).1:Int) from rfl)) rfl (Zi 1 (fun hr_7=>?_) fun hr_7=>?_)
 ·omega
 refine Zi 8 (fun hr_8=>?_) fun hr_8=>?_
 ·refine Zz 7 ?_
  refine e_ (u_ km_ rfl rfl) rfl (o_ 0 bG_ rfl rfl rfl rfl rfl rfl (Zz 4 ?_));exact cS_ ⟨((Cl.mk [] none 0 [] none 0),2),jN_ Y a0 Z X (by rw[if_neg zai_]) (gH_ I hL hf (j+1) rfl).1 (gH_ I hL hf (j+1) rfl).2.2.1 zaa_⟩ (fun aa v B A=>bM_ (us:=Cl.cells (Cl.mk [] none 0 [] none 0)) 0 hO_ gO_ bG_ rfl rfl rfl rfl aa v B A) g_ (fun v _ h=>by exact⟨.inl rfl,.inl rfl,trivial⟩)
 refine Zz 5 ?_;refine e_ (u_ km_ rfl rfl) rfl (o_ 0 bG_ rfl rfl rfl rfl rfl rfl (Zz 4 ?_));exact cS_ ⟨((Cl.mk [] none 0 [] none 0),3),jN_ Y a0 Z X (by rw[if_pos zai_]) (gH_ I hL hf (j+1) rfl).1 (gH_ I hL hf (j+1) rfl).2.2.1 zaa_⟩ (fun aa v B A=>bM_ (us:=Cl.cells (Cl.mk [] none 0 [] none 0)) 0 hO_ gO_ bG_ rfl rfl rfl rfl aa v B A) g_ (fun v _ h=>by exact⟨.inl rfl,.inl rfl,trivial⟩)):G:=h
set_option maxHeartbeats 4000000 in
theorem all_c (p:List Pc) (a5:Ao) (a8:Nat) (bu:Int) (hsm:∀ x∈p,x.sm) (hp:p.length≤100000000):Tri prog 116 #[.slice a5 p.length a8,.int .i64 bu] [] [X_ a5 (p.flatMap Pc.cells),hW_] (fun y:{y:Cl×Int // eU_ p bu y.1 y.2}=>.tuple #[y.1.1.val,.int .i64 y.1.2]) (fun _=>[]) (fun y=>y.1.1.row):=by
 refine j_ func116 rfl rfl ntmps116 rfl fun v_1=>?_;refine Zz 2 ?_;refine y_ sf_ rfl fun b_1=>Zz 3 ?_
 refine qc_ (Zz 4 ?_);refine f_ (Cx_ p a5 a8 zaa_ hsm) rfl g_ zf rfl fun _=>Zi 6 (fun hr_1=>?_) fun hr_1=>?_
 ·have Y:=hr_1
  refine Zi 9 (fun hr_2=>?_) fun hr_2=>?_
  ·have a0:=hr_2
   refine Zi 4 (fun hr_3=>?_) fun hr_3=>?_
   ·have Z:=hr_3
    refine Zz 7 ?_;obtain⟨m,X⟩:∃ m:Nat,min bu 65536=(m:Int):=⟨(min bu 65536).toNat,by omega⟩;have hm:m≤65536:=by omega
    have I:=yG_ (ym_ Y);have hpl:∀ k,(lat (bc_ (uniq [] p)) k).length≤1000000000:=fun k=>by have B:=fF_ (bc_ (uniq [] p)) k;have A:=oB_ (uniq [] p);have h_3:=kO_ p [];simp only[List.length_nil]at h_3;omega
    refine Zz 2 ?_;refine f_ (tf_ p a5 a8 zaa_) rfl g_ zf rfl fun⟨⟨g,pb,kb,ab,ub,ob,ib,rb,sb,fb,lv,hm_1,hl_1⟩,hy⟩=>?_;dsimp only;dsimp only[NewE.own,NewE.ok]at hy ⊢;obtain⟨hym,hyl⟩:=hy;simp only[List.cons_append,List.append_assoc];refine bL_ hyl (c_ (c_ (c_ (c_ (c_ (c_ (c_ (c_ (c_ (l_ w_)))))))))) fun lad lcap hlad hclad hmlad hzlad=>?_;subst hlad;refine y_ zeroValue224 rfl fun F=>A_ (R_ d_ (R_ d_ (R_ d_ (R_ d_ (R_ d_ (R_ d_ (R_ d_ (R_ d_ (R_ d_ (R_ d_ (bg_ bi_))))))))))) (o_ 0 sizeOf224 rfl rfl rfl rfl rfl rfl (Zz 5 ?_))
    refine e_ (ao_ (kK_ rfl rfl) (congrArg (Value.int .i64) X)) rfl (y_ bA_ rfl fun C=>o_ 0 P_ rfl rfl rfl rfl rfl rfl (Zz 4 ?_));refine y_ sg_ rfl fun d=>Zz 5 ?_
    refine e_ (bm_ rfl rfl) rfl (Zz 2 ?_);refine o_ 3 eX_ rfl rfl rfl rfl rfl rfl (Zz 3 ?_);refine en_ (bl_ F (.cells #[zp_ g 0] 224 (0,0))) (bg_ (c_ (c_ d_))) (fun _ B A _=>⟨B,A⟩) ?_;refine en_ (bl_ C (.cells #[.int .i64 (m:Int)] 3 (0,0))) (bg_ (c_ d_)) (fun _ B A _=>⟨B,A⟩) ?_;refine en_ (bl_ g (.cells #[.map (some pb),.slice lad (List.length (aP_ (uniq [] p))) lcap,.map (some kb),.func (.func 178) #[] #[zp_ F 0,zp_ C 0,zp_ d 0],.map (some ab),.map (some ub),.map (some ob),.map (some ib),.map (some rb),.map (some sb),.map (some fb)] 233 (0,0))) (bg_ (c_ d_)) (fun _ B A _=>⟨B,A⟩) ?_;refine zB_ ip_ hym (c_ (c_ (c_ (c_ (c_ (c_ (c_ (c_ (c_ C_))))))))) fun adr=>?_;refine Zz 2 ?_;refine f_ (atS_c p a5 a8 zaa_) rfl g_ zf rfl fun⟨⟨aad,acap⟩,hac,ham,haz⟩=>?_;dsimp only;refine Zz 7 ?_;refine f_ (CB_ (EngB.mk g pb ab ub ob ib rb sb lad lcap (aP_ (uniq [] p))) (EA m hm (EngB.mk g pb ab ub ob ib rb sb lad lcap (aP_ (uniq [] p))) F C d kb fb) [] [] [(d,.cells #[.slice none 0 0] 71 (0,0)),(kb,.map #[] 0),(fb,.map #[] 0)] ⟨.slice none 0 0,#[],0,#[],0,[],[],rfl,az_.nil _ _,SetE.nil,SetE.nil,by simp⟩ (atS p) aad acap (by have:=wD_ p;omega) (by have:=nc_ (uniq [] p);have h_3:=kO_ p [];simp only[List.length_nil]at h_3;show (aP_ (uniq [] p)).length≤_;omega)) rfl (i_ d_ (i_ d_ (c_ (c_ (c_ (c_ (c_ (c_ d_)))))))) (fun v _ h=>by exact⟨h.2.2.1,h.2.2.2.2.2.1,h.1,⟨h.2.2.2.2.1,h.2.2.2.1,h.2.2.1⟩,trivial⟩) rfl fun⟨Hs_1,hS_1⟩=>?_;dsimp only;refine Zz 2 ?_;refine A_ (R_ (l_ d_) (R_ (l_ d_) (R_ (l_ d_) (R_ (l_ d_) (R_ (l_ d_) (R_ (l_ d_) (bg_ bi_))))))) (Zz 3 ?_);refine f_ (Bw_ g) rfl g_ zt rfl fun⟨a6,a3,a4⟩=>?_;dsimp only;refine y_ zeroValue235 rfl fun a2=>o_ 0 sizeOf235 rfl rfl rfl rfl rfl rfl (Zz 3 ?_)
    refine qe_ (Zz 8 ?_);refine O_ (ι:={y:Nat×List Fc×List Fc×Ix×Hp×Hp×Hp×Hp×Hp×Hp×Hp // LoopA (uniq [] p) (atS p) m y.1 y.2.1 y.2.2.1 y.2.2.2.1∧((EA m hm (EngB.mk g pb ab ub ob ib rb sb lad lcap (aP_ (uniq [] p))) F C d kb fb)).St y.2.1 y.2.2.1 y.2.2.2.2.2.2.2.2.2.2∧IxO 9 129 (EngB.mk g pb ab ub ob ib rb sb lad lcap (aP_ (uniq [] p))) y.2.2.2.1 ⟨y.2.2.2.2.1,y.2.2.2.2.2.1,y.2.2.2.2.2.2.1,y.2.2.2.2.2.2.2.1,y.2.2.2.2.2.2.2.2.1,y.2.2.2.2.2.2.2.2.2.1⟩∧va_ y.2.2.2.1 y.1}) (fun y=>[(0,.slice a5 p.length a8),(1,.int .i64 bu),(4,zp_ b_1 0),(7,zp_ F 0),(8,zp_ C 0),(9,zp_ d 0),(10,.slice aad (List.length (atS p)) acap),(11,zp_ a2 0),(12,.int .i64 (y.1.1:Int))]) (fun y=>((b_1,.cells #[.slice none 0 0,.slice none 0 0] 96 (0,0))::((a2,.cells #[.slice none 0 0,.slice (some ⟨a6,0,none⟩) 6 6,.slice (some ⟨a3,0,none⟩) 4 4,.slice (some ⟨a4,0,none⟩) 2 2] 235 (0,0))::(y.1.2.2.2.2.1++(y.1.2.2.2.2.2.1++(y.1.2.2.2.2.2.2.1++(y.1.2.2.2.2.2.2.2.1++(y.1.2.2.2.2.2.2.2.2.1++(y.1.2.2.2.2.2.2.2.2.2.1++y.1.2.2.2.2.2.2.2.2.2.2))))))))) (fun y=>[X_ (some ⟨a6,0,none⟩) (List.flatMap fvC (rlV g 1)),X_ (some ⟨a3,0,none⟩) (List.flatMap fvC (rlV g 2)),X_ (some ⟨a4,0,none⟩) (List.flatMap fvC (rlV g 3)),X_ aad (List.flatMap au_ (atS p)),mlF prog 331 Ky.val Pc.cells pb (bc_ (uniq [] p)) adr,bl_ g (.cells #[.map (some pb),.slice lad (List.length (aP_ (uniq [] p))) lcap,.map (some kb),.func (.func 178) #[] #[zp_ F 0,zp_ C 0,zp_ d 0],.map (some ab),.map (some ub),.map (some ob),.map (some ib),.map (some rb),.map (some sb),.map (some fb)] 233 (0,0)),bl_ C (.cells #[.int .i64 (m:Int)] 3 (0,0)),bl_ F (.cells #[zp_ g 0] 224 (0,0)),X_ lad (List.flatMap au_ (aP_ (uniq [] p))),X_ a5 (p.flatMap Pc.cells),hW_]) (fun y=>m+1 - y.1.1) ⟨((0:Nat),(emits (bE_ m) (ho_ (aP_ (uniq [] p)) (atS p)) []),([]:List Fc),Ix.nil,[(ab,.map #[] 0)],[(ub,.map #[] 0)],[(ob,.map #[] 0)],[(ib,.map #[] 0)],[(rb,.map #[] 0)],[(sb,.map #[] 0)],Hs_1),tm_ I rfl,by exact hS_1,⟨ds_.nil _ _,ds_.nil _ _,ds_.nil _ _,ds_.nil _ _,ds_.nil _ _,ds_.nil _ _⟩,zW_⟩ zl (i_ (c_ (c_ (c_ (c_ (c_ (c_ (c_ d_))))))) (i_ d_ (i_ d_ (i_ d_ (i_ d_ (i_ d_ (i_ d_ (i_ d_ aj_)))))))) zh ?_;rintro ⟨⟨n,q,fm,x,Ha,Hu,Ho,Hi,Hr,Hm,Hs⟩,hL,hS,hI,hz⟩;dsimp only at hL hS hI hz ⊢;obtain⟨H,K,J,M,N,qf_1,L,hHs_1,O,hEk_1,hEf_1,hqf_1⟩:=hS;subst hHs_1;have hqm:=hL.len;have hnq:=hL.le;obtain⟨hxl,hyl⟩:=tt_ hz zaa_;refine ax_ (A_ (R_ d_ (R_ d_ (R_ (l_ (l_ (l_ (l_ (l_ (l_ d_)))))) (bg_ (l_ (l_ (l_ (l_ (l_ (l_ d_)))))))))) (Zz 4 ?_));refine e_ (cF_ O cp_ rfl) rfl ?_;refine Zi 0 (fun hr_4=>?_) fun hr_4=>?_
    ·refine Zz 8 ?_
     refine D_ 0 [0,1,2,3,4,5,6] zk zs (Zz 4 ?_);refine T_ rfl (ao_ (nV_ (E:=(EA m hm (EngB.mk g pb ab ub ob ib rb sb lad lcap (aP_ (uniq [] p))) F C d kb fb)) (nw:=q) (Hs:=((d,.cells #[H] 71 (0,0))::(kb,.map K J)::([(fb,.map M N)]++L))) ⟨H,K,J,M,N,qf_1,L,rfl,O,hEk_1,hEf_1,hqf_1⟩ br_ rfl zp) (show _=Value.int .i64 (List.length q:Int) from rfl)) rfl (Zi 1 (fun hr_5=>?_) fun hr_5=>?_)
     ·refine Zz 9 ?_
      refine f_ (Bv_ O zaa_) rfl zp zt rfl fun⟨Hq_2,hq_1⟩=>?_;dsimp only;refine Zz 2 ?_;refine A_ (R_ (l_ d_) (R_ (l_ d_) (R_ (l_ d_) (bg_ (l_ d_))))) (ax_ (bL_ hq_1 (c_ (c_ (c_ (c_ w_)))) fun fad fcap hfad hcfad hmfad hzfad=>?_));subst hfad;refine Zz 3 ?_;refine e_ (u_ km_ rfl rfl) rfl (o_ 0 bG_ rfl rfl rfl rfl rfl rfl (Zz 4 ?_));exact cS_ ⟨((Cl.mk (atS p) aad acap (kn_ q) fad fcap),0),CG_ Y a0 Z X ⟨hac,ham,haz,hcfad,hmfad,hzfad⟩ rfl hL zaa_ zaa_ rfl⟩ (fun aa v B A=>bM_ (us:=Cl.cells (Cl.mk (atS p) aad acap (kn_ q) fad fcap)) 0 hO_ gO_ bG_ rfl rfl rfl rfl aa v B A) g_ zf
     refine Zi 8 (fun hr_6=>?_) fun hr_6=>?_
     ·refine Zz 7 ?_
      refine e_ (u_ km_ rfl rfl) rfl (o_ 0 bG_ rfl rfl rfl rfl rfl rfl (Zz 4 ?_));exact cS_ ⟨((Cl.mk [] none 0 [] none 0),2),jN_ Y a0 Z X (by rw[if_neg zai_]) hL.nd hL.der zaa_⟩ (fun aa v B A=>bM_ (us:=Cl.cells (Cl.mk [] none 0 [] none 0)) 0 hO_ gO_ bG_ rfl rfl rfl rfl aa v B A) g_ (fun v _ h=>by exact⟨.inl rfl,.inl rfl,trivial⟩)
     refine Zz 5 ?_;refine e_ (u_ km_ rfl rfl) rfl (o_ 0 bG_ rfl rfl rfl rfl rfl rfl (Zz 4 ?_));exact cS_ ⟨((Cl.mk [] none 0 [] none 0),3),jN_ Y a0 Z X (by rw[if_pos zai_]) hL.nd hL.der zaa_⟩ (fun aa v B A=>bM_ (us:=Cl.cells (Cl.mk [] none 0 [] none 0)) 0 hO_ gO_ bG_ rfl rfl rfl rfl aa v B A) g_ (fun v _ h=>by exact⟨.inl rfl,.inl rfl,trivial⟩)
    have hlf:n<q.length:=by omega
    obtain⟨f,hf⟩:∃ e_1,q[n]? = some e_1:=⟨_,List.getElem?_eq_getElem hlf⟩;have hmf:f∈q:=List.mem_of_getElem? hf;have hfd:=hL.der f hmf;have hform:=hfd.form I;obtain⟨hxl_1,hyl_1⟩:=tt_ (lg_ hz (decide (f∈fm)) f) zaa_;refine Zz 11 ?_;refine e_ (bI_ O cp_ at_ rfl rfl zaa_ zaa_) rfl (e_ (eQ_ O zp fT_ at_ rfl (Fc.cells_len _) zad_ (z_ Fc.cells_len hf)) rfl (y_ aV_ rfl fun b_6=>o_ 0 at_ rfl rfl rfl rfl rfl rfl (Zz 6 ?_)));refine f_ (Ce_ (EngB.mk g pb ab ub ob ib rb sb lad lcap (aP_ (uniq [] p))) (EA m hm (EngB.mk g pb ab ub ob ib rb sb lad lcap (aP_ (uniq [] p))) F C d kb fb) x f q fm ((d,.cells #[H] 71 (0,0))::(kb,.map K J)::([(fb,.map M N)]++L)) ⟨H,K,J,M,N,qf_1,L,rfl,O,hEk_1,hEf_1,hqf_1⟩ Ha Hu Ho Hi Hr Hm hI hxl hyl) rfl (B_ (c_ (c_ (c_ (c_ (c_ w_))))) (B_ (c_ (c_ (c_ (c_ (c_ w_))))) (B_ (c_ (c_ (c_ (c_ (c_ w_))))) (B_ (c_ (c_ (c_ (c_ (c_ w_))))) (B_ (c_ (c_ (c_ (c_ (c_ w_))))) (B_ (c_ (c_ (c_ (c_ (c_ w_))))) (i_ (c_ (c_ (c_ d_))) (i_ (c_ (c_ (c_ d_))) (B_ (c_ (c_ (c_ w_))) (c_ (c_ C_))))))))))) zf rfl fun⟨⟨S,R,Q,P,U,T⟩,hI_1⟩=>?_;dsimp only;refine A_ BK_ (Zz 2 ?_);refine A_ (R_ (l_ (l_ (l_ (l_ (l_ (l_ d_)))))) (R_ (l_ (l_ (l_ (l_ (l_ (l_ d_)))))) (R_ (l_ (l_ (l_ (l_ (l_ (l_ (l_ (l_ d_)))))))) (R_ (l_ (l_ (l_ (l_ (l_ (l_ (l_ (l_ d_)))))))) (bg_ (l_ (l_ (l_ (l_ (l_ (l_ (l_ bi_)))))))))))) (Zz 4 ?_);rcases lV_ hform with hk|hk|hk
    ·refine e_ (ao_ (dI_ xb_ sizeOf234 rfl rfl zaa_ zaa_) (show _=zp_ a2 1 from by rw[hk];rfl)) rfl ?_
     refine Zz 6 ?_;refine dk_ (H':=((b_1,.cells #[.slice none 0 0,.slice none 0 0] 96 (0,0))::((a2,.cells #[.slice none 0 0,.slice (some ⟨a6,0,none⟩) 6 6,.slice (some ⟨a3,0,none⟩) 4 4,.slice (some ⟨a4,0,none⟩) 2 2] 235 (0,0))::((b_6,.cells #[.int .i64 f.kind,str f.a,str f.b,str f.r,.int .i64 f.lo,.int .i64 f.hi] 129 (0,0))::(S++(R++(Q++(P++(U++(T++((d,.cells #[H] 71 (0,0))::(kb,.map K J)::([(fb,.map M N)]++L)))))))))))) (i_ (c_ (c_ (c_ d_))) (i_ (c_ (c_ (c_ d_))) (i_ (c_ (c_ d_)) (B_ (c_ (c_ w_)) (B_ (c_ (c_ w_)) (B_ (c_ (c_ w_)) (B_ (c_ (c_ w_)) (B_ (c_ (c_ w_)) (B_ (c_ (c_ w_)) (i_ d_ (i_ d_ (B_ w_ aj_)))))))))))) (fun v _ h=>h) ?_;refine O_ (ι:={y:Nat×Hp // y.1≤6∧((EA m hm (EngB.mk g pb ab ub ob ib rb sb lad lcap (aP_ (uniq [] p))) F C d kb fb)).St (rls (bE_ m) idk (bc_ (uniq [] p)) (Ix.add x (decide (f∈fm)) f) f y.1 (q,fm)).1 (rls (bE_ m) idk (bc_ (uniq [] p)) (Ix.add x (decide (f∈fm)) f) f y.1 (q,fm)).2 y.2∧(y.1=0∨((rls (bE_ m) idk (bc_ (uniq [] p)) (Ix.add x (decide (f∈fm)) f) f y.1 (q,fm)).1).length≤m)}) (fun y=>[(0,.slice a5 p.length a8),(1,.int .i64 bu),(4,zp_ b_1 0),(7,zp_ F 0),(8,zp_ C 0),(9,zp_ d 0),(10,.slice aad (List.length (atS p)) acap),(11,zp_ a2 0),(12,.int .i64 (n:Int)),(13,zp_ b_6 0),(60,.slice (some ⟨a6,0,none⟩) 6 6),(61,.int .i64 6),(62,.int .i64 (y.1.1:Int))]) (fun y=>((b_1,.cells #[.slice none 0 0,.slice none 0 0] 96 (0,0))::((a2,.cells #[.slice none 0 0,.slice (some ⟨a6,0,none⟩) 6 6,.slice (some ⟨a3,0,none⟩) 4 4,.slice (some ⟨a4,0,none⟩) 2 2] 235 (0,0))::((b_6,.cells #[.int .i64 f.kind,str f.a,str f.b,str f.r,.int .i64 f.lo,.int .i64 f.hi] 129 (0,0))::(S++(R++(Q++(P++(U++(T++y.1.2)))))))))) (fun y=>[X_ (some ⟨a6,0,none⟩) (List.flatMap fvC (rlV g 1)),X_ (some ⟨a3,0,none⟩) (List.flatMap fvC (rlV g 2)),X_ (some ⟨a4,0,none⟩) (List.flatMap fvC (rlV g 3)),X_ aad (List.flatMap au_ (atS p)),mlF prog 331 Ky.val Pc.cells pb (bc_ (uniq [] p)) adr,bl_ g (.cells #[.map (some pb),.slice lad (List.length (aP_ (uniq [] p))) lcap,.map (some kb),.func (.func 178) #[] #[zp_ F 0,zp_ C 0,zp_ d 0],.map (some ab),.map (some ub),.map (some ob),.map (some ib),.map (some rb),.map (some sb),.map (some fb)] 233 (0,0)),bl_ C (.cells #[.int .i64 (m:Int)] 3 (0,0)),bl_ F (.cells #[zp_ g 0] 224 (0,0)),X_ lad (List.flatMap au_ (aP_ (uniq [] p))),X_ a5 (p.flatMap Pc.cells),hW_]) (fun y=>6 - y.1.1) ⟨((0:Nat),((d,.cells #[H] 71 (0,0))::(kb,.map K J)::([(fb,.map M N)]++L))),by omega,by exact⟨H,K,J,M,N,qf_1,L,rfl,O,hEk_1,hEf_1,hqf_1⟩,.inl rfl⟩ zl zp zh ?_;rintro ⟨⟨j,Hs⟩,hj,G,hjm⟩;dsimp only at hj G hjm ⊢;refine Zi 2 (fun hr_5=>?_) fun hr_5=>?_
     ·have ej:j=6:=by omega
      have hjl:((rls (bE_ m) idk (bc_ (uniq [] p)) (Ix.add x (decide (f∈fm)) f) f j (q,fm)).1).length≤m:=hjm.resolve_left zaa_;rw[ej]at hjl G;refine Zz 12 ?_;exact x_ ⟨(n+1,(rls (bE_ m) idk (bc_ (uniq [] p)) (Ix.add x (decide (f∈fm)) f) f 6 (q,fm)).1,(rls (bE_ m) idk (bc_ (uniq [] p)) (Ix.add x (decide (f∈fm)) f) f 6 (q,fm)).2,(Ix.add x (decide (f∈fm)) f),S,R,Q,P,U,T,Hs),(kz_ I hL hf (by have e:nrl f=6:=(by unfold nrl;simp[hk]);rw[e]) zaa_),(by exact G),hI_1,(lg_ hz _ f)⟩ zab_ zl (i_ d_ (i_ d_ (B_ (c_ w_) (B_ (c_ w_) (B_ (c_ w_) (B_ (c_ w_) (B_ (c_ w_) (B_ (c_ w_) C_)))))))) zh
     have a7:j<List.length (rlV g 1):=by show j<6;omega
     obtain⟨fv,a1⟩:∃ e_1,(rlV g 1)[j]? = some e_1:=⟨_,List.getElem?_eq_getElem a7⟩;have hmfv:fv∈(rlV g 1):=List.mem_of_getElem? a1;refine Zz 10 ?_;refine e_ (U_ ek_ eX_ rfl rfl (fun v _ h=>aK_ (n:=1) jH_ zad_ (by exact h.1) a1) zaa_ zaa_) rfl (e_ (bP_ (ad:=(some ⟨a6,0,none⟩)) isAgg228 rfl zf (z_ jH_ a1 0 _ rfl)) rfl (Zz 7 ?_));obtain⟨nr,rfl,hT⟩:=Bz_ (EngB.mk g pb ab ub ob ib rb sb lad lcap (aP_ (uniq [] p))) (EA m hm (EngB.mk g pb ab ub ob ib rb sb lad lcap (aP_ (uniq [] p))) F C d kb fb) (EngA.mk adr (fun _=>(none,0)) (fun _=>(none,0)) (fun _=>(none,0)) (fun _=>(none,0)) (fun _=>(none,0)) (fun _=>(none,0))) (bc_ (uniq [] p)) (Ix.add x (decide (f∈fm)) f) f (rls (bE_ m) idk (bc_ (uniq [] p)) (Ix.add x (decide (f∈fm)) f) f j (q,fm)).1 (rls (bE_ m) idk (bc_ (uniq [] p)) (Ix.add x (decide (f∈fm)) f) f j (q,fm)).2 Hs G S R Q P U T hI_1 hpl hxl_1 hyl_1 (fun hk=>(jW_ hform hk).2.2) (fun _ y hy=>(I y (pm9.1 hy).1).num (.inr (pm9.1 hy).2.1)) hk j a1;exact hR_
    ·refine e_ (ao_ (dI_ xb_ sizeOf234 rfl rfl zaa_ zaa_) (show _=zp_ a2 2 from by rw[hk];rfl)) rfl ?_
     refine Zz 6 ?_;refine dk_ (H':=((b_1,.cells #[.slice none 0 0,.slice none 0 0] 96 (0,0))::((a2,.cells #[.slice none 0 0,.slice (some ⟨a6,0,none⟩) 6 6,.slice (some ⟨a3,0,none⟩) 4 4,.slice (some ⟨a4,0,none⟩) 2 2] 235 (0,0))::((b_6,.cells #[.int .i64 f.kind,str f.a,str f.b,str f.r,.int .i64 f.lo,.int .i64 f.hi] 129 (0,0))::(S++(R++(Q++(P++(U++(T++((d,.cells #[H] 71 (0,0))::(kb,.map K J)::([(fb,.map M N)]++L)))))))))))) (i_ (c_ (c_ (c_ d_))) (i_ (c_ (c_ (c_ d_))) (i_ (c_ (c_ d_)) (B_ (c_ (c_ w_)) (B_ (c_ (c_ w_)) (B_ (c_ (c_ w_)) (B_ (c_ (c_ w_)) (B_ (c_ (c_ w_)) (B_ (c_ (c_ w_)) (i_ d_ (i_ d_ (B_ w_ aj_)))))))))))) (fun v _ h=>h) ?_;refine O_ (ι:={y:Nat×Hp // y.1≤4∧((EA m hm (EngB.mk g pb ab ub ob ib rb sb lad lcap (aP_ (uniq [] p))) F C d kb fb)).St (rls (bE_ m) idk (bc_ (uniq [] p)) (Ix.add x (decide (f∈fm)) f) f y.1 (q,fm)).1 (rls (bE_ m) idk (bc_ (uniq [] p)) (Ix.add x (decide (f∈fm)) f) f y.1 (q,fm)).2 y.2∧(y.1=0∨((rls (bE_ m) idk (bc_ (uniq [] p)) (Ix.add x (decide (f∈fm)) f) f y.1 (q,fm)).1).length≤m)}) (fun y=>[(0,.slice a5 p.length a8),(1,.int .i64 bu),(4,zp_ b_1 0),(7,zp_ F 0),(8,zp_ C 0),(9,zp_ d 0),(10,.slice aad (List.length (atS p)) acap),(11,zp_ a2 0),(12,.int .i64 (n:Int)),(13,zp_ b_6 0),(60,.slice (some ⟨a3,0,none⟩) 4 4),(61,.int .i64 4),(62,.int .i64 (y.1.1:Int))]) (fun y=>((b_1,.cells #[.slice none 0 0,.slice none 0 0] 96 (0,0))::((a2,.cells #[.slice none 0 0,.slice (some ⟨a6,0,none⟩) 6 6,.slice (some ⟨a3,0,none⟩) 4 4,.slice (some ⟨a4,0,none⟩) 2 2] 235 (0,0))::((b_6,.cells #[.int .i64 f.kind,str f.a,str f.b,str f.r,.int .i64 f.lo,.int .i64 f.hi] 129 (0,0))::(S++(R++(Q++(P++(U++(T++y.1.2)))))))))) (fun y=>[X_ (some ⟨a6,0,none⟩) (List.flatMap fvC (rlV g 1)),X_ (some ⟨a3,0,none⟩) (List.flatMap fvC (rlV g 2)),X_ (some ⟨a4,0,none⟩) (List.flatMap fvC (rlV g 3)),X_ aad (List.flatMap au_ (atS p)),mlF prog 331 Ky.val Pc.cells pb (bc_ (uniq [] p)) adr,bl_ g (.cells #[.map (some pb),.slice lad (List.length (aP_ (uniq [] p))) lcap,.map (some kb),.func (.func 178) #[] #[zp_ F 0,zp_ C 0,zp_ d 0],.map (some ab),.map (some ub),.map (some ob),.map (some ib),.map (some rb),.map (some sb),.map (some fb)] 233 (0,0)),bl_ C (.cells #[.int .i64 (m:Int)] 3 (0,0)),bl_ F (.cells #[zp_ g 0] 224 (0,0)),X_ lad (List.flatMap au_ (aP_ (uniq [] p))),X_ a5 (p.flatMap Pc.cells),hW_]) (fun y=>4 - y.1.1) ⟨((0:Nat),((d,.cells #[H] 71 (0,0))::(kb,.map K J)::([(fb,.map M N)]++L))),by omega,by exact⟨H,K,J,M,N,qf_1,L,rfl,O,hEk_1,hEf_1,hqf_1⟩,.inl rfl⟩ zl zp zh ?_;rintro ⟨⟨j,Hs⟩,hj,G,hjm⟩;dsimp only at hj G hjm ⊢;refine Zi 2 (fun hr_5=>?_) fun hr_5=>?_
     ·have ej:j=4:=by omega
      have hjl:((rls (bE_ m) idk (bc_ (uniq [] p)) (Ix.add x (decide (f∈fm)) f) f j (q,fm)).1).length≤m:=hjm.resolve_left zaa_;rw[ej]at hjl G;refine Zz 12 ?_;exact x_ ⟨(n+1,(rls (bE_ m) idk (bc_ (uniq [] p)) (Ix.add x (decide (f∈fm)) f) f 4 (q,fm)).1,(rls (bE_ m) idk (bc_ (uniq [] p)) (Ix.add x (decide (f∈fm)) f) f 4 (q,fm)).2,(Ix.add x (decide (f∈fm)) f),S,R,Q,P,U,T,Hs),(kz_ I hL hf (by have e:nrl f=4:=(by unfold nrl;simp[hk]);rw[e]) zaa_),(by exact G),hI_1,(lg_ hz _ f)⟩ zab_ zl (i_ d_ (i_ d_ (B_ (c_ w_) (B_ (c_ w_) (B_ (c_ w_) (B_ (c_ w_) (B_ (c_ w_) (B_ (c_ w_) C_)))))))) zh
     have a7:j<List.length (rlV g 2):=by show j<4;omega
     obtain⟨fv,a1⟩:∃ e_1,(rlV g 2)[j]? = some e_1:=⟨_,List.getElem?_eq_getElem a7⟩;have hmfv:fv∈(rlV g 2):=List.mem_of_getElem? a1;refine Zz 10 ?_;refine e_ (U_ ek_ eX_ rfl rfl (fun v _ h=>aK_ (n:=1) jH_ zad_ (by exact h.2.1) a1) zaa_ zaa_) rfl (e_ (bP_ (ad:=(some ⟨a3,0,none⟩)) isAgg228 rfl zf (z_ jH_ a1 0 _ rfl)) rfl (Zz 7 ?_));obtain⟨nr,rfl,hT⟩:=By_ (EngB.mk g pb ab ub ob ib rb sb lad lcap (aP_ (uniq [] p))) (EA m hm (EngB.mk g pb ab ub ob ib rb sb lad lcap (aP_ (uniq [] p))) F C d kb fb) (EngA.mk adr (fun _=>(none,0)) (fun _=>(none,0)) (fun _=>(none,0)) (fun _=>(none,0)) (fun _=>(none,0)) (fun _=>(none,0))) (bc_ (uniq [] p)) (Ix.add x (decide (f∈fm)) f) f (rls (bE_ m) idk (bc_ (uniq [] p)) (Ix.add x (decide (f∈fm)) f) f j (q,fm)).1 (rls (bE_ m) idk (bc_ (uniq [] p)) (Ix.add x (decide (f∈fm)) f) f j (q,fm)).2 Hs G S R Q P U T hI_1 hpl hxl_1 hyl_1 (fun hk=>(jW_ hform hk).2.2) (fun _ y hy=>(I y (pm9.1 hy).1).num (.inr (pm9.1 hy).2.1)) hk j a1;exact hR_
    refine e_ (ao_ (dI_ xb_ sizeOf234 rfl rfl zaa_ zaa_) (show _=zp_ a2 3 from by rw[hk];rfl)) rfl ?_;refine Zz 6 ?_;refine dk_ (H':=((b_1,.cells #[.slice none 0 0,.slice none 0 0] 96 (0,0))::((a2,.cells #[.slice none 0 0,.slice (some ⟨a6,0,none⟩) 6 6,.slice (some ⟨a3,0,none⟩) 4 4,.slice (some ⟨a4,0,none⟩) 2 2] 235 (0,0))::((b_6,.cells #[.int .i64 f.kind,str f.a,str f.b,str f.r,.int .i64 f.lo,.int .i64 f.hi] 129 (0,0))::(S++(R++(Q++(P++(U++(T++((d,.cells #[H] 71 (0,0))::(kb,.map K J)::([(fb,.map M N)]++L)))))))))))) (i_ (c_ (c_ (c_ d_))) (i_ (c_ (c_ (c_ d_))) (i_ (c_ (c_ d_)) (B_ (c_ (c_ w_)) (B_ (c_ (c_ w_)) (B_ (c_ (c_ w_)) (B_ (c_ (c_ w_)) (B_ (c_ (c_ w_)) (B_ (c_ (c_ w_)) (i_ d_ (i_ d_ (B_ w_ aj_)))))))))))) (fun v _ h=>h) ?_;refine O_ (ι:={y:Nat×Hp // y.1≤2∧((EA m hm (EngB.mk g pb ab ub ob ib rb sb lad lcap (aP_ (uniq [] p))) F C d kb fb)).St (rls (bE_ m) idk (bc_ (uniq [] p)) (Ix.add x (decide (f∈fm)) f) f y.1 (q,fm)).1 (rls (bE_ m) idk (bc_ (uniq [] p)) (Ix.add x (decide (f∈fm)) f) f y.1 (q,fm)).2 y.2∧(y.1=0∨((rls (bE_ m) idk (bc_ (uniq [] p)) (Ix.add x (decide (f∈fm)) f) f y.1 (q,fm)).1).length≤m)}) (fun y=>[(0,.slice a5 p.length a8),(1,.int .i64 bu),(4,zp_ b_1 0),(7,zp_ F 0),(8,zp_ C 0),(9,zp_ d 0),(10,.slice aad (List.length (atS p)) acap),(11,zp_ a2 0),(12,.int .i64 (n:Int)),(13,zp_ b_6 0),(60,.slice (some ⟨a4,0,none⟩) 2 2),(61,.int .i64 2),(62,.int .i64 (y.1.1:Int))]) (fun y=>((b_1,.cells #[.slice none 0 0,.slice none 0 0] 96 (0,0))::((a2,.cells #[.slice none 0 0,.slice (some ⟨a6,0,none⟩) 6 6,.slice (some ⟨a3,0,none⟩) 4 4,.slice (some ⟨a4,0,none⟩) 2 2] 235 (0,0))::((b_6,.cells #[.int .i64 f.kind,str f.a,str f.b,str f.r,.int .i64 f.lo,.int .i64 f.hi] 129 (0,0))::(S++(R++(Q++(P++(U++(T++y.1.2)))))))))) (fun y=>[X_ (some ⟨a6,0,none⟩) (List.flatMap fvC (rlV g 1)),X_ (some ⟨a3,0,none⟩) (List.flatMap fvC (rlV g 2)),X_ (some ⟨a4,0,none⟩) (List.flatMap fvC (rlV g 3)),X_ aad (List.flatMap au_ (atS p)),mlF prog 331 Ky.val Pc.cells pb (bc_ (uniq [] p)) adr,bl_ g (.cells #[.map (some pb),.slice lad (List.length (aP_ (uniq [] p))) lcap,.map (some kb),.func (.func 178) #[] #[zp_ F 0,zp_ C 0,zp_ d 0],.map (some ab),.map (some ub),.map (some ob),.map (some ib),.map (some rb),.map (some sb),.map (some fb)] 233 (0,0)),bl_ C (.cells #[.int .i64 (m:Int)] 3 (0,0)),bl_ F (.cells #[zp_ g 0] 224 (0,0)),X_ lad (List.flatMap au_ (aP_ (uniq [] p))),X_ a5 (p.flatMap Pc.cells),hW_]) (fun y=>2 - y.1.1) ⟨((0:Nat),((d,.cells #[H] 71 (0,0))::(kb,.map K J)::([(fb,.map M N)]++L))),by omega,by exact⟨H,K,J,M,N,qf_1,L,rfl,O,hEk_1,hEf_1,hqf_1⟩,.inl rfl⟩ zl zp zh ?_;rintro ⟨⟨j,Hs⟩,hj,G,hjm⟩;dsimp only at hj G hjm ⊢;refine Zi 2 (fun hr_5=>?_) fun hr_5=>?_
    ·have ej:j=2:=by omega
     have hjl:((rls (bE_ m) idk (bc_ (uniq [] p)) (Ix.add x (decide (f∈fm)) f) f j (q,fm)).1).length≤m:=hjm.resolve_left zaa_;rw[ej]at hjl G;refine Zz 12 ?_;exact x_ ⟨(n+1,(rls (bE_ m) idk (bc_ (uniq [] p)) (Ix.add x (decide (f∈fm)) f) f 2 (q,fm)).1,(rls (bE_ m) idk (bc_ (uniq [] p)) (Ix.add x (decide (f∈fm)) f) f 2 (q,fm)).2,(Ix.add x (decide (f∈fm)) f),S,R,Q,P,U,T,Hs),(kz_ I hL hf (by have e:nrl f=2:=(by unfold nrl;simp[hk]);rw[e]) zaa_),(by exact G),hI_1,(lg_ hz _ f)⟩ zab_ zl (i_ d_ (i_ d_ (B_ (c_ w_) (B_ (c_ w_) (B_ (c_ w_) (B_ (c_ w_) (B_ (c_ w_) (B_ (c_ w_) C_)))))))) zh
    have a7:j<List.length (rlV g 3):=by show j<2;omega
    obtain⟨fv,a1⟩:∃ e_1,(rlV g 3)[j]? = some e_1:=⟨_,List.getElem?_eq_getElem a7⟩;have hmfv:fv∈(rlV g 3):=List.mem_of_getElem? a1;refine Zz 10 ?_;refine e_ (U_ ek_ eX_ rfl rfl (fun v _ h=>aK_ (n:=1) jH_ zad_ (by exact h.2.2.1) a1) zaa_ zaa_) rfl (e_ (bP_ (ad:=(some ⟨a4,0,none⟩)) isAgg228 rfl zf (z_ jH_ a1 0 _ rfl)) rfl (Zz 7 ?_));obtain⟨nr,rfl,hT⟩:=Bx_ (EngB.mk g pb ab ub ob ib rb sb lad lcap (aP_ (uniq [] p))) (EA m hm (EngB.mk g pb ab ub ob ib rb sb lad lcap (aP_ (uniq [] p))) F C d kb fb) (EngA.mk adr (fun _=>(none,0)) (fun _=>(none,0)) (fun _=>(none,0)) (fun _=>(none,0)) (fun _=>(none,0)) (fun _=>(none,0))) (bc_ (uniq [] p)) (Ix.add x (decide (f∈fm)) f) f (rls (bE_ m) idk (bc_ (uniq [] p)) (Ix.add x (decide (f∈fm)) f) f j (q,fm)).1 (rls (bE_ m) idk (bc_ (uniq [] p)) (Ix.add x (decide (f∈fm)) f) f j (q,fm)).2 Hs G S R Q P U T hI_1 hpl hxl_1 hyl_1 (fun hk=>(jW_ hform hk).2.2) (fun _ y hy=>(I y (pm9.1 hy).1).num (.inr (pm9.1 hy).2.1)) hk j a1;exact hR_
   refine Zz 6 ?_;exact kJ_
  refine Zz 9 ?_;exact kJ_
 refine Zz 5 ?_;refine e_ (u_ km_ rfl rfl) rfl (Zz 1 ?_);refine o_ 0 bG_ rfl rfl rfl rfl rfl rfl (Zz 4 ?_);exact cS_ ⟨((Cl.mk [] none 0 [] none 0),(cC_ p)),AO_ zai_⟩ (fun aa v B A=>bM_ (us:=Cl.cells (Cl.mk [] none 0 [] none 0)) 0 hO_ gO_ bG_ rfl rfl rfl rfl aa v B A) g_ (fun v _ h=>by exact⟨.inl rfl,.inl rfl,trivial⟩)
def rx_ (f:Fc):Bool:=decide (f=W_ f.a f.b)
theorem Cb_ (f:Fc):Fn0 prog 117 #[Fc.val f] (.bool (rx_ f)):=by
  refine j_ func117 rfl rfl ntmps117 rfl fun h=>?_;refine Zz 2 ?_;refine K_ rfl rfl fun e=>Zz 5 ?_
  refine D_ 3 [0,1,2,3,4] zk zs (Zz 6 ?_);refine p_ 5 rfl zk (f_ (gb_ f.a f.b) rfl g_ zt rfl fun _=>Zz 3 ?_);refine D_ 0 [6,7] zk zs (gc_ rfl (fo_ (p:=f) (q:=(W_ f.a f.b)) rfl rfl) rfl fun m d=>Zz 5 ?_);exact aa_ results117 () (s_ rfl (by unfold rx_;exact d.symm)) g_ zt
def tO_ (fs:List Fc) (f:Fc):Bool:=fs.any fun x=>(decide (x=f)||decide (x=W_ f.a [33]))||((decide (f=Y_ f.a f.r f.lo f.hi)&&decide (x=Y_ f.a f.r x.lo x.hi))&&(decide (f.lo≤x.lo)&&decide (x.hi≤f.hi)))
def pm_ (f x:Fc):Bool:=(decide (x=f)||decide (x=W_ f.a [33]))||((decide (f=Y_ f.a f.r f.lo f.hi)&&decide (x=Y_ f.a f.r x.lo x.hi))&&(decide (f.lo≤x.lo)&&decide (x.hi≤f.hi)))
theorem any_no {α:Type} {p:α→Bool} {l:List α} {j:Nat} {x:α} (h:∀ y∈l.take j,p y=false) (m:l[j]? = some x) (e:p x=false):∀ y∈l.take (j+1),p y=false:=fun y d=>by
 rw[List.take_add_one,m]at d;simp only[Option.toList_some,List.mem_append,List.mem_singleton]at d;rcases d with d|rfl
 ·exact h y d
 exact e
theorem wE_ {α:Type} {p:α→Bool} {l:List α} {j:Nat} (h:∀ y∈l.take j,p y=false) (e:l.length≤j):false=l.any p:=by
  rw[List.take_of_length_le e]at h
  symm;rw[List.any_eq_false];exact fun y d=>by simp[h y d]
theorem jp_ {α:Type} {p:α→Bool} {l:List α} {x:α} (e:x∈l) (d:p x=true):true=l.any p:=(List.any_eq_true.2 ⟨x,e,d⟩).symm
theorem der_c (c:Cl) (f:Fc) (Y:c.facts.length≤1000000000000):Tri prog 163 #[Cl.val c,Fc.val f] [] [X_ c.fad (c.facts.flatMap Fc.cells)] (fun _:Unit=>.bool (tO_ c.facts f)) (fun _=>[]) (fun _=>[]):=by
 refine j_ func163 rfl rfl ntmps163 rfl fun X=>?_;refine Zz 2 ?_;refine K_ rfl rfl fun N=>K_ rfl rfl fun O=>Zz 7 ?_
 refine f_ (gb_ f.a [33]) rfl g_ zt rfl fun _=>y_ aV_ rfl fun P=>o_ 0 at_ rfl rfl rfl rfl rfl rfl (Zz 4 ?_)
 refine D_ 3 [0,1,2,3,4,5,6,7,8] zk zs (Zz 10 ?_);refine p_ 9 rfl zk (f_ (ou_ f.a f.r f.lo f.hi) rfl g_ zt rfl fun _=>Zz 3 ?_);refine D_ 0 [10,11] zk zs (gc_ rfl (fo_ (p:=f) (q:=(Y_ f.a f.r f.lo f.hi)) rfl rfl) rfl fun V h=>Zz 14 ?_);cases V
 ·replace h:=zdf h
  refine O_ (ι:={y:Nat // y≤List.length c.facts∧∀ z∈List.take y c.facts,pm_ f z=false}) (fun y=>[(2,zp_ N 0),(3,zp_ O 0),(5,zp_ P 0),(6,.bool false),(24,.slice c.fad c.facts.length c.fcap),(25,.int .i64 (List.length c.facts:Int)),(26,.int .i64 (y.1:Int))]) (fun y=>((P,.cells #[.int .i64 (Fc.kind (W_ f.a [33])),str (Fc.a (W_ f.a [33])),str (Fc.b (W_ f.a [33])),str (Fc.r (W_ f.a [33])),.int .i64 (Fc.lo (W_ f.a [33])),.int .i64 (Fc.hi (W_ f.a [33]))] 129 (0,0))::((O,.cells #[.int .i64 f.kind,str f.a,str f.b,str f.r,.int .i64 f.lo,.int .i64 f.hi] 129 (0,0))::((N,.cells #[.slice c.aad c.atoms.length c.acap,.slice c.fad c.facts.length c.fcap] 96 (0,0))::[])))) (fun y=>[X_ c.fad (c.facts.flatMap Fc.cells)]) (fun y=>c.facts.length - y.1) ⟨(0:Nat),by simp,by simp⟩ zl zp zh ?_;rintro ⟨j,W,B⟩;dsimp only at W B ⊢;refine Zi 2 (fun m=>?_) fun m=>?_
  ·refine Zz 12 ?_
   exact aa_ hN_ () (s_ rfl (wE_ B zaa_)) g_ zt
  obtain⟨G,H,I,C⟩:=zge (show j<c.facts.length by omega);refine Zz 12 ?_;refine y_ aV_ rfl fun T=>o_ 0 at_ rfl rfl rfl rfl rfl rfl (Zz 7 ?_)
  refine E_ (fo_ (p:=H) (q:=f) rfl rfl) rfl fun Q d=>Zz 1 ?_
  cases Q
  ·replace d:=zdf d
   refine Zz 5 ?_;refine E_ (fo_ (p:=H) (q:=(W_ f.a [33])) rfl rfl) rfl fun R e=>Zz 3 ?_
   cases R
   ·replace e:=zdf e
    refine Zz 5 ?_;refine D_ 0 [0,1,2,3,4,5,6,7,8,9,10,11,12,13,14,15,16,17,18,19,20,21,22,23,24,25,26,27] zk zs (Zz 39 ?_);exact x_ ⟨j+1,G,any_no B I (by have v:=eq_false h;have x:=eq_true m;have A:=eq_false d;have E:=eq_false e;simp[pm_,v,x,A,E])⟩ zab_ zl (i_ (c_ d_) (i_ (c_ d_) (c_ d_))) zh
   replace e:=zdt e;refine Zz 7 ?_;exact aa_ hN_ () (s_ rfl (jp_ C (by have v:=eq_false h;have x:=eq_true m;have A:=eq_false d;have E:=eq_true e;simp[pm_,v,x,A,E]))) g_ zt
  replace d:=zdt d;refine Zz 13 ?_;exact aa_ hN_ () (s_ rfl (jp_ C (by have v:=eq_false h;have x:=eq_true m;have A:=eq_true d;simp[pm_,v,x,A]))) g_ zt
 replace h:=zdt h;refine O_ (ι:={y:Nat // y≤List.length c.facts∧∀ z∈List.take y c.facts,pm_ f z=false}) (fun y=>[(2,zp_ N 0),(3,zp_ O 0),(5,zp_ P 0),(6,.bool true),(24,.slice c.fad c.facts.length c.fcap),(25,.int .i64 (List.length c.facts:Int)),(26,.int .i64 (y.1:Int))]) (fun y=>((P,.cells #[.int .i64 (Fc.kind (W_ f.a [33])),str (Fc.a (W_ f.a [33])),str (Fc.b (W_ f.a [33])),str (Fc.r (W_ f.a [33])),.int .i64 (Fc.lo (W_ f.a [33])),.int .i64 (Fc.hi (W_ f.a [33]))] 129 (0,0))::((O,.cells #[.int .i64 f.kind,str f.a,str f.b,str f.r,.int .i64 f.lo,.int .i64 f.hi] 129 (0,0))::((N,.cells #[.slice c.aad c.atoms.length c.acap,.slice c.fad c.facts.length c.fcap] 96 (0,0))::[])))) (fun y=>[X_ c.fad (c.facts.flatMap Fc.cells)]) (fun y=>c.facts.length - y.1) ⟨(0:Nat),by simp,by simp⟩ zl zp zh ?_;rintro ⟨j,W,B⟩;dsimp only at W B ⊢;refine Zi 2 (fun m=>?_) fun m=>?_
 ·refine Zz 12 ?_
  exact aa_ hN_ () (s_ rfl (wE_ B zaa_)) g_ zt
 obtain⟨G,H,I,C⟩:=zge (show j<c.facts.length by omega);refine Zz 12 ?_;refine y_ aV_ rfl fun T=>o_ 0 at_ rfl rfl rfl rfl rfl rfl (Zz 7 ?_)
 refine E_ (fo_ (p:=H) (q:=f) rfl rfl) rfl fun Q d=>Zz 1 ?_
 cases Q
 ·replace d:=zdf d
  refine Zz 5 ?_;refine E_ (fo_ (p:=H) (q:=(W_ f.a [33])) rfl rfl) rfl fun R e=>Zz 3 ?_
  cases R
  ·replace e:=zdf e
   refine Zz 5 ?_;refine D_ 17 [0,1,2,3,4,5,6,7,8,9,10] zk zs (Zz 12 ?_);refine p_ 11 rfl zk (ar_ rfl rfl (f_ (ou_ f.a f.r H.lo H.hi) rfl g_ zt rfl fun _=>Zz 3 ?_));refine D_ 13 [12,13,14] zk zs (iS_ rfl rfl rfl (fo_ (p:=H) (q:=(Y_ f.a f.r H.lo H.hi)) rfl rfl) rfl fun U F=>Zz 3 ?_);cases U
   ·replace F:=zdf F
    refine D_ 0 [15,16,17,18,19,20,21,22,23,24,25,26,27] zk zs (Zz 24 ?_);exact x_ ⟨j+1,G,any_no B I (by have v:=eq_true h;have x:=eq_true m;have A:=eq_false d;have E:=eq_false e;have J:=eq_false F;simp[pm_,v,x,A,E,J])⟩ zab_ zl (i_ (c_ d_) (i_ (c_ d_) (c_ d_))) zh
   replace F:=zdt F;refine D_ 6 [15,16,17,18,19,20,21] zk zs (Zi 4 (fun K=>?_) fun K=>?_)
   ·refine Zz 3 ?_
    refine D_ 0 [22,23,24,25,26,27] zk zs (Zz 17 ?_);exact x_ ⟨j+1,G,any_no B I (by have v:=eq_true h;have x:=eq_true m;have A:=eq_false d;have E:=eq_false e;have J:=eq_true F;have M:=eq_false K;simp[pm_,v,x,A,E,J,M])⟩ zab_ zl (i_ (c_ d_) (i_ (c_ d_) (c_ d_))) zh
   refine Zz 3 ?_;refine D_ 0 [22,23,24,25,26,27] zk zs (Zi 4 (fun L=>?_) fun L=>?_)
   ·refine Zz 12 ?_
    exact x_ ⟨j+1,G,any_no B I (by have v:=eq_true h;have x:=eq_true m;have A:=eq_false d;have E:=eq_false e;have J:=eq_true F;have M:=eq_true K;have S:=eq_false L;simp[pm_,v,x,A,E,J,M,S])⟩ zab_ zl (i_ (c_ d_) (i_ (c_ d_) (c_ d_))) zh
   refine Zz 11 ?_;exact aa_ hN_ () (s_ rfl (jp_ C (by have v:=eq_true h;have x:=eq_true m;have A:=eq_false d;have E:=eq_false e;have J:=eq_true F;have M:=eq_true K;have S:=eq_true L;simp[pm_,v,x,A,E,J,M,S]))) g_ zt
  replace e:=zdt e;refine Zz 7 ?_;exact aa_ hN_ () (s_ rfl (jp_ C (by have v:=eq_true h;have x:=eq_true m;have A:=eq_false d;have E:=eq_true e;simp[pm_,v,x,A,E]))) g_ zt
 replace d:=zdt d;refine Zz 13 ?_;exact aa_ hN_ () (s_ rfl (jp_ C (by have v:=eq_true h;have x:=eq_true m;have A:=eq_true d;simp[pm_,v,x,A]))) g_ zt
theorem rZ_ (p:List Pc):[42]∈atS p:=(fI_ p _).2 (.inr (.inl rfl))
theorem nJ_ (p:List Pc):[33]∈atS p:=(fI_ p _).2 (.inr (.inr rfl))
theorem ub_ {p:List Pc} {x:Pc} (d:x∈p) {s:Str} (h:s=x.a∨s=x.b∨s=x.c) (e:s≠[]):s∈atS p:=by
  refine (fI_ p s).2 (.inl ((ej_ p s).2 ?_));refine List.mem_flatMap.2 ⟨x,d,List.mem_filter.2 ⟨?_,by simpa using e⟩⟩;rcases h with rfl|rfl|rfl<;>simp
theorem rY_ {s:Str} (h:bj_ s=true):s≠[]:=fun e=>by subst e;revert h;decide
theorem zm_ {p:Pc} (h:p.valid=true) (x:p.kind=1∨p.kind=2∨p.kind=3∨p.kind=4∨p.kind=9):p.c≠[]:=by
 unfold Pc.valid at h
 split at h
 ·simp at h
 split at h
 ·simp at h
 split at h
 ·simp at h
 simp only[Bool.and_eq_true]at h;obtain⟨⟨⟨⟨_,v⟩,_⟩,_⟩,_⟩:=h
 have m:∀ {b:Bool},bU_ b p.c bj_=true→b=true→p.c≠[]:=fun d e=>by
   subst e;simp[bU_]at d;exact rY_ d
 rcases x with q|q|q|q|q<;>rw[q]at v<;>exact m v zad_
theorem tU_ {p:List Pc} (h:cC_ p=0):∀ x∈p,x.valid=true:=fun x d=>List.all_eq_true.1 (tV_ h).2 x d
theorem eU_.good {p:List Pc} {e:Int} {c:Cl} (h:eU_ p e c 0):cC_ p=0∧0≤e∧e≤1073741824∧c.ok∧c.atoms=atS p∧uh_ p (atS p) (min e 65536).toNat (some c.facts):=by
 unfold eU_ at h
 split at h
 ·rename_i d;exact absurd h.2.symm d
 rename_i d
 split at h
 ·exact absurd h.2 zad_
 rename_i m
 rcases h with h|h
 ·exact⟨by simpa using d,by omega,by omega,h.2⟩
 have:=h.2.1;split at this<;>exact absurd this zad_
theorem eU_.bad {p:List Pc} {m:Int} {c:Cl} {e:Int} (h:eU_ p m c e) (d:e≠0):c=Cl.no:=by
 unfold eU_ at h
 split at h
 ·exact h.1
 split at h
 ·exact h.1
 rcases h with h|h
 ·exact absurd h.1 d
 exact h.1
theorem eU_.ok {p:List Pc} {m:Int} {c:Cl} {e:Int} (h:eU_ p m c e):c.ok:=by
 by_cases d:e=0
 ·subst d;exact h.good.2.2.2.1
 rw[h.bad d];exact Cl.no_ok
theorem eU_.len {p:List Pc} {x:Int} {c:Cl} {e:Int} (h:eU_ p x c e):c.atoms.length≤3*p.length+2∧c.facts.length≤65536:=by
 by_cases v:e=0
 ·subst v
  obtain⟨_,_,_,_,d,m⟩:=h.good;refine⟨by rw[d];exact wD_ p,?_⟩;have:=m.2.2;omega
 rw[h.bad v];simp[Cl.no]
def CK_ (p q:List Pc):Prop:=∀ x∈p,∃ y∈q,∃ n,{ y with frm:=n }=x
theorem wG_ {p:List Pc} {d:Int} {c:Cl} {e:Int} (h:eU_ p d c e) (v:cC_ p=0) (B:0≤d) (A:d≤1073741824):(e=0∧c.atoms=atS p∧uh_ p (atS p) (min d 65536).toNat (some c.facts))∨(c=Cl.no∧e=(if d<65536 then 3 else 2)∧uh_ p (atS p) (min d 65536).toNat none):=by
 unfold eU_ at h;rw[if_neg (by simp[v]),if_neg zaa_]at h;rcases h with⟨m,_,x,y⟩|h
 ·exact .inl ⟨m,x,y⟩
 exact .inr h
theorem CK_.trans {p q r:List Pc} (h:CK_ p q) (k:CK_ q r):CK_ p r:=fun x e=>by
  obtain⟨y,d,n,rfl⟩:=h x e;obtain⟨z,v,m,rfl⟩:=k y d;exact⟨z,v,n,rfl⟩
theorem rh_ {p q:List Pc} (h:∀ x∈p,∃ y∈q,∃ n,{ y with frm:=n }=x):∀ s∈atS p,s∈atS q:=fun s m=>by
 rw[fI_,ej_]at m ⊢;rcases m with d|d
 ·obtain⟨x,B,A⟩:=List.mem_flatMap.1 d
  obtain⟨y,v,n,e⟩:=h x B;subst e;exact .inl (List.mem_flatMap.2 ⟨y,v,A⟩)
 exact .inr d
theorem xH_ {s:Str} (h:bj_ s=true):Pc.valid ⟨1,s,[],[42],[],[],[],0,0,-1⟩=true:=by
  have z:bj_ [42]=true:=by decide
  simp[Pc.valid,nus,gF_,bU_,h,z]
end Go.Proofs.YthmjeabeoodghaaGreatDoor
namespace Go.Vs
open Go Go.Sx Go.Proofs.YthmjeabeoodghaaGreatDoor
def nx_ (p:List Pc) (U:List Bool) (q:List Int) (i:Nat):Prop:=∀ m,m∈q↔∃ (j:Nat) (x:Pc),j<i∧p[j]? = some x∧U[j]? = some true∧x.frm=m
theorem nx_.zero {p:List Pc} {U:List Bool}:nx_ p U [] 0:=fun m=>by simp
theorem nx_.miss {p:List Pc} {U:List Bool} {q:List Int} {i:Nat} (h:nx_ p U q i) (y:U[i]? = some false):nx_ p U q (i+1):=fun m=>by
 rw[h m];constructor
 ·rintro ⟨j,x,v,d⟩;exact⟨j,x,by omega,d⟩
 rintro ⟨j,x,v,d,e,A⟩;refine⟨j,x,?_,d,e,A⟩;rcases Nat.lt_or_ge j i with g|g
 ·exact g
 obtain rfl:j=i:=by omega
 rw[y]at e;simp at e
theorem nx_.hit {p:List Pc} {U:List Bool} {q:List Int} {i:Nat} {x:Pc} (h:nx_ p U q i) (A:p[i]? = some x) (C:U[i]? = some true):nx_ p U (if x.frm∈q then q else q++[x.frm]) (i+1):=fun m=>by
 have e:m∈(if x.frm∈q then q else q++[x.frm])↔m∈q∨m=x.frm:=by
   split
   · rename_i g;constructor
     · exact .inl
     · rintro (z|rfl);exact z;exact g
   · simp
 rw[e,h m];constructor
 ·rintro (⟨j,y,B,d⟩|rfl)
  ·exact⟨j,y,by omega,d⟩
  exact⟨i,x,by omega,A,C,rfl⟩
 rintro ⟨j,y,B,d,E,v⟩;rcases Nat.lt_or_ge j i with g|g
 ·exact .inl ⟨j,y,g,d,E,v⟩
 obtain rfl:j=i:=by omega
 rw[A,Option.some.injEq]at d;subst d;exact .inr v.symm
theorem nx_.done {p:List Pc} {S:List Str} {K:List Thg} {U:List Bool} {q:List Int} {i:Nat} (h:nx_ p U q i) (hi:p.length≤i) (B:ReachR p S K U) (m:Int):m∈q↔∃ x∈p,x.frm=m∧Usb p S x:=by
 rw[h m];constructor
 ·rintro ⟨j,x,G,A,F,y⟩
  obtain⟨b,d,e⟩:=B.use j x A;rw[F,Option.some.injEq]at d;exact⟨x,List.mem_of_getElem? A,y,e.1 d.symm⟩
 rintro ⟨x,C,y,E⟩;obtain⟨j,v⟩:=List.getElem?_of_mem C;obtain⟨b,d,e⟩:=B.use j x v;have:=(List.getElem?_eq_some_iff.1 v).1;refine⟨j,x,by omega,v,?_,y⟩;rw[d,e.2 E]
theorem zH_ {l:List Ax} {p:List Pc} {S:List Str} {i:Nat} {a:Ax} (d:l[i]? = some a) (e:mV_ a):Mat l p S i:=.inl ⟨a,by simpa using d,e⟩
theorem zG_ {l:List Ax} {p:List Pc} {S:List Str} {i:Nat} {q:List Int} (h:∀ m,m∈q↔∃ x∈p,x.frm=m∧Usb p S x) (hi:(i:Int)∈q):Mat l p S i:=.inr ((h i).1 hi)
theorem BT_ {l:List Ax} {p:List Pc} {S:List Str} {i:Nat} {a:Ax} {q:List Int} (h:∀ m,m∈q↔∃ x∈p,x.frm=m∧Usb p S x) (v:l[i]? = some a) (e:¬ mV_ a) (hi:¬ (i:Int)∈q):¬ Mat l p S i:=by
 rintro (⟨b,y,d⟩|A)
 ·have:l[i]? = some b:=by simpa using y
  rw[v,Option.some.injEq]at this;subst this;exact e d
 exact hi ((h i).2 A)
end Go.Vs
namespace Go.Proofs.YthmjeabeoodghaaGreatDoor
open Go Go.Sx Go.Proofs Tryz
attribute [local irreducible] Code.wp wpList wpAnyH
open Go.Vs
theorem qv_ (A:List Ax) (lad:Ao) (lcap:Nat) (p:List Pc) (ad:Ao) (cap:Nat) (S:List Str) (sad:Ao) (h:Nat):Tri prog 60 #[.slice lad A.length lcap,.slice ad p.length cap,.slice sad S.length h] [] [] (fun y:Nat×Nat×Nat=>.func (.func 125) #[] #[zp_ y.1 0,zp_ y.2.1 0,zp_ y.2.2 0]) (fun _=>[]) (fun y=>[bl_ y.1 (.cells #[.slice ad p.length cap] 64 (0,0)),bl_ y.2.1 (.cells #[.slice sad S.length h] 25 (0,0)),bl_ y.2.2 (.cells #[.slice lad A.length lcap] 22 (0,0))]):=by
  refine j_ func60 rfl rfl ntmps60 rfl fun B=>?_;refine Zz 2 ?_;refine K_ rfl rfl fun m=>K_ rfl rfl fun v=>K_ rfl rfl fun x=>Zz 5 ?_
  refine e_ (bm_ rfl rfl) rfl (Zz 4 ?_);refine en_ (bl_ m (.cells #[.slice lad A.length lcap] 22 (0,0))) (bg_ (c_ (c_ d_))) (fun _ d e _=>⟨d,e⟩) ?_;refine en_ (bl_ v (.cells #[.slice ad p.length cap] 64 (0,0))) (bg_ (c_ d_)) (fun _ d e _=>⟨d,e⟩) ?_;refine en_ (bl_ x (.cells #[.slice sad S.length h] 25 (0,0))) (bg_ d_) (fun _ d e _=>⟨d,e⟩) ?_;exact aa_ results60 (v,x,m) rfl g_ zf
theorem mx_ {G:Prop} (h:G:=by
 refine gB_ rfl rfl rfl rfl ?_;refine gB_ rfl rfl rfl rfl ?_;refine gB_ rfl rfl rfl rfl ?_;refine e_ (gw_ rfl rfl) rfl ?_;refine e_ (af_ rfl) rfl ?_;refine aA_ ?_;refine am_ rfl ?_;refine ax_ ?_;exact mA_):G:=h
theorem my_ {G:Prop} (h:G:=by
 rintro ⟨C,I⟩;dsimp only;refine am_ rfl ?_;refine co_ rfl ?_;refine df_ ?_;refine am_ rfl ?_;refine ae_ ?_;refine e_ (aI_ rfl rfl rfl (bv_ zaa_ zaa_)) rfl ?_;refine e_ (S_ rfl) rfl ?_;refine aA_ ?_;refine dm_ rfl ?_;exact x_ ⟨(k+1,C),m,(by rw[tj_ hM,← E];exact I)⟩ zab_ zl zp zh):G:=h
theorem mz_ {G:Prop} (h:G:=by
 refine gD_ aM_ rfl rfl ?_;refine I_ aM_ (S_ rfl) rfl rfl ?_;refine gD_ aM_ rfl rfl ?_;refine I_ aM_ (S_ rfl) rfl rfl ?_;refine gD_ aM_ rfl rfl ?_;refine gC_ (hY s (k:Int) ⟨by rw[E];have:=tk_ (l:=d) (p:=p) (S:=S) k;omega,by omega,by omega⟩) rfl rfl (c_ C_) zf rfl fun z=>?_;refine gD_ aM_ rfl rfl ?_;refine I_ aM_ (aR_ rfl) rfl rfl ?_;refine I_ aM_ (gw_ rfl rfl) rfl rfl ?_;refine bh_ ?_;refine cg_ rfl ?_;exact dB_ z zl zp zh):G:=h
theorem mA_ {G:Prop} (h:G:=by
 have hM:Mat d p S (k:Int):=zH_ G (by unfold mV_;omega);refine hu_ (ι:={C:σ // lst C=lst s++[(k:Int)]}) (fun _=>[(0,.func (.yield lq) #[] #[]),(1,zp_ bp 0),(3,zp_ N 0),(7,.map (some B)),(21,.int .i64 (List.length U:Int)),(22,.int .i64 (i:Int)),(35,.slice lad d.length lcap),(36,.int .i64 (List.length d:Int)),(37,.int .i64 (k:Int)),(66,.bool false)]) (fun z=>((Z,.cells (Ax.cells X).toArray 30 (0,0))::((B,.map F T)::(Y z.1)))) (fun _=>[bl_ bp (.cells #[.slice ad p.length cap] 64 (0,0)),bl_ bs (.cells #[.slice sad S.length A] 25 (0,0)),bl_ N (.cells #[.slice lad d.length lcap] 22 (0,0)),X_ ad (p.flatMap Pc.cells),X_ sad (S.flatMap au_),ch_ lad d,Fx,Fy]) ?_ ?_
 ·refine av_ ?_
  refine I_ aM_ (S_ rfl) rfl rfl ?_;refine I_ aM_ (S_ rfl) rfl rfl ?_;refine rs_ aM_ rfl rfl rfl rfl ?_;refine rs_ aM_ rfl rfl rfl rfl ?_;refine rs_ aM_ rfl rfl rfl rfl ?_;refine I_ aM_ (gw_ rfl rfl) rfl rfl ?_;refine I_ aM_ (S_ rfl) rfl rfl ?_;exact mz_
 exact my_):G:=h
theorem zJ_ {σ:Type} {lq:Nat} {Y:σ→Hp} {lst:σ→List Int} (d:List Ax) (lad:Ao) (lcap:Nat) (p:List Pc) (ad:Ao) (cap:Nat) (S:List Str) (sad:Ao) (A:Nat) (bp bs N:Nat) (Fx Fy:Fct) (hY:∀ s x,((lst s).length<100000000∧0≤x∧x<(List.length d:Int))→jr_ prog lq (.int .i64 x) (Y s) [Fx,Fy] (fun _:{C:σ // lst C=lst s++[x]}=>.bool true) (fun C=>Y C.1) (fun _=>[])) (s0:σ) (hs0:lst s0=[]) (hp:p.length≤100000000) (hS:S.length≤100000000) (hll:d.length≤100000000):Tri prog 125 #[.func (.yield lq) #[] #[],zp_ bp 0,zp_ bs 0,zp_ N 0] (Y s0) [bl_ bp (.cells #[.slice ad p.length cap] 64 (0,0)),bl_ bs (.cells #[.slice sad S.length A] 25 (0,0)),bl_ N (.cells #[.slice lad d.length lcap] 22 (0,0)),X_ ad (p.flatMap Pc.cells),X_ sad (S.flatMap au_),ch_ lad d,Fx,Fy] (fun _:{C:σ // lst C=dt_ d p S d.length}=>.tuple #[]) (fun C=>Y C.1) (fun _=>[]):=by
 refine j_ func125 rfl rfl ntmps125 rfl fun v_1=>?_;refine ax_ ?_;refine ae_ ?_;refine e_ (cr_ isAgg64 rfl zf rfl) rfl ?_;refine e_ (cr_ isAgg25 rfl zf rfl) rfl ?_;refine f_ (BD_ p ad cap S sad A hp hS) rfl g_ zf rfl fun⟨⟨kb,esK,cK,Kq,svU,U,HUq⟩,hEK,hBK,a0,hRR⟩=>?_;dsimp only;dsimp only at hEK hBK a0 hRR;simp only[List.cons_append,List.append_assoc];refine e_ (S_ rfl) rfl ?_;refine e_ (bB_ rfl rfl) rfl ?_;refine e_ (bB_ rfl rfl) rfl ?_;refine e_ (af_ rfl) rfl ?_;refine e_ (af_ rfl) rfl ?_;refine aA_ ?_;refine am_ rfl ?_;refine ax_ ?_;refine ae_ ?_;refine bu_ rfl fun B=>?_;refine e_ (af_ rfl) rfl ?_;refine aA_ ?_;refine am_ rfl ?_;refine ax_ ?_;refine ax_ ?_;refine ae_ ?_;refine e_ (S_ rfl) rfl ?_;refine e_ (cF_ a0 runUnderlying182 rfl) rfl ?_;refine e_ (S_ rfl) rfl ?_;refine aA_ ?_;refine am_ rfl ?_;refine dQ_ ?_;refine O_ (ι:={y:Nat×Array MapEntry×Nat×List Int // y.1≤List.length U∧SetE (fun n:Int=>.int .i64 n) y.2.1 y.2.2.2∧nx_ p U y.2.2.2 y.1}) (fun y=>[(0,.func (.yield lq) #[] #[]),(1,zp_ bp 0),(3,zp_ N 0),(7,.map (some B)),(20,svU),(21,.int .i64 (List.length U:Int)),(22,.int .i64 (y.1.1:Int))]) (fun y=>((B,.map y.1.2.1 y.1.2.2.1)::(HUq++(Y s0)))) (fun y=>[bl_ bp (.cells #[.slice ad p.length cap] 64 (0,0)),bl_ bs (.cells #[.slice sad S.length A] 25 (0,0)),bl_ N (.cells #[.slice lad d.length lcap] 22 (0,0)),X_ ad (p.flatMap Pc.cells),X_ sad (S.flatMap au_),ch_ lad d,Fx,Fy]) (fun y=>U.length - y.1.1) ⟨((0:Nat),#[],0,([]:List Int)),by simp,SetE.nil,nx_.zero⟩ zl zp zh ?_;rintro ⟨⟨i,F,T,q⟩,hi_i,H,hq⟩;dsimp only at hi_i H hq ⊢;refine ax_ ?_;refine ae_ ?_;refine E_ (cD_ rfl rfl) rfl fun r_1 L=>?_;refine aA_ ?_;refine am_ rfl ?_;refine ax_ ?_;cases r_1
 ·replace L:=zdf L
  refine co_ rfl ?_;refine iX_ rfl ?_;refine am_ rfl ?_;refine ax_ ?_;refine ae_ ?_;refine e_ (cr_ np_ rfl zf rfl) rfl ?_;refine e_ (ed_ aU_ rfl) rfl ?_;refine e_ (S_ rfl) rfl ?_;refine aA_ ?_;refine am_ rfl ?_;refine dQ_ ?_;have hqd:=hq.done (S:=S) (by rw[← hRR.ul];omega) hRR;refine O_ (ι:={y:Nat×σ // y.1≤List.length d∧lst y.2=dt_ d p S y.1}) (fun y=>[(0,.func (.yield lq) #[] #[]),(1,zp_ bp 0),(3,zp_ N 0),(7,.map (some B)),(21,.int .i64 (List.length U:Int)),(22,.int .i64 (i:Int)),(35,.slice lad d.length lcap),(36,.int .i64 (List.length d:Int)),(37,.int .i64 (y.1.1:Int))]) (fun y=>((B,.map F T)::(Y y.1.2))) (fun y=>[bl_ bp (.cells #[.slice ad p.length cap] 64 (0,0)),bl_ bs (.cells #[.slice sad S.length A] 25 (0,0)),bl_ N (.cells #[.slice lad d.length lcap] 22 (0,0)),X_ ad (p.flatMap Pc.cells),X_ sad (S.flatMap au_),ch_ lad d,Fx,Fy]) (fun y=>d.length - y.1.1) ⟨((0:Nat),s0),by simp,(by rw[qw_];exact hs0)⟩ zl zp zh ?_;rintro ⟨⟨k,s⟩,hi_k,E⟩;dsimp only at hi_k E ⊢;refine ax_ ?_;refine ae_ ?_;refine E_ (cD_ rfl rfl) rfl fun r_2 R=>?_;refine aA_ ?_;refine am_ rfl ?_;refine ax_ ?_;cases r_2
  ·replace R:=zdf R
   refine co_ rfl ?_;refine iX_ rfl ?_;refine rL_ rfl ?_;exact ck_ results125 ⟨s,by rw[show d.length=k by omega];exact E⟩ rfl C_ zt
  replace R:=zdt R;have m:k<d.length:=by omega
  obtain⟨X,G⟩:∃ W,d[k]? = some W:=⟨_,List.getElem?_eq_getElem m⟩;refine bw_ rfl ?_;refine df_ ?_;refine am_ rfl ?_;refine ax_ ?_;refine dQ_ ?_;refine ax_ ?_;refine ae_ ?_;refine e_ (S_ rfl) rfl ?_;refine e_ (U_ aU_ H_ rfl rfl (fun v _ h=>aK_ (n:=16) Ax.cells_len zad_ (by exact h.2.2.2.2.2.1.1) G) zaa_ zah_) rfl ?_;refine e_ (al_ (ad:=lad) (us:=Ax.cells X) bq_ H_ rfl (fun v _ h=>by exact h.2.2.2.2.2.1.1) (Ax.cells_len _) (z_ Ax.cells_len G)) rfl ?_;refine y_ aG_ rfl fun Z=>?_;refine e_ (af_ rfl) rfl ?_;refine o_ 0 H_ rfl rfl rfl rfl rfl rfl ?_;refine aA_ ?_;refine am_ rfl ?_;refine ax_ ?_;refine ae_ ?_;refine e_ (cf_ gz_ rfl rfl rfl P_) rfl ?_;refine e_ (bd_ 0 aF_ rfl rfl rfl) rfl ?_;refine E_ (aT_ rfl rfl) rfl fun r_3 M=>?_;refine e_ (S_ rfl) rfl ?_;cases r_3
  ·replace M:=znb M
   refine ar_ rfl rfl ?_;refine e_ (cf_ gz_ rfl rfl rfl P_) rfl ?_;refine ar_ rfl rfl ?_;refine e_ (bd_ 0 aF_ rfl rfl rfl) rfl ?_;refine ar_ rfl rfl ?_;refine E_ (aT_ rfl rfl) rfl fun r_4 P=>?_;refine e_ (fm_ rfl rfl) rfl ?_;refine e_ (S_ rfl) rfl ?_;cases r_4
   ·replace P:=znb P
    refine ar_ rfl rfl ?_;refine e_ (cf_ gz_ rfl rfl rfl P_) rfl ?_;refine ar_ rfl rfl ?_;refine e_ (bd_ 0 aF_ rfl rfl rfl) rfl ?_;refine ar_ rfl rfl ?_;refine E_ (aT_ rfl rfl) rfl fun r_5 K=>?_;refine e_ (fm_ rfl rfl) rfl ?_;refine e_ (af_ rfl) rfl ?_;refine aA_ ?_;refine am_ rfl ?_;refine ax_ ?_;cases r_5
    ·replace K:=znb K
     by_cases Q:(k:Int)∈q
     ·have hM:Mat d p S (k:Int):=zG_ hqd Q
      refine hu_ (ι:={C:σ // lst C=lst s++[(k:Int)]}) (fun _=>[(0,.func (.yield lq) #[] #[]),(1,zp_ bp 0),(3,zp_ N 0),(7,.map (some B)),(21,.int .i64 (List.length U:Int)),(22,.int .i64 (i:Int)),(35,.slice lad d.length lcap),(36,.int .i64 (List.length d:Int)),(37,.int .i64 (k:Int)),(66,.bool false)]) (fun z=>((Z,.cells (Ax.cells X).toArray 30 (0,0))::((B,.map F T)::(Y z.1)))) (fun _=>[bl_ bp (.cells #[.slice ad p.length cap] 64 (0,0)),bl_ bs (.cells #[.slice sad S.length A] 25 (0,0)),bl_ N (.cells #[.slice lad d.length lcap] 22 (0,0)),X_ ad (p.flatMap Pc.cells),X_ sad (S.flatMap au_),ch_ lad d,Fx,Fy]) ?_ ?_
      ·refine av_ ?_
       refine I_ aM_ (S_ rfl) rfl rfl ?_;refine I_ aM_ (S_ rfl) rfl rfl ?_;refine gD_ aM_ rfl rfl ?_;refine I_ aM_ (S_ rfl) rfl rfl ?_;refine gD_ aM_ rfl rfl ?_;refine I_ aM_ (S_ rfl) rfl rfl ?_;refine gD_ aM_ rfl rfl ?_;refine qr_ aM_ (ec_ (k:=(k:Int)) uY_ runUnderlying185 bR_ rfl rfl H (fun v h _=>(h.own _ (List.mem_of_getElem? (i:=1) rfl)).1)) rfl rfl fun r_6 e=>?_;refine I_ aM_ (fm_ rfl rfl) rfl rfl ?_;refine I_ aM_ (S_ rfl) rfl rfl ?_;cases r_6
       ·replace e:=zdf e
        exact absurd Q e
       replace e:=zdt e;exact mz_
      exact my_
     have hM:¬ Mat d p S (k:Int):=BT_ hqd G (by unfold mV_;omega) Q;refine ae_ ?_;refine e_ (S_ rfl) rfl ?_;refine e_ (S_ rfl) rfl ?_;refine ar_ rfl rfl ?_;refine e_ (S_ rfl) rfl ?_;refine ar_ rfl rfl ?_;refine e_ (S_ rfl) rfl ?_;refine ar_ rfl rfl ?_;refine E_ (ec_ (k:=(k:Int)) uY_ runUnderlying185 bR_ rfl rfl H (fun v h _=>(h.own _ (List.mem_of_getElem? (i:=1) rfl)).1)) rfl fun r_6 e=>?_;refine e_ (fm_ rfl rfl) rfl ?_;refine e_ (S_ rfl) rfl ?_;cases r_6
     ·replace e:=zdf e
      refine gB_ rfl rfl rfl rfl ?_;refine gB_ rfl rfl rfl rfl ?_;refine gB_ rfl rfl rfl rfl ?_;refine gB_ rfl rfl rfl rfl ?_;refine e_ (fm_ rfl rfl) rfl ?_;refine aA_ ?_;refine am_ rfl ?_;refine co_ rfl ?_;refine df_ ?_;refine am_ rfl ?_;refine ae_ ?_;refine e_ (aI_ rfl rfl rfl (bv_ zaa_ zaa_)) rfl ?_;refine e_ (S_ rfl) rfl ?_;refine aA_ ?_;refine dm_ rfl ?_;exact x_ ⟨(k+1,s),m,(by rw[wd_ hM];exact E)⟩ zab_ zl (i_ (c_ d_) C_) zh
     replace e:=zdt e;exact absurd e Q
    replace K:=zeb K;exact mA_
   replace P:=zeb P;exact mx_
  replace M:=zeb M;refine gB_ rfl rfl rfl rfl ?_;refine gB_ rfl rfl rfl rfl ?_;refine gB_ rfl rfl rfl rfl ?_;refine e_ (gw_ rfl rfl) rfl ?_;refine e_ (S_ rfl) rfl ?_;exact mx_
 replace L:=zdt L;have J:i<U.length:=by omega
 obtain⟨w_1,O⟩:∃ W,U[i]? = some W:=⟨_,List.getElem?_eq_getElem J⟩;have hmw_1:w_1∈U:=List.mem_of_getElem? O;have hlx_1:i<p.length:=by have:=hRR.ul;omega
 obtain⟨x_1,V⟩:∃ W,p[i]? = some W:=⟨_,List.getElem?_eq_getElem hlx_1⟩;refine bw_ rfl ?_;refine df_ ?_;refine am_ rfl ?_;refine ax_ ?_;refine dQ_ ?_;refine ax_ ?_;refine ae_ ?_;refine e_ (S_ rfl) rfl ?_;refine e_ (bI_ a0 runUnderlying182 cv_ rfl rfl zaa_ zaa_) rfl ?_;refine e_ (dn_ a0 zp zZ_ rfl (z_ qZ_ O 0 _ rfl)) rfl ?_;refine e_ (af_ rfl) rfl ?_;refine e_ (af_ rfl) rfl ?_;refine aA_ ?_;refine am_ rfl ?_;refine ax_ ?_;refine ae_ ?_;refine e_ (S_ rfl) rfl ?_;refine aA_ ?_;refine am_ rfl ?_;cases w_1
 ·refine co_ rfl ?_
  refine df_ ?_;refine am_ rfl ?_;refine ae_ ?_;refine e_ (aI_ rfl rfl rfl (bv_ zaa_ zaa_)) rfl ?_;refine e_ (S_ rfl) rfl ?_;refine aA_ ?_;refine dm_ rfl ?_;exact x_ ⟨(i+1,F,T,q),J,H,hq.miss O⟩ zab_ zl zp zh
 refine bw_ rfl ?_;refine ae_ ?_;refine e_ (S_ rfl) rfl ?_;refine e_ (cr_ isAgg64 rfl zf rfl) rfl ?_;refine e_ (S_ rfl) rfl ?_;refine e_ (U_ F_ L_ rfl rfl (fun v _ h=>aK_ (n:=10) Pc.cells_len zad_ (by exact h.2.2.2.1) V) zaa_ zah_) rfl ?_;refine e_ (nW_ runUnderlying76 rfl rfl rfl P_) rfl ?_;refine e_ (bP_ (ad:=ad) aF_ rfl zf (z_ Pc.cells_len V 9 _ rfl)) rfl ?_;refine kX_ (k:=x_1.frm) 0 uY_ (.inr rfl) runUnderlying185 rfl rfl rfl rfl H fun ej_1 cj_1 hj_1=>?_;refine aA_ ?_;refine am_ rfl ?_;refine ae_ ?_;refine e_ (aI_ rfl rfl rfl (bv_ zaa_ zaa_)) rfl ?_;refine e_ (S_ rfl) rfl ?_;refine aA_ ?_;refine dm_ rfl ?_;exact x_ ⟨(i+1,ej_1,cj_1,(if x_1.frm∈q then q else q++[x_1.frm])),J,hj_1,hq.hit V O⟩ zab_ zl zp zh
theorem vV_ {c d e:Nat×Obj} {Q:Hp}:(c::(Q++[d,e])).Perm (e::c::(Q++[d])):=by
  have h:(c::(Q++[d,e]))=(c::(Q++[d]))++[e]:=by simp
  rw[h];exact List.perm_append_comm
theorem CP_ {c d:Nat×Obj} {Q:Hp}:(c::(Q++[d])).Perm (Q++[c,d]):=by
  have e:Q++[c,d]=(Q++[c])++[d]:=by simp
  rw[e];exact List.Perm.append_right _ (show ([c]++Q).Perm _ from List.perm_append_comm)
theorem uH_ {H A B C G:Hp} {b:Nat×Obj} (h:H.Perm ((b::(A++(B++C)))++G)):H.Perm ((b::A)++B++(C++G)):=by simpa [List.append_assoc] using h
def fs_ (S:List Str):Bool:=decide (S.length≤16384)&&S.all bj_
def ks_ (l:List Ax) (p:List Pc) (er:Int) (S:List Str):List Int×Int:=if er≠0 then ([],er) else if fs_ S=false then ([],1) else (dt_ l p S l.length,0)
theorem ys_ (A:List Ax) (lad:Ao) (lcap:Nat) (p:List Pc) (ad:Ao) (cap:Nat) (S:List Str) (sad:Ao) (d:Nat) (bp bs I:Nat) (hp:p.length≤100000000) (hS:S.length≤100000000) (Y:A.length≤100000000):Tri prog 124 #[.slice none 0 0,.func (.func 125) #[] #[zp_ bp 0,zp_ bs 0,zp_ I 0]] [] [bl_ bp (.cells #[.slice ad p.length cap] 64 (0,0)),bl_ bs (.cells #[.slice sad S.length d] 25 (0,0)),bl_ I (.cells #[.slice lad A.length lcap] 22 (0,0)),X_ ad (p.flatMap Pc.cells),X_ sad (S.flatMap au_),ch_ lad A] (fun y:{y:Value×Hp×List Int // az_ 3 1 y.1 y.2.2.length (y.2.2.flatMap cY_) y.2.1∧y.2.2=(dt_ A p S A.length)}=>y.1.1) (fun y=>y.1.2.1) (fun _=>[]):=by
 refine em_ func124 rfl rfl ntmps124 rfl fun M=>?_;refine Zz 2 ?_;refine K_ rfl rfl fun m=>Zz 10 ?_
 refine bt_ [(2,zp_ m 0),(6,.func (.func 125) #[] #[zp_ bp 0,zp_ bs 0,zp_ I 0])] zl ?_;refine iW_ [bl_ bp (.cells #[.slice ad p.length cap] 64 (0,0)),bl_ bs (.cells #[.slice sad S.length d] 25 (0,0))] (σ:={y:Value×Hp×List Int // az_ 3 1 y.1 y.2.2.length (y.2.2.flatMap cY_) y.2.1}) (α:=Int) (xv:=fun x=>.int .i64 x) (good:=fun s x=>s.1.2.2.length<100000000∧0≤x∧x<(List.length A:Int)) (nx:=fun x s X=>X.1.2.2=s.1.2.2++[x]) (Rc:=fun s=>s.1.2.2=(dt_ A p S A.length)) (Γi:=[bl_ bp (.cells #[.slice ad p.length cap] 64 (0,0)),bl_ bs (.cells #[.slice sad S.length d] 25 (0,0)),bl_ I (.cells #[.slice lad A.length lcap] 22 (0,0)),X_ ad (p.flatMap Pc.cells),X_ sad (S.flatMap au_),ch_ lad A,bl_ bp (.cells #[.slice ad p.length cap] 64 (0,0)),bl_ bs (.cells #[.slice sad S.length d] 25 (0,0))]) (Hj:=fun y=>(m,.cells #[y.1.1] 58 (0,0))::y.1.2.1) (Hc:=[]) (caps:=[zp_ bp 0,zp_ bs 0,zp_ I 0]) ⟨(.slice none 0 0,[],[]),az_.nil _ _⟩ rfl (.refl _) zf ?_ ?_ ?_
 ·rintro l D rec U W Q ht O C ⟨⟨sv,E,L⟩,H⟩ x ⟨P,Z,hx_3⟩
  dsimp only at H P ⊢;refine iL_ (ι:=Unit) (Hj:=fun y:{y:Value×Hp×List Int // az_ 3 1 y.1 y.2.2.length (y.2.2.flatMap cY_) y.2.1}=>(m,.cells #[y.1.1] 58 (0,0))::y.1.2.1) (s:=⟨(sv,E,L),H⟩) (ok:=fun X=>X.1.2.2=L++[x]) (Γ:=[bl_ bp (.cells #[.slice ad p.length cap] 64 (0,0)),bl_ bs (.cells #[.slice sad S.length d] 25 (0,0))]) (fun _=>[(2,zp_ m 0),(5,.int .i64 x)]) (fun _=>(m,.cells #[sv] 58 (0,0))::E) U W Q ht rfl ?_ ?_
  ·intro n M R T
   rw[O];dsimp only;refine dA_.2 (A_ (H':=(m,.cells #[sv] 58 (0,0))::(E++T)) zaf_ (dA_.1 ?_));refine av_ ?_;refine I_ (J_ _) (af_ rfl) rfl rfl ?_;refine bh_ ?_;refine cg_ rfl ?_;exact dB_ () zl (F:=[]) zaA_ zh
  intro n M R T _;rw[C];refine dA_.2 (A_ (H':=(m,.cells #[sv] 58 (0,0))::(E++T)) zaf_ (dA_.1 ?_));refine dp_ ?_;refine av_ ?_;refine I_ (J_ _) (bd_ 0 isAgg58 rfl rfl rfl) rfl rfl ?_;refine I_ (J_ _) (S_ rfl) rfl rfl ?_;refine qs_ (J_ _) ap_ P_ bA_ rfl rfl rfl rfl rfl rfl fun b_2=>?_;refine na_ (J_ _) (news:=List.flatMap cY_ [x]) nH_ H rfl rfl zp rfl (bz_ 0 rfl) (fun u hu=>bn_ lk_ hu) zan_ zaa_ rfl fun J N K=>?_;have B:=zsa K;refine fP_ (R_ (l_ d_) (bg_ (l_ d_))) ?_;refine jV_ (J_ _) 1 B sizeOf58 rfl rfl rfl rfl ?_;refine bh_ ?_;refine cg_ rfl ?_;exact ko_ ⟨(J,N,(L++[x])),B⟩ rfl (uH_ (i_ (c_ d_) (B_ (c_ w_) (B_ C_ d_))))
 ·intro l Gj hY
  exact zJ_ (lst:=fun y=>y.1.2.2) A lad lcap p ad cap S sad d bp bs I (bl_ bp (.cells #[.slice ad p.length cap] 64 (0,0))) (bl_ bs (.cells #[.slice sad S.length d] 25 (0,0))) (fun s x h=>hY s x h) ⟨(.slice none 0 0,[],[]),az_.nil _ _⟩ rfl hp hS Y
 rintro ⟨⟨sv,E,L⟩,H⟩ hL D l r;dsimp only at hL H ⊢;refine bF_ rfl ?_;refine cw_ ?_;refine av_ ?_;refine I_ aM_ (bd_ 0 isAgg58 rfl rfl rfl) rfl rfl ?_;refine I_ aM_ (af_ rfl) rfl rfl ?_;refine bh_ ?_;refine bF_ rfl ?_;refine hv_ ?_;exact sL_ (G:=(m,.cells #[sv] 58 (0,0))::(E++[(l,.loop r)])) ⟨(sv,E,L),H,hL⟩ (fun a v V h_2=>by have e:=V.val 4 sv rfl;simp[results,results124,e]) zbm_ ⟨_,CP_⟩ rfl
theorem vq_ (d:List Ax) (lad:Ao) (lcap:Nat) (p:List Pc) (ad:Ao) (cap:Nat) (S:List Str) (sad:Ao) (A:Nat) (bp bs F:Nat) (L:p.length≤100000000) (hS:S.length≤100000000) (G:d.length≤100000000):Tri prog 59 #[.func (.func 125) #[] #[zp_ bp 0,zp_ bs 0,zp_ F 0]] [] [bl_ bp (.cells #[.slice ad p.length cap] 64 (0,0)),bl_ bs (.cells #[.slice sad S.length A] 25 (0,0)),bl_ F (.cells #[.slice lad d.length lcap] 22 (0,0)),X_ ad (p.flatMap Pc.cells),X_ sad (S.flatMap au_),ch_ lad d] (fun y:{y:Ao×Nat // ((dt_ d p S d.length)).length≤y.2∧y.2≤maxLen∧(y.1=none→y.2=0)}=>.slice y.1.1 ((dt_ d p S d.length)).length y.1.2) (fun _=>[]) (fun y=>[X_ y.1.1 (((dt_ d p S d.length)).flatMap cY_)]):=by
  refine j_ func59 rfl rfl ntmps59 rfl fun J=>?_;refine Zz 8 ?_;refine f_ (ys_ d lad lcap p ad cap S sad A bp bs F L hS G) rfl g_ zf rfl fun⟨⟨H,I,K⟩,x,v⟩=>?_;dsimp only;dsimp only at x v ⊢;subst v;simp only[List.append_nil];refine Zz 4 ?_;refine bL_ x aj_ fun C E B h m e=>?_;exact aa_ results59 ⟨(C,E),h,m,e⟩ (ea_ rfl B) g_ zf
theorem mu_ {G:Prop} (h:G:=by
 refine f_ (dG_ _ zaq_) rfl g_ zt rfl fun _=>?_;refine E_ (ao_ (aT_ rfl rfl) (congrArg Value.bool (sW_ _))) rfl fun m y=>Zz 4 ?_
 exact dc_):G:=h
theorem mv_ {G:Prop} (h:G:=by
 refine f_ (dG_ _ zaq_) rfl g_ zt rfl fun _=>?_;refine E_ (ao_ (aT_ rfl rfl) (congrArg Value.bool (sW_ _))) rfl fun m d=>Zz 4 ?_
 exact dc_):G:=h
theorem mw_ {G:Prop} (h:G:=by
 refine f_ (dG_ _ zaq_) rfl g_ zt rfl fun _=>?_;refine E_ (ao_ (aT_ rfl rfl) (congrArg Value.bool (sW_ _))) rfl fun m h=>Zz 4 ?_
 exact dc_):G:=h
theorem dc_ {G:Prop} (h:G:=by
 exact aa_ results63 () (s_ rfl zaQ_) (.refl _) zt):G:=h
theorem ss_ (s:Str) (M:s.length≤17592186044414):Fn0 prog 63 #[str s] (.bool (bj_ s)):=by
 refine j_ func63 rfl rfl ntmps63 rfl fun L=>?_;refine Zz 8 ?_;refine e_ (cB_ N_ rfl) rfl (Zi 8 (fun C=>?_) fun C=>?_)
 ·refine Zi 4 (fun F=>?_) fun F=>?_
  ·refine Zi 8 (fun E=>?_) fun E=>?_
   ·refine Zi 19 (fun x=>?_) fun x=>?_
    ·refine Zz 21 ?_
     refine f_ (dG_ _ zaq_) rfl g_ zt rfl fun _=>?_;refine E_ (ao_ (aT_ rfl rfl) (congrArg Value.bool (sW_ _))) rfl fun m v=>Zz 4 ?_
     exact dc_
    exfalso;omega
   obtain⟨c,A⟩:∃ c,s[0]? = some c:=⟨_,List.getElem?_eq_getElem zaa_⟩;obtain⟨e,B⟩:∃ e,s[s.length - 1]? = some e:=⟨_,List.getElem?_eq_getElem zaa_⟩
   have G:(s[0]? = some 123)↔((c.toNat:Int)=123):=by
     rw[A];simp only[Option.some.injEq];exact⟨fun q=>by subst q;rfl,fun q=>UInt8.toNat_inj.1 (by show c.toNat=123;omega)⟩
   have J:(s[s.length - 1]? = some 125)↔((e.toNat:Int)=125):=by
     rw[B];simp only[Option.some.injEq];exact⟨fun q=>by subst q;rfl,fun q=>UInt8.toNat_inj.1 (by show e.toNat=125;omega)⟩
   have K:(s[0]? = some 60)↔((c.toNat:Int)=60):=by
     rw[A];simp only[Option.some.injEq];exact⟨fun q=>by subst q;rfl,fun q=>UInt8.toNat_inj.1 (by show c.toNat=60;omega)⟩
   have H:(s[s.length - 1]? = some 62)↔((e.toNat:Int)=62):=by
     rw[B];simp only[Option.some.injEq];exact⟨fun q=>by subst q;rfl,fun q=>UInt8.toNat_inj.1 (by show e.toNat=62;omega)⟩
   refine Zz 4 ?_;refine e_ (cm_ N_ rfl rfl zad_ A) rfl (ar_ rfl rfl ?_);refine Zi 0 (fun x=>?_) fun x=>?_
   ·refine Zi 15 (fun v=>?_) fun v=>?_
    ·refine Zz 21 ?_
     exact mw_
    refine Zz 4 ?_;refine e_ (cm_ N_ rfl rfl zad_ A) rfl (ar_ rfl rfl ?_);refine Zi 0 (fun h=>?_) fun h=>?_
    ·refine Zz 17 ?_
     exact mv_
    refine Zz 9 ?_;refine e_ (cm_ N_ rfl rfl zaa_ (show s[((s.length:Int) - 1).toNat]? = some e by rw[show ((s.length:Int) - 1).toNat=s.length - 1 by omega];exact B)) rfl ?_;refine ar_ rfl rfl ?_;refine Zi 0 (fun d=>?_) fun d=>?_
    ·refine Zz 10 ?_
     exact mu_
    refine Zz 11 ?_;exact dc_
   refine Zz 9 ?_;refine e_ (cm_ N_ rfl rfl zaa_ (show s[((s.length:Int) - 1).toNat]? = some e by rw[show ((s.length:Int) - 1).toNat=s.length - 1 by omega];exact B)) rfl ?_;refine ar_ rfl rfl ?_;refine Zi 0 (fun v=>?_) fun v=>?_
   ·refine Zi 8 (fun h=>?_) fun h=>?_
    ·refine Zz 21 ?_
     exact mv_
    refine Zz 4 ?_;refine e_ (cm_ N_ rfl rfl zad_ A) rfl (ar_ rfl rfl ?_);refine Zi 0 (fun d=>?_) fun d=>?_
    ·refine Zz 17 ?_
     exact mu_
    refine Zz 9 ?_;refine e_ (cm_ N_ rfl rfl zaa_ (show s[((s.length:Int) - 1).toNat]? = some e by rw[show ((s.length:Int) - 1).toNat=s.length - 1 by omega];exact B)) rfl ?_;refine ar_ rfl rfl ?_;refine Zi 0 (fun y=>?_) fun y=>?_
    ·refine Zz 10 ?_
     refine f_ (dG_ _ zaq_) rfl g_ zt rfl fun _=>?_;refine E_ (ao_ (aT_ rfl rfl) (congrArg Value.bool (sW_ _))) rfl fun m I=>Zz 4 ?_
     exact dc_
    refine Zz 11 ?_;exact dc_
   refine Zz 10 ?_;refine e_ (eI_ (i:=1) (j:=s.length - 1) (kl:=.i64) (kh:=.i64) N_ rfl rfl (show _=some (Value.int .i64 ((s.length - 1:Nat):Int)) by rw[show ((s.length - 1:Nat):Int)=(s.length:Int) - 1 by omega];rfl) zaa_ zaa_) rfl ?_;exact mw_
  refine Zz 11 ?_;exact dc_
 refine Zz 14 ?_;exact dc_
theorem Bb_ (S:List Str) (sad:Ao) (h:Nat) (F:∀ s∈S,s.length≤100000):Tri prog 31 #[.slice sad S.length h] [] [X_ sad (S.flatMap au_)] (fun _:Unit=>.bool (fs_ S)) (fun _=>[]) (fun _=>[]):=by
 refine j_ func31 rfl rfl ntmps31 rfl fun I=>?_;refine Zi 10 (fun B=>?_) fun B=>?_
 ·refine Zz 14 ?_
  refine O_ (ι:={y:Nat // y≤List.length S∧pD_ S y (fun _ s=>bj_ s=true)}) (fun y=>[(2,.bool false),(8,.slice sad S.length h),(9,.int .i64 (List.length S:Int)),(10,.int .i64 (y.1:Int))]) (fun y=>([])) (fun y=>[X_ sad (S.flatMap au_)]) (fun y=>S.length - y.1) ⟨(0:Nat),by simp,pD_.zero⟩ zl g_ zh ?_;rintro ⟨i,C,x⟩;dsimp only at C x ⊢;refine Zi 2 (fun E=>?_) fun E=>?_
  ·refine Zz 12 ?_
   exact aa_ results31 () (s_ rfl (by unfold fs_;rw[List.all_eq_true.2 (x.all zaa_)];simp;omega)) g_ zt
  have e:i<S.length:=by omega
  obtain⟨A,m⟩:∃ G,S[i]? = some G:=⟨_,List.getElem?_eq_getElem e⟩;have d:A∈S:=List.mem_of_getElem? m;refine Zz 18 ?_;refine an_ (ss_ A (by have:=F _ d;omega)) rfl g_ zt rfl fun H v=>?_;refine e_ (aR_ rfl) rfl (Zz 2 ?_);cases H
  ·refine Zz 7 ?_
   exact aa_ results31 () (s_ rfl (by unfold fs_;symm;rw[Bool.and_eq_false_iff];right;rw[List.all_eq_false];exact⟨A,d,by simpa using v⟩)) g_ zt
  refine Zz 8 ?_;exact x_ ⟨i+1,e,x.step m v⟩ zab_ zl g_ zh
 refine Zz 9 ?_;exact aa_ results31 () (s_ rfl (by unfold fs_;symm;rw[Bool.and_eq_false_iff];left;rw[decide_eq_false_iff_not];omega)) g_ zt
end Go.Proofs.YthmjeabeoodghaaGreatDoor
namespace Go.Vs
open Go Go.Sx Go.Proofs.YthmjeabeoodghaaGreatDoor
theorem vL_:∀ {l m:List Str},SrS l→SrS m→(∀ x,x∈l↔x∈m)→l=m
 | [],[],_,_,_=>rfl
 | [],y::m,_,_,h=>absurd ((h y).2 List.mem_cons_self) zaf_
 | x::l,[],_,_,h=>absurd ((h x).1 List.mem_cons_self) zaf_
 | x::l,y::m,h1,h2,h=>by
   unfold SrS at h1 h2;rw[List.pairwise_cons]at h1 h2
   have e:x=y:=by
     rcases List.mem_cons.1 ((h x).1 List.mem_cons_self) with e|e
     · exact e
     · rcases List.mem_cons.1 ((h y).2 List.mem_cons_self) with v|v
       · exact v.symm
       · exact absurd (List.lt_trans (h2.1 x e) (h1.1 y v)) (on_ _)
   subst e;rw[vL_ h1.2 h2.2 fun z=>?_];constructor
   · intro d
     rcases List.mem_cons.1 ((h z).1 (List.mem_cons_of_mem _ d)) with e|e
     · subst e;exact absurd (h1.1 _ d) (on_ _)
     · exact e
   · intro d
     rcases List.mem_cons.1 ((h z).2 (List.mem_cons_of_mem _ d)) with e|e
     · subst e;exact absurd (h2.1 _ d) (on_ _)
     · exact e
abbrev bJ_ (l:List Str):List Str:=l.mergeSort fun x y=>decide (x≤y)
inductive Tre where
  | mk (con:Con) (size:Int) (ad:Ao) (cap:Nat) (parts:List Tre)
namespace Tre
def con:Tre→Con|mk c _ _ _ _=>c
def size:Tre→Int|mk _ n _ _ _=>n
def ad:Tre→Ao|mk _ _ a _ _=>a
def cap:Tre→Nat|mk _ _ _ c _=>c
def parts:Tre→List Tre|mk _ _ _ _ p=>p
def cells (t:Tre):List Value:=t.con.cells++[.int .i64 t.size,.slice t.ad t.parts.length t.cap]
def val (t:Tre):Value:=.agg t.cells.toArray
theorem cells_len (t:Tre):t.cells.length=7:=rfl
theorem cells_one (t:Tre):t.cells.all Value.oneCell'=true:=by simp[cells,Con.cells,Value.oneCell',str]
def tz:Tre→Nat
  | mk _ _ _ _ ps=>1+tzs ps
where tzs:List Tre→Nat
  | []=>0
  | p::ps=>tz p+tzs ps
theorem tz_pos (t:Tre):0<t.tz:=by cases t;simp[tz];omega
theorem yH_ {p:Tre}:∀ {ps:List Tre},p∈ps→p.tz≤tz.tzs ps
 | q::ps,h=>by
   rcases List.mem_cons.1 h with rfl|h
   · simp[tz.tzs]
   · have:=yH_ h;simp[tz.tzs];omega
theorem tz_part {t p:Tre} (h:p∈t.parts):p.tz<t.tz:=by
  cases t with
  | mk c n a cp ps=>have:=yH_ (ps:=ps) h;simp only[tz];omega
def mem:Tre→Vw→Prop
  | mk c _ a _ ps,v=>c.mem v∧bY_ v a (ps.flatMap cells)∧mems ps v
where mems:List Tre→Vw→Prop
  | [],_=>True
  | p::ps,v=>mem p v∧mems ps v
theorem mems_iff {v:Vw}:∀ {ps:List Tre},mem.mems ps v↔∀ p∈ps,p.mem v
  | []=>by simp[mem.mems]
  | p::ps=>by simp[mem.mems,mems_iff (ps:=ps)]
theorem mem_iff (t:Tre) (v:Vw):t.mem v↔t.con.mem v∧bY_ v t.ad (t.parts.flatMap cells)∧∀ p∈t.parts,p.mem v:=by
  cases t with
  | mk c n a cp ps=>simp only[mem,mems_iff,con,ad,parts]
theorem mem_mono:∀ (n:Nat) (t:Tre),t.tz≤n→∀ v d,v.le d→t.mem v→t.mem d
  | 0,t,h=>by have:=t.tz_pos;omega
  | n+1,t,h=>fun v d hl hm=>by
    rw[mem_iff]at hm ⊢;exact⟨t.con.memF.mono v d hl hm.1,(X_ t.ad (t.parts.flatMap cells)).mono v d hl hm.2.1,fun p e=>mem_mono n p (by have:=tz_part e;omega) v d hl (hm.2.2 p e)⟩
def memF (t:Tre):Fct:=⟨t.mem,mem_mono t.tz t (Nat.le_refl _)⟩
def wf:Tre→Prop
  | mk c n _ _ ps=>n=(c.sz:Int)∧c.parts=cons ps∧wfs ps
where
  wfs:List Tre→Prop
  | []=>True
  | p::ps=>wf p∧wfs ps
  cons:List Tre→List Con
  | []=>[]
  | p::ps=>p.con::cons ps
theorem tR_:∀ ps:List Tre,wf.cons ps=ps.map con
  | []=>rfl
  | p::ps=>by rw[wf.cons,tR_ ps];rfl
theorem vG_:∀ {ps:List Tre},wf.wfs ps↔∀ p∈ps,p.wf
  | []=>by simp[wf.wfs]
  | p::ps=>by simp[wf.wfs,vG_ (ps:=ps)]
theorem wf_iff (t:Tre):t.wf↔t.size=(t.con.sz:Int)∧t.con.parts=t.parts.map con∧∀ p∈t.parts,p.wf:=by
  cases t with
  | mk c n a cp ps=>simp only[wf,vG_,tR_,con,size,parts]
theorem wf_part {t p:Tre} (h:t.wf) (d:p∈t.parts):p.wf∧p.con.sz<t.con.sz:=by
  obtain⟨_,e,m⟩:=(wf_iff t).1 h;exact⟨m p d,Con.sz_part (by rw[e];exact List.mem_map_of_mem d)⟩
end Tre
def cN_ (l:List Tre):Fct:=⟨fun v=>∀ t∈l,t.mem v,fun v v' hl h t ht=>t.memF.mono v v' hl (h t ht)⟩
theorem kl_ {l:List Tre} {t:Tre} {v:Vw} (h:(cN_ l).p v) (e:t.memF.p v):(cN_ (l++[t])).p v:=fun x d=>by
 rcases List.mem_append.1 d with d|d
 ·exact h x d
 rw[List.mem_singleton]at d;subst d;exact e
theorem szs_step {l:List Con} {i:Nat} {x:Con} (h:l[i]? = some x):Con.sz.szs (l.take (i+1))=Con.sz.szs (l.take i)+x.sz:=by
  have d:∀ (a b:List Con),Con.sz.szs (a++b)=Con.sz.szs a+Con.sz.szs b:=fun a b=>by
    induction a with
    | nil=>simp[Con.sz.szs]
    | cons c a ih=>simp[Con.sz.szs,ih];omega
  rw[List.take_add_one,h,Option.toList_some,d];simp[Con.sz.szs]
theorem szs_take_le {l:List Con} (i:Nat):Con.sz.szs (l.take i)≤Con.sz.szs l:=by
  induction l generalizing i with
  | nil=>simp
  | cons c l ih =>
    cases i with
    | zero=>simp[Con.sz.szs]
    | succ i=>have:=ih i;simp[Con.sz.szs];omega
theorem szs_len:∀ l:List Con,l.length≤Con.sz.szs l
  | []=>Nat.le_refl _
  | c::l=>by have:=szs_len l;have:=c.sz_pos;simp only[List.length_cons,Con.sz.szs];omega
theorem Con.parts_lt (c:Con):c.parts.length<c.sz:=by have:=szs_len c.parts;rw[Con.sz_eq];omega
theorem wt_ {a b:List Con} {i:Nat} {x y:Con} (A:a[i]? = some x) (e:b[i]? = some y):Con.cmp.cmps (a.drop i) (b.drop i)=if Con.cmp x y=0 then Con.cmp.cmps (a.drop (i+1)) (b.drop (i+1)) else Con.cmp x y:=by
  obtain⟨h,d⟩:=List.getElem?_eq_some_iff.1 A;obtain⟨v,m⟩:=List.getElem?_eq_some_iff.1 e;rw[List.drop_eq_getElem_cons h,List.drop_eq_getElem_cons v,Con.cmp.cmps,d,m]
theorem yh_ {a b:List Con} {i:Nat} (d:i<a.length) (e:b.length≤i):Con.cmp.cmps (a.drop i) (b.drop i)=1:=by
  rw[List.drop_eq_getElem_cons d,List.drop_of_length_le e,Con.cmp.cmps]
theorem vr_ {a b:List Con} {i:Nat} (d:a.length≤i) (e:i<b.length):Con.cmp.cmps (a.drop i) (b.drop i)=-1:=by
  rw[List.drop_eq_getElem_cons e,List.drop_of_length_le d,Con.cmp.cmps]
theorem Ax_ {a b:List Con} {i:Nat} (d:a.length≤i) (e:b.length≤i):Con.cmp.cmps (a.drop i) (b.drop i)=0:=by
  rw[List.drop_of_length_le d,List.drop_of_length_le e,Con.cmp.cmps]
theorem wu_ {a b:List Str} {i:Nat} {x y:Str} (A:a[i]? = some x) (e:b[i]? = some y):dJ_ (a.drop i) (b.drop i)=if Lib.compareBytes x y=0 then dJ_ (a.drop (i+1)) (b.drop (i+1)) else Lib.compareBytes x y:=by
  obtain⟨h,d⟩:=List.getElem?_eq_some_iff.1 A;obtain⟨v,m⟩:=List.getElem?_eq_some_iff.1 e;rw[List.drop_eq_getElem_cons h,List.drop_eq_getElem_cons v,dJ_,d,m]
theorem yk_ {a b:List Str} {i:Nat} (d:i<a.length) (e:b.length≤i):dJ_ (a.drop i) (b.drop i)=1:=by
  rw[List.drop_eq_getElem_cons d,List.drop_of_length_le e,dJ_]
theorem vs_ {a b:List Str} {i:Nat} (d:a.length≤i) (e:i<b.length):dJ_ (a.drop i) (b.drop i)=-1:=by
  rw[List.drop_eq_getElem_cons e,List.drop_of_length_le d,dJ_]
theorem Ay_ {a b:List Str} {i:Nat} (d:a.length≤i) (e:b.length≤i):dJ_ (a.drop i) (b.drop i)=0:=by
  rw[List.drop_of_length_le d,List.drop_of_length_le e,dJ_]
def wgL:List Con→Int
  | []=>0
  | c::l=>(if c.kind=0 then 0 else (c.sz:Int))+wgL l
def wgS:List Str→Int
  | []=>0
  | s::l=>(if s=[] then 0 else 1)+wgS l
theorem AY_ (a b:List Con):wgL (a++b)=wgL a+wgL b:=by
  induction a with
  | nil=>simp[wgL]
  | cons c a ih=>simp only[List.cons_append,wgL,ih];omega
theorem AX_ (a b:List Str):wgS (a++b)=wgS a+wgS b:=by
  induction a with
  | nil=>simp[wgS]
  | cons c a ih=>simp only[List.cons_append,wgS,ih];omega
theorem sp_ {l:List Con} {i:Nat} {x:Con} (h:l[i]? = some x):wgL (l.take (i+1))=wgL (l.take i)+(if x.kind=0 then 0 else (x.sz:Int)):=by
  rw[List.take_add_one,h,AY_];simp[wgL]
theorem so_ {l:List Str} {i:Nat} {x:Str} (h:l[i]? = some x):wgS (l.take (i+1))=wgS (l.take i)+(if x=[] then 0 else 1):=by
  rw[List.take_add_one,h,AX_];simp[wgS]
theorem wgL_bd {l:List Con} (h:∀ c∈l,c.sz≤1000000):0≤wgL l∧wgL l≤1000000*l.length:=by
  induction l with
  | nil=>simp[wgL]
  | cons c l ih =>
    have m:=h c zaf_;have v:=ih fun d e=>h d zbZ_
    simp only[wgL,List.length_cons]
    split<;>omega
theorem wgS_bd (l:List Str):0≤wgS l∧wgS l≤l.length:=by
  induction l with
  | nil=>simp[wgS]
  | cons c l ih=>simp only[wgS,List.length_cons];split<;>omega
theorem Ax.wgt_eq (x:Ax):x.wgt=wgL [x.left,x.right]+(x.roles.length:Int)+wgS [x.role,x.a,x.b]:=by
  unfold Ax.wgt;simp only[wgL,wgS];omega
theorem tZ_ {x:Ax} {v:Vw} (h:x.memF.p v) {c:Con} (d:c∈[x.left,x.right]):c.memF.p v:=by
 simp only[List.mem_cons,List.not_mem_nil,or_false]at d;rcases d with rfl|rfl
 ·exact h.1
 exact h.2.1
theorem jl_ {x:Ax} (d:x.ok) (h:x.left.sz≤1000000) (m:x.right.sz≤1000000) {c:Con} (e:c∈[x.left,x.right]):c.ok∧c.sz≤1000000:=by
 simp only[List.mem_cons,List.not_mem_nil,or_false]at e;rcases e with rfl|rfl
 ·exact⟨d.left,h⟩
 exact⟨d.right,m⟩
theorem qT_ (c d:Con):Con.cmp c d=if orF [Lib.compareInt (c.sz:Int) (d.sz:Int),Lib.compareInt c.kind d.kind,Lib.compareBytes c.name d.name,Lib.compareInt c.lo d.lo,Lib.compareInt c.hi d.hi]=0 then Con.cmp.cmps c.parts d.parts else orF [Lib.compareInt (c.sz:Int) (d.sz:Int),Lib.compareInt c.kind d.kind,Lib.compareBytes c.name d.name,Lib.compareInt c.lo d.lo,Lib.compareInt c.hi d.hi]:=by
  rw[Con.cmp_eq];simp only[orF]
  (repeat' split)<;>first|rfl|omega|(simp_all;done)
namespace Con
theorem core_parts (c:Con):c.core.parts=c.parts.map core:=by rw[core_eq];rfl
mutual
theorem qO_:∀ c:Con,c.core.core=c.core
  | mk k n l h a cp ps=>by rw[core,core,pn_ ps]
theorem pn_:∀ ps:List Con,core.cores (core.cores ps)=core.cores ps
  | []=>rfl
  | p::ps=>by rw[core.cores,core.cores,qO_ p,pn_ ps]
end
theorem sB_ (c:Con):c.core.sz=c.sz:=sz_core _ _ (qO_ c)
mutual
theorem pq_:∀ a b:Con,cmp a.core b.core=cmp a b
  | mk k n l h a cp ps,mk k' n' l' h' a' cp' ps'=>by
    rw[cmp_eq,cmp_eq,sB_,sB_];simp only[core,kind,name,lo,hi,parts];rw[qR_ ps ps']
theorem qR_:∀ a b:List Con,cmp.cmps (core.cores a) (core.cores b)=cmp.cmps a b
  | [],[]=>rfl
  | [],_::_=>rfl
  | _::_,[]=>rfl
  | x::xs,y::ys=>by rw[core.cores,core.cores,cmp.cmps,cmp.cmps,pq_ x y,qR_ xs ys]
end
theorem cmp_of {a a' b b':Con} (d:a.core=a'.core) (e:b.core=b'.core):cmp a b=cmp a' b':=by rw[← pq_ a b,← pq_ a' b',d,e]
theorem cmp_lt {x y z:Con} (h:cmp x y<0) (d:cmp y z<0):cmp x z<0:=by
  have:=cmp_tr x y z;unfold Tr3 at this;omega
def SrC (l:List Con):Prop:=l.Pairwise fun a b=>cmp a b<0
theorem SrC.ext:∀ {l m:List Con},SrC l→SrC m→(∀ z,z∈l.map Con.core↔z∈m.map Con.core)→l.map Con.core=m.map Con.core
 | [],[],_,_,_=>rfl
 | [],y::m,_,_,h=>by have:=(h y.core).2 zaf_;simp at this
 | x::l,[],_,_,h=>by have:=(h x.core).1 zaf_;simp at this
 | x::l,y::m,h1,h2,h=>by
   unfold SrC at h1 h2;rw[List.pairwise_cons]at h1 h2;have E:∀ z∈l,cmp x z<0:=h1.1;have F:∀ z∈m,cmp y z<0:=h2.1
   have e:x.core=y.core:=by
     have v:=(h x.core).1 zaf_;have A:=(h y.core).2 zaf_;rw[List.map_cons,List.mem_cons]at v A;rcases v with v|v
     · exact v
     · rcases A with A|A
       · exact A.symm
       · obtain⟨z,d,B⟩:=List.mem_map.1 v
         obtain⟨t,C,G⟩:=List.mem_map.1 A;have J:cmp y x<0:=by rw[cmp_of (a':=y) (b':=z) rfl B.symm];exact F z d
         have I:cmp x y<0:=by rw[cmp_of (a':=x) (b':=t) rfl G.symm];exact E t C
         have:=cmp_anti x y;omega
   have H:=SrC.ext (l:=l) (m:=m) h1.2 h2.2 (fun z=>by
     constructor
     · intro d
       have:=(h z).1 zbX_;rw[List.map_cons,List.mem_cons]at this;rcases this with g|g
       · obtain⟨t,C,B⟩:=List.mem_map.1 d
         have q:=E t C;rw[(cmp_zero x t).2 (by rw[B,g,e])]at q;omega
       · exact g
     · intro d
       have:=(h z).2 zbX_;rw[List.map_cons,List.mem_cons]at this;rcases this with g|g
       · obtain⟨t,C,B⟩:=List.mem_map.1 d
         have q:=F t C;rw[(cmp_zero y t).2 (by rw[B,g,e])]at q;omega
       · exact g)
   rw[List.map_cons,List.map_cons,e,H]
def gP_ (c:Con):List Con→List Con
  | []=>[c]
  | d::l=>if cmp c d<0 then c::d::l else if cmp c d=0 then d::l else d::gP_ c l
def srtC (l:List Con):List Con:=l.foldl (fun s c=>gP_ c s) []
theorem oZ_ {c:Con}:∀ {l:List Con} {z:Con},z∈gP_ c l→z=c∨z∈l
 | [],z,h=>by simp[gP_]at h;exact .inl h
 | d::l,z,h=>by
   simp only[gP_]at h
   split at h
   · simpa using h
   · split at h
     · exact .inr h
     · rcases List.mem_cons.1 h with rfl|h
       · simp
       · exact (oZ_ h).imp id (List.mem_cons_of_mem _)
theorem tx_ {c:Con}:∀ {l:List Con} {z:Con},z∈l→z∈gP_ c l
 | d::l,z,h=>by
   simp only[gP_]
   split
   · exact List.mem_cons_of_mem _ h
   · split
     · exact h
     · rcases List.mem_cons.1 h with rfl|h
       · simp
       · exact List.mem_cons_of_mem _ (tx_ h)
theorem ty_ {c:Con}:∀ {l:List Con},∃ z∈gP_ c l,z.core=c.core
 | []=>⟨c,by simp[gP_],rfl⟩
 | d::l=>by
   simp only[gP_]
   split
   · exact⟨c,by simp,rfl⟩
   · split
     · rename_i h;exact⟨d,by simp,((cmp_zero c d).1 h).symm⟩
     · obtain⟨z,m,e⟩:=ty_ (c:=c) (l:=l)
       exact⟨z,List.mem_cons_of_mem _ m,e⟩
theorem tw_ {c:Con}:∀ {l:List Con},SrC l→SrC (gP_ c l)
 | [],_=>by simp[SrC,gP_]
 | d::l,h=>by
   unfold SrC at h;rw[List.pairwise_cons]at h;simp only[gP_]
   split
   · rename_i m
     unfold SrC;rw[List.pairwise_cons,List.pairwise_cons];refine⟨fun z e=>?_,h⟩;rcases List.mem_cons.1 e with rfl|e
     · exact m
     · exact cmp_lt m (h.1 z e)
   · split
     · unfold SrC;rw[List.pairwise_cons];exact h
     · rename_i m v
       unfold SrC;rw[List.pairwise_cons];refine⟨fun z e=>?_,tw_ (l:=l) h.2⟩;rcases oZ_ e with rfl|e
       · have:=cmp_anti d z;omega
       · exact h.1 z e
theorem kS_:∀ (l s:List Con),SrC s→SrC (l.foldl (fun s c=>gP_ c s) s)∧(∀ z∈l.foldl (fun s c=>gP_ c s) s,z∈s∨z∈l)∧(∀ z,z∈s∨z∈l→∃ t∈l.foldl (fun s c=>gP_ c s) s,t.core=z.core)
 | [],s,h=>⟨h,fun z d=>.inl d,fun z d=>⟨z,d.elim id (fun q=>by simp at q),rfl⟩⟩
 | x::l,s,h=>by
   obtain⟨v,B,m⟩:=kS_ l (gP_ x s) (tw_ h);refine⟨v,fun z d=>?_,fun z d=>?_⟩
   · rcases B z d with q|q
     · exact (oZ_ q).elim (fun e=>.inr zbZ_) .inl
     · exact .inr (List.mem_cons_of_mem _ q)
   · rcases d with d|d
     · exact m z (.inl (tx_ d))
     · rcases List.mem_cons.1 d with rfl|d
       · obtain⟨t,A,e⟩:=ty_ (c:=z) (l:=s)
         obtain⟨u,C,y⟩:=m t (.inl A);exact⟨u,C,y.trans e⟩
       · exact m z (.inr d)
theorem yV_ (l:List Con):SrC (srtC l):=(kS_ l [] List.Pairwise.nil).1
theorem yU_ {l:List Con} {z:Con} (h:z∈srtC l):z∈l:=((kS_ l [] List.Pairwise.nil).2.1 z h).elim (fun q=>by simp at q) id
theorem yW_ (l:List Con) (z:Con):z∈(srtC l).map core↔z∈l.map core:=by
 constructor
 ·intro h
  obtain⟨t,d,rfl⟩:=List.mem_map.1 h;exact List.mem_map_of_mem (yU_ d)
 intro h;obtain⟨t,d,rfl⟩:=List.mem_map.1 h;obtain⟨u,m,e⟩:=(kS_ l [] List.Pairwise.nil).2.2 t (.inr d);exact List.mem_map.2 ⟨u,m,e⟩
theorem srtC_uniq {l m:List Con} (h:SrC m) (hm:∀ z,z∈m.map core↔z∈l.map core):m.map core=(srtC l).map core:=SrC.ext h (yV_ l) fun z=>(hm z).trans (yW_ l z).symm
def flat1 (c:Con):List Con:=if c.kind=1 then [] else if c.kind=5 then c.parts else [c]
def zeroC:Con:=mk 0 [] 0 0 none 0 []
def meetF (s:List Con):Con×Int :=
  match s.find? fun c=>decide (c.kind=2) with
  | some b=>(b,0)
  | none =>
    match s with
    | []=>(mk 1 [] 0 0 none 0 [],0)
    | [x]=>(x,0)
    | _=>if 8<s.length then (zeroC,2) else (mk 5 [] 0 0 none 0 s,0)
def erF:List (Con×Int)→Int
  | []=>0
  | z::l=>if z.2≠0 then z.2 else erF l
def tdy:Con→Con×Int
  | mk k n lo hi a cp ps =>
    if k=6 then (match tdys ps with
      | z::_=>if z.2≠0∨z.1.kind=2 then z else (mk 6 n 0 0 none 0 [z.1],0)
      | []=>(zeroC,0))
    else if k=5 then (if erF (tdys ps)≠0 then (zeroC,erF (tdys ps)) else meetF (srtC ((tdys ps).flatMap fun z=>flat1 z.1)))
    else (mk k n lo hi a cp ps,0)
where tdys:List Con→List (Con×Int)
  | []=>[]
  | p::ps=>tdy p::tdys ps
theorem tdys_map:∀ ps:List Con,tdy.tdys ps=ps.map tdy
  | []=>rfl
  | p::ps=>by rw[tdy.tdys,tdys_map ps];rfl
theorem uq_ (c : Con) : c.tdy = if c.kind = 6 then (match c.parts.map tdy with
      | z::_=>if z.2≠0∨z.1.kind=2 then z else (mk 6 c.name 0 0 none 0 [z.1],0)
      | []=>(zeroC,0))
    else if c.kind=5 then (if erF (c.parts.map tdy)≠0 then (zeroC,erF (c.parts.map tdy)) else meetF (srtC ((c.parts.map tdy).flatMap fun z=>flat1 z.1)))
    else (c,0):=by
  cases c;rw[tdy,tdys_map];rfl
theorem tdy_some {c p:Con} (d:c.kind=6) (e:c.parts=[p]):c.tdy=if p.tdy.2≠0∨p.tdy.1.kind=2 then p.tdy else (mk 6 c.name 0 0 none 0 [p.tdy.1],0):=by
  rw[uq_,if_pos d,e];rfl
theorem tdy_and {c:Con} (d:c.kind=5):c.tdy=if erF (c.parts.map tdy)≠0 then (zeroC,erF (c.parts.map tdy)) else meetF (srtC ((c.parts.map tdy).flatMap fun z=>flat1 z.1)):=by
  rw[uq_,if_neg zaa_,if_pos d]
theorem tdy_self {c:Con} (d:c.kind≠5) (e:c.kind≠6):c.tdy=(c,0):=by rw[uq_,if_neg e,if_neg d]
theorem wi_ (c:Con):∀ l:List Con,sz.szs (gP_ c l)≤c.sz+sz.szs l
 | []=>by simp[gP_,sz.szs]
 | d::l=>by
   simp only[gP_]
   split
   · simp[sz.szs]
   · split
     · simp only[sz.szs];omega
     · have:=wi_ c l;simp only[sz.szs];omega
theorem vI_:∀ xs ys:List Con,sz.szs (xs++ys)=sz.szs xs+sz.szs ys
  | [],ys=>by simp[sz.szs]
  | x::xs,ys=>by rw[List.cons_append,sz.szs,sz.szs,vI_ xs ys];omega
theorem Bs_ (l:List Con):sz.szs (srtC l)≤sz.szs l:=by
  have d:∀ (l s:List Con),sz.szs (l.foldl (fun s c=>gP_ c s) s)≤sz.szs s+sz.szs l:=by
    intro l
    induction l with
    | nil=>intro s;simp[sz.szs]
    | cons x l ih =>
      intro s;have e:=ih (gP_ x s);have h:=wi_ x s;rw[List.foldl_cons,sz.szs];omega
  have:=d l [];simp only[sz.szs]at this;unfold srtC;omega
theorem Ai_ (c:Con):sz.szs (flat1 c)≤c.sz:=by
 unfold flat1
 split
 ·simp[sz.szs]
 split
 ·rw[sz_eq];omega
 simp[sz.szs]
theorem zF_ {s:List Con} (h:(meetF s).2=0):(meetF s).1.sz≤1+sz.szs s:=by
 unfold meetF at h ⊢
 split
 ·rename_i b d
  have:=sz_mem (List.mem_of_find?_eq_some d);dsimp only;omega
 rename_i d
 rw[d]at h;dsimp only at h
 split
 ·simp[sz,sz.szs]
 ·simp[sz.szs]
 split
 ·rename_i e;simp[sz,sz.szs,zeroC]
 simp only[sz];omega
theorem nS_:zeroC.sz=1:=rfl
mutual
theorem tdy_sz:∀ c:Con,c.tdy.1.sz≤c.sz
  | mk k n lo hi a cp ps=>by
    have x:=tdys_sz ps;rw[tdy]
    split
    · cases ps with
      | nil=>rw[tdy.tdys];dsimp only;rw[nS_];simp[sz]
      | cons p ps =>
        rw[tdy.tdys];dsimp only;have m:=tdy_sz p
        split
        · simp only[sz,sz.szs];omega
        · simp only[sz,sz.szs];omega
    · split
      · split
        · dsimp only;rw[nS_];simp[sz]
        · have m:=Bs_ ((tdy.tdys ps).flatMap fun z=>flat1 z.1)
          by_cases d:(meetF (srtC ((tdy.tdys ps).flatMap fun z=>flat1 z.1))).2=0
          · have:=zF_ d
            simp only[sz];omega
          · have:(meetF (srtC ((tdy.tdys ps).flatMap fun z=>flat1 z.1))).1=zeroC:=by
              unfold meetF at d ⊢
              split
              · rename_i b h;rw[h]at d;simp at d
              · rename_i h
                rw[h]at d;dsimp only at d ⊢
                split
                · rename_i e;rw[e]at d;simp at d
                · rename_i e;rw[e]at d;simp at d
                · split
                  · rfl
                  · rename_i v;rw[if_neg v]at d;simp at d
            rw[this,nS_];simp[sz]
      · exact Nat.le_refl _
theorem tdys_sz:∀ ps:List Con,sz.szs ((tdy.tdys ps).flatMap fun z=>flat1 z.1)≤sz.szs ps
  | []=>by simp[tdy.tdys,sz.szs]
  | p::ps=>by
    rw[tdy.tdys,List.flatMap_cons,vI_];have m:=tdy_sz p;have d:=tdys_sz ps;have v:=Ai_ (tdy p).1;simp only[sz.szs];omega
end
end Con
def Ax.tdyE (x:Ax):Int :=
  if x.check≠0 then x.check
  else if (us x.kind).left=true∧x.left.tdy.2≠0 then x.left.tdy.2
  else if (us x.kind).right=true∧x.right.tdy.2≠0 then x.right.tdy.2
  else 0
def Ax.tdyL (x:Ax):Con:=if (us x.kind).left=true then x.left.tdy.1 else x.left
def Ax.tdyR (x:Ax):Con:=if (us x.kind).right=true then x.right.tdy.1 else x.right
def Ax.swp (x:Ax):Prop:=(x.kind=2∨x.kind=3)∧0<Con.cmp x.tdyL x.tdyR
instance (x:Ax):Decidable x.swp:=by unfold Ax.swp;infer_instance
structure TdyOf (x y:Ax):Prop where
  kind:y.kind=x.kind
  opn:y.opn=x.opn
  roles:y.roles=x.roles
  role:y.role=x.role
  a:y.a=x.a
  b:y.b=x.b
  left:y.left.core=if x.swp then x.tdyR.core else x.tdyL.core
  right:y.right.core=if x.swp then x.tdyL.core else x.tdyR.core
end Go.Vs
namespace Go.Proofs.YthmjeabeoodghaaGreatDoor
open Go Go.Sx Go.Proofs Tryz
attribute [local irreducible] Code.wp wpList wpAnyH
open Go.Vs
theorem zt_ (l:List Ax) (ad:Ao) (cap:Nat) (d:l.length≤cap∧cap≤2199023255488) (m:∀ x∈l,x.ok) {p:List Pc} {er:Int} (e:aL_ l=(p,er)) :
    Tri prog 58 #[.slice ad l.length cap] [] [ch_ ad l,bN_] (fun y:{y:Ao×Nat // p.length≤y.2∧y.2≤maxLen∧(y.1=none→y.2=0)}=>.tuple #[.slice y.1.1 p.length y.1.2,.int .i64 er]) (fun _=>[]) (fun y=>[X_ y.1.1 (p.flatMap Pc.cells)]):=by
  have h:=zu_ l ad cap d m;generalize aL_ l=g at h e
  subst e;exact h
theorem xk_ {l:List Ax} {p:List Pc} {er:Int} {S:List Str} (h:er≠0):ks_ l p er S=([],er):=if_pos h
theorem uz_ {l:List Ax} {p:List Pc} {er:Int} {S:List Str} (h:¬ er≠0) (d:fs_ S=false):ks_ l p er S=([],1):=by unfold ks_;rw[if_neg h,if_pos d]
theorem xj_ {l:List Ax} {p:List Pc} {er:Int} {S:List Str} (h:¬ er≠0) (d:fs_ S=true):ks_ l p er S=(dt_ l p S l.length,0):=by unfold ks_;rw[if_neg h,if_neg (by rw[d];simp)]
theorem wn_ {er:Int} (h:er=0):¬ er≠0:=fun q=>q h
theorem mt_ {G:Prop} (h:G:=by
 obtain⟨rfl,rfl⟩:=Prod.mk.inj A;exact fO_ results26 ⟨(none,0),by simp[maxLen]⟩ rfl rfl rfl g_ (fun v _ h=>by exact⟨.inl rfl,trivial⟩)):G:=h
theorem wJ_ (B:List Ax) (lad:Ao) (lcap:Nat) (H:B.length≤lcap∧lcap≤2199023255488) (M:∀ x∈B,x.ok) (U:B.length≤100000000) (S:List Str) (sad:Ao) (m:Nat) (hS:S.length≤100000000) (K:∀ s∈S,s.length≤100000) (p:List Pc) (er:Int) (T:aL_ B=(p,er)) (X:p.length≤100000000) (R:List Int) (e:Int) (N:ks_ B p er S=(R,e)):Tri prog 26 #[.slice lad B.length lcap,.slice sad S.length m] [] [ch_ lad B,bN_,X_ sad (S.flatMap au_)] (fun y:{y:Ao×Nat // R.length≤y.2∧y.2≤maxLen∧(y.1=none→y.2=0)}=>.tuple #[.slice y.1.1 R.length y.1.2,.int .i64 e]) (fun _=>[]) (fun y=>[X_ y.1.1 (R.flatMap cY_)]):=by
 refine j_ func26 rfl rfl ntmps26 rfl fun V=>?_;refine Zz 9 ?_;refine f_ (zt_ B lad lcap H M T) rfl g_ zf rfl fun⟨⟨ad,cap⟩,Q,J,L⟩=>?_;dsimp only;refine Zi 11 (fun d=>?_) fun d=>?_
 ·refine Zz 9 ?_
  refine an_ (Bb_ S sad m K) rfl g_ zf rfl fun P C=>e_ (aR_ rfl) rfl (Zz 2 ?_)
  cases P
  ·refine Zz 8 ?_
   have A:=N.symm.trans (uz_ (wn_ d) C);exact mt_
  refine Zz 8 ?_;refine f_ (qv_ B lad lcap p ad cap S sad m) rfl g_ zt rfl fun⟨bp,bs,W⟩=>?_;dsimp only;refine f_ (vq_ B lad lcap p ad cap S sad m bp bs W X hS U) rfl g_ zf rfl fun⟨⟨O,E⟩,F,G,I⟩=>?_;dsimp only;refine Zz 5 ?_;have A:=N.symm.trans (xj_ (wn_ d) C);obtain⟨rfl,rfl⟩:=Prod.mk.inj A;exact fO_ results26 ⟨(O,E),⟨F,G,I⟩⟩ rfl rfl rfl g_ zf
 refine Zz 11 ?_;have A:=N.symm.trans (xk_ d);exact mt_
theorem om_:gQ_ prog 24 [(0,1)] [.slice none 0 0]:=⟨_,ke_,kU_,fun w=>by simp[ht_]⟩
theorem elt_ax:Elt prog 22 30 16 216:=hh_ underlying22 (z:=.agg #[.int .i64 0,.bool false,.int .i64 0,str [],.int .i64 0,.int .i64 0,.slice none 0 0,.int .i64 0,str [],.int .i64 0,.int .i64 0,.slice none 0 0,.slice none 0 0,str [],str [],str []]) zac_ rfl zad_
theorem Ax.cells_one (x:Ax):x.cells.all Value.oneCell'=true:=by simp[Ax.cells,Con.cells,Value.oneCell',str]
theorem ms_ {G:Prop} (h:G:=by
 refine aA_ ?_;refine dm_ rfl ?_;refine Q_ (fun _ a b=>⟨Vw.sat.sub (a.perm (c_ (c_ bi_))),b⟩) ?_;refine p_ 7 rfl zk ?_;refine aO_ (news:=List.flatMap Ax.cells [K]) elt_ax M rfl rfl zp rfl (bz_ 0 rfl) (fun u Z=>bn_ Ax.cells_one Z) zam_ zao_ rfl fun H J I=>?_;have A:=zsa I;refine aA_ ?_;refine dm_ rfl ?_;refine Q_ zs ?_;refine D_ 1 [8] zk zs ?_;refine T_ rfl (cf_ kU_ rfl rfl rfl ht_) rfl ?_;refine bV_ ?_;refine p_ 9 rfl zk ?_;refine A_ (R_ (l_ d_) (bg_ (l_ d_))) ?_;refine cq_ 1 A ht_ rfl rfl rfl rfl ?_;refine aA_ ?_;refine dm_ rfl ?_;refine Q_ (fun _ a b=>⟨Vw.sat.sub (a.perm (c_ (c_ bi_))),b⟩) ?_;refine pA_ zk ?_;refine rL_ rfl ?_;exact dA_.1 (ko_ ⟨(H,J,L++[x]),by rw[kw_ e];exact A,by rw[kw_ e,List.length_append,List.length_append,E];rfl⟩ rfl (uH_ (i_ (c_ d_) (B_ (c_ w_) (B_ C_ d_)))))):G:=h
theorem zw_ (d:List Ax) (lad:Ao) (lcap:Nat) (p:List Pc) (ad:Ao) (cap:Nat) (S:List Str) (sad:Ao) (C:Nat) (hp:p.length≤100000000) (hS:S.length≤100000000) (hll:d.length≤100000000):Tri prog 32 #[.slice lad d.length lcap,.slice ad p.length cap,.slice sad S.length C] [] [X_ ad (p.flatMap Pc.cells),X_ sad (S.flatMap au_),ch_ lad d] (fun y:{y:Value×Hp×List Int // az_ 30 16 y.1 (cE_ d y.2.2).length ((cE_ d y.2.2).flatMap Ax.cells) y.2.1∧y.2.2=(dt_ d p S d.length)}=>.agg #[y.1.1]) (fun y=>y.1.2.1) (fun _=>[]):=by
 refine em_ func32 rfl rfl ntmps32 rfl fun R=>?_;refine ax_ ?_;refine ae_ ?_;refine K_ rfl rfl fun B=>?_;refine y_ ke_ rfl fun m=>?_;refine aA_ ?_;refine am_ rfl ?_;refine ax_ ?_;refine ax_ ?_;refine ae_ ?_;refine e_ (bd_ 1 np_ rfl rfl rfl) rfl ?_;refine e_ (S_ rfl) rfl ?_;refine e_ (S_ rfl) rfl ?_;refine f_ (qv_ d lad lcap p ad cap S sad C) rfl g_ zt rfl fun⟨bp,bs,W⟩=>?_;dsimp only;refine aA_ ?_;refine am_ rfl ?_;refine dQ_ ?_;refine en_ (bl_ B (.cells #[.slice lad d.length lcap] 22 (0,0))) (bg_ (c_ d_)) (fun _ Q O _=>⟨Q,O⟩) ?_;refine bt_ [(3,zp_ B 0),(6,zp_ m 0),(11,.func (.func 125) #[] #[zp_ bp 0,zp_ bs 0,zp_ W 0])] zl ?_;refine iW_ [bl_ B (.cells #[.slice lad d.length lcap] 22 (0,0)),ch_ lad d] (σ:={y:Value×Hp×List Int // az_ 30 16 y.1 (cE_ d y.2.2).length ((cE_ d y.2.2).flatMap Ax.cells) y.2.1∧(cE_ d y.2.2).length=y.2.2.length}) (α:=Int) (xv:=fun x=>.int .i64 x) (good:=fun s x=>s.1.2.2.length<100000000∧0≤x∧x<(List.length d:Int)) (nx:=fun x s s'=>s'.1.2.2=s.1.2.2++[x]) (Rc:=fun s=>s.1.2.2=(dt_ d p S d.length)) (Γi:=[bl_ bp (.cells #[.slice ad p.length cap] 64 (0,0)),bl_ bs (.cells #[.slice sad S.length C] 25 (0,0)),bl_ W (.cells #[.slice lad d.length lcap] 22 (0,0)),X_ ad (p.flatMap Pc.cells),X_ sad (S.flatMap au_),ch_ lad d,bl_ B (.cells #[.slice lad d.length lcap] 22 (0,0)),ch_ lad d]) (Hj:=fun y=>(m,.cells #[y.1.1] 24 (0,0))::y.1.2.1) (Hc:=[]) (caps:=[zp_ bp 0,zp_ bs 0,zp_ W 0]) ⟨(.slice none 0 0,[],[]),az_.nil _ _,rfl⟩ rfl (.refl _) zf ?_ ?_ ?_
 ·rintro l D rec a0 a2 X ht T N ⟨⟨sv,P,L⟩,M,E⟩ x ⟨U,hx_2,hx_3⟩
  dsimp only at M E U ⊢;obtain⟨K,e⟩:∃ K,d[x.toNat]? = some K:=⟨_,List.getElem?_eq_getElem zaa_⟩;refine iL_ (ι:=Unit) (Hj:=fun y:{y:Value×Hp×List Int // az_ 30 16 y.1 (cE_ d y.2.2).length ((cE_ d y.2.2).flatMap Ax.cells) y.2.1∧(cE_ d y.2.2).length=y.2.2.length}=>(m,.cells #[y.1.1] 24 (0,0))::y.1.2.1) (s:=⟨(sv,P,L),M,E⟩) (ok:=fun s'=>s'.1.2.2=L++[x]) (Γ:=[bl_ B (.cells #[.slice lad d.length lcap] 22 (0,0)),ch_ lad d]) (fun _=>[(3,zp_ B 0),(6,zp_ m 0),(7,.int .i64 x)]) (fun _=>(m,.cells #[sv] 24 (0,0))::P) a0 a2 X ht rfl ?_ ?_
  ·intro n R Y V
   rw[T];dsimp only;refine dA_.2 (A_ (H':=(m,.cells #[sv] 24 (0,0))::(P++V)) zaf_ (dA_.1 ?_));refine av_ ?_;refine I_ (J_ _) (af_ rfl) rfl rfl ?_;refine bh_ ?_;refine cg_ rfl ?_;exact dB_ () zl (F:=[]) zaA_ zh
  intro n R Y V _;rw[N];refine dA_.2 (A_ (H':=(m,.cells #[sv] 24 (0,0))::(P++V)) zaf_ (dA_.1 ?_));refine dp_ ?_;refine uy_ (V) zk rfl rfl pG_ ?_;refine D_ 5 [0,2,3,4,5] zk zs ?_;refine T_ rfl (cf_ kU_ rfl rfl rfl ht_) rfl ?_;refine T_ rfl (cr_ np_ rfl zf rfl) rfl ?_;refine T_ rfl (S_ rfl) rfl ?_;refine T_ rfl (U_ aU_ H_ rfl rfl (fun v _ h=>aK_ (n:=16) Ax.cells_len zad_ (by exact h.2.1.1) e) zaa_ zah_) rfl ?_;refine T_ rfl (al_ (ad:=lad) (us:=Ax.cells K) bq_ H_ rfl (fun v _ h=>by exact h.2.1.1) (Ax.cells_len _) (z_ Ax.cells_len e)) rfl ?_;refine bV_ ?_;refine hj_ 1 6 rfl rfl zk ?_ ?_
  ·refine e_ (bd_ 0 np_ rfl rfl rfl) rfl ?_
   refine aA_ ?_;refine dm_ rfl ?_;refine Q_ zs ?_;refine p_ 6 rfl zk ?_;refine G_ aU_ H_ aG_ rfl rfl rfl rfl rfl rfl fun a1=>?_;exact ms_
  refine G_ aU_ H_ aG_ rfl rfl rfl rfl rfl rfl fun a1=>?_;refine aA_ ?_;refine dm_ rfl ?_;refine Q_ (fun _ a b=>⟨Vw.sat.sub (a.perm (c_ (c_ bi_))),b⟩) ?_;refine p_ 1 rfl zk ?_;refine e_ (bd_ 1 np_ rfl rfl rfl) rfl ?_;exact ms_
 ·intro l Gj hY
  exact zJ_ (lst:=fun y=>y.1.2.2) d lad lcap p ad cap S sad C bp bs W (bl_ B (.cells #[.slice lad d.length lcap] 22 (0,0))) (ch_ lad d) (fun s x h=>hY s x h) ⟨(.slice none 0 0,[],[]),az_.nil _ _,rfl⟩ rfl hp hS hll
 rintro ⟨⟨sv,P,L⟩,M,E⟩ hL D l r;dsimp only at hL M E ⊢;refine bF_ rfl ?_;refine cw_ ?_;refine av_ ?_;refine I_ aM_ (cO_ 0 fC_ bH_ rfl rfl rfl) rfl rfl ?_;refine ef_ aM_ 0 bH_ rfl rfl rfl rfl rfl (by have q:=(dy_ M).2;simp only[Value.cells,List.all_cons,List.all_nil,q,Bool.and_true]) ?_;refine bh_ ?_;refine bF_ rfl ?_;refine hv_ ?_;exact sL_ (G:=(m,.cells #[sv] 24 (0,0))::(P++[(l,.loop r)])) ⟨(sv,P,L),M,hL⟩ (fun a v Q O=>dz_ (us:=[sv]) 0 results32 fC_ bH_ rfl rfl rfl a v Q O) zbm_ ⟨_,CP_⟩ rfl
theorem Bm_:gQ_ prog 156 [(0,5),(5,1),(6,1)] [.int .i64 0,str [],.int .i64 0,.int .i64 0,.slice none 0 0,.int .i64 0,.slice none 0 0]:=⟨_,cy_,runUnderlying156,fun w=>by simp[P_,n_,sizeOf154]⟩
theorem rQ_:Elt prog 154 156 7 96:=hh_ underlying154 (z:=.agg #[.int .i64 0,str [],.int .i64 0,.int .i64 0,.slice none 0 0,.int .i64 0,.slice none 0 0]) zac_ rfl zad_
theorem Tre.cells_one (t:Tre):t.cells.all Value.oneCell'=true:=Go.Vs.Tre.cells_one t
theorem rI_:∀ (m:Nat) (c:Con),c.sz≤m→c.sz≤1000000→Tri prog 100 #[Con.val c] [] [Con.memF c] (fun y:{t:Tre // t.con=c∧t.wf}=>y.1.val) (fun _=>[]) (fun y=>[y.1.memF]):=by
 intro m
 induction m with
 | zero=>intro c h;have:=Con.sz_pos c;omega
 | succ m ih =>
   intro c h hz;refine j_ func100 rfl rfl ntmps100 rfl fun a2=>?_;refine Zz 2 ?_;refine K_ rfl rfl fun b_1=>y_ cy_ rfl fun N=>Zz 5 ?_
   refine e_ (u_ Bm_ rfl rfl) rfl (o_ 0 aJ_ rfl rfl rfl rfl rfl rfl (Zz 12 ?_));refine O_ (ι:={y:Nat×List Tre×Int×Value×Hp // y.1≤List.length c.parts∧List.map Tre.con y.2.1=List.take y.1 c.parts∧y.2.2.1=((1+Con.sz.szs (c.parts.take y.1):Nat):Int)∧(∀ t∈y.2.1,t.wf)∧zR 156 7 Tre.cells y.2.2.2.1 y.2.1 y.2.2.2.2}) (fun y=>[(2,zp_ N 0),(9,.slice c.ad c.parts.length c.cap),(10,.int .i64 (List.length c.parts:Int)),(11,.int .i64 (y.1.1:Int))]) (fun y=>((N,.cells #[.int .i64 c.kind,str c.name,.int .i64 c.lo,.int .i64 c.hi,.slice c.ad c.parts.length c.cap,.int .i64 y.1.2.2.1,y.1.2.2.2.1] 156 (0,0))::y.1.2.2.2.2)) (fun y=>[cN_ y.1.2.1,Con.memF c]) (fun y=>c.parts.length - y.1.1) ⟨((0:Nat),([]:List Tre),1,(.slice none 0 0),[]),by simp,by simp,(by simp[Con.sz.szs]),by simp,(az_.nil _ _)⟩ zl d_ (fun v _ h=>by exact⟨(show (cN_ ([]:List Tre)).p v from fun t E=>by simp at E),h.1,trivial⟩) ?_;rintro ⟨⟨i,T,S,a1,H_T⟩,M,A,C,I,e⟩;dsimp only at M A C I e ⊢;have hzb:=szs_take_le (l:=Con.parts c) i;have hzc:=Con.sz_eq c;have hpl:=Con.parts_lt c;refine Zi 2 (fun B=>?_) fun B=>?_
   · refine Zz 9 ?_;refine o_ 0 aJ_ rfl rfl rfl rfl rfl (by have q:=(dy_ e).2;simp only[Value.cells,List.all_cons,List.all_nil,q,Bool.and_true];rfl) ?_;refine Zz 3 ?_;refine bL_ e C_ fun Q G L V U Z=>?_;subst L;have a0:List.take i c.parts=Con.parts c:=List.take_of_length_le zaa_;rw[a0]at A C;exact cS_ ⟨Tre.mk c S Q G T,rfl,(Tre.wf_iff _).2 ⟨by dsimp only[Tre.size,Tre.con];rw[C,Con.sz_eq],A.symm,I⟩⟩ (fun aa v Y X=>dz_ (us:=Tre.cells (Tre.mk c S Q G T)) 0 results100 hD_ aJ_ rfl rfl rfl aa v Y X) g_ (fun v _ h=>by exact⟨(Tre.mem_iff _ v).2 ⟨h.2.2.1,h.1,h.2.1⟩,trivial⟩)
   · obtain⟨J,H,x,d⟩:=zge (show i<c.parts.length by omega);refine Zz 10 ?_;refine e_ (U_ ab_ n_ rfl rfl (fun v _ h=>aK_ (n:=5) Con.cells_len zad_ (by exact ((Con.mem_iff c v).1 h.2.1).1) x) zaa_ zah_) rfl ?_;refine e_ (al_ (ad:=c.ad) (us:=Con.cells H) ac_ n_ rfl (fun v _ h=>by exact ((Con.mem_iff c v).1 h.2.1).1) (Con.cells_len _) (z_ Con.cells_len x)) rfl (y_ aH_ rfl fun b_3=>o_ 0 n_ rfl rfl rfl rfl rfl rfl (Zz 5 ?_));refine f_ (ih H zbo_ zbo_) rfl g_ (fun v _ h=>by exact⟨(Con.mem_part (c:=c) h.2.1 d),trivial⟩) rfl fun⟨q,P,R⟩=>?_;dsimp only;have W:Tre.size q=(Con.sz H:Int):=by rw[((Tre.wf_iff q).1 R).1,P]
     have hxs:=Con.sz_part d;refine y_ cy_ rfl fun b_4=>o_ 0 aJ_ rfl rfl rfl rfl rfl rfl (Zz 10 ?_)
     refine o_ 2 P_ rfl rfl rfl rfl rfl rfl (Zz 6 ?_);refine G_ aW_ aJ_ cy_ rfl rfl rfl rfl rfl rfl fun b_5=>?_;refine aO_ (news:=List.flatMap Tre.cells [q]) rQ_ e rfl rfl (c_ (c_ (c_ C_))) rfl (bz_ 0 rfl) (fun u hu=>bn_ Tre.cells_one hu) (by simp only[maxLen];((try simp only[List.length_append,List.length_cons,List.length_nil]);have:=congrArg List.length A;rw[List.length_map,List.length_take]at this;have:=Con.parts_lt c;omega)) (by ((try simp only[List.length_append,List.length_cons,List.length_nil]);have:=congrArg List.length A;rw[List.length_map,List.length_take]at this;have:=Con.parts_lt c;omega)) rfl fun K O B=>?_;refine A_ List.perm_append_comm ?_;have F:=zsa B;refine Zz 1 ?_;refine cq_ 3 F sizeOf154 rfl rfl rfl rfl (Zz 7 ?_);exact x_ ⟨(i+1,(T++[q]),(S+Tre.size q),K,O),J,(by rw[take_snoc x,List.map_append,A];simp[P]),(by show S+Tre.size q=_;rw[szs_step x,C,W];omega),(fun t E=>by rcases List.mem_append.1 E with E|E;exact I t E;rw[List.mem_singleton]at E;subst E;exact R),F⟩ zab_ zl (i_ (c_ (c_ (c_ d_))) (c_ (c_ C_))) (fun v _ h=>by exact⟨kl_ h.2.1 h.1,h.2.2.1,trivial⟩)
end Go.Proofs.YthmjeabeoodghaaGreatDoor
