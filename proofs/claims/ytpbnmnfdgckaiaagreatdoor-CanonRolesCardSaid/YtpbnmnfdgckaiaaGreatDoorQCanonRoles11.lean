/-
  Part of the proof of the law CanonRoles over this seat: the small logic, the data, the contracts of functions (no condition).
-/
import Derived.Test.YtpbnmnfdgckaiaaGreatDoorQCanonRoles10
import Derived.Test.YtpbnmnfdgckaiaaGreatDoorQCanonRoles5
import Derived.Test.YtpbnmnfdgckaiaaGreatDoorQCanonRoles6
import Derived.Test.YtpbnmnfdgckaiaaGreatDoorQCanonRoles2
import Derived.Test.YtpbnmnfdgckaiaaGreatDoorQCanonRoles8
set_option linter.unusedVariables false
set_option linter.unusedSimpArgs false
set_option linter.unusedSectionVars false
set_option maxHeartbeats 1000000
namespace Go.Proofs.YtpbnmnfdgckaiaaGreatDoor
open Go Go.Sx Go.Proofs
attribute [local irreducible] Code.wp wpList wpAnyH
open Go.Vs
theorem jz_ {G:Prop} (h:G:=by
 refine e_ (H_ jj_ rfl rfl) rfl (u_ 0 bV_ rfl rfl rfl rfl rfl rfl (Zz 4 ?_));exact gN_ ⟨((Cl.mk [] none 0 [] none 0),1),wn_ zi_ za_⟩ (fun aa v F C=>fx_ (us:=Cl.cells (Cl.mk [] none 0 [] none 0)) 0 ii_ io_ bV_ rfl rfl rfl rfl aa v F C) m_ (fun v _ h=>by exact⟨.inl rfl,.inl rfl,trivial⟩)):G:=h
theorem hd_ {G:Prop} (h:G:=by
 refine ap_ (first:=[zp_ g 0]) (vs:=[Fc.val f]) (cap:=[]) hT rfl rfl (pf_six (A_ (c_ (c_ (c_ t_))) (A_ (c_ (c_ (c_ t_))) (A_ (c_ (c_ (c_ t_))) (A_ (c_ (c_ (c_ t_))) (A_ (c_ (c_ (c_ t_))) (A_ (c_ (c_ (c_ t_))) (c_ (c_ C_))))))))) (fun v _ h=>by exact⟨h.2.2.2.2.2.1,h.2.2.2.2.1,⟨h.2.2.2.2.2.2.2.1,h.2.2.2.2.2.2.1,h.2.2.2.2.2.1⟩,trivial⟩) rfl fun⟨W,V⟩=>z_ xd_ (Zz 2 ?_)
 refine z_ (S_ (f_ (f_ (f_ (f_ (f_ (f_ (f_ d_))))))) (S_ (f_ (f_ (f_ (f_ (f_ (f_ (f_ d_))))))) (bb_ (f_ (f_ (f_ (f_ (f_ (f_ aP_))))))))) (Zz 2 ?_);refine J_ 0 [0,1,2,3,4,5,6] zk zs (Zz 4 ?_);refine N_ rfl (ar_ (mf_ (E:=(EA m hm (EngB.mk g pb ab ub ob ib rb sb lad lcap (au_ (uniq [] p))) A B d kb fb)) (nw:=(rls (bm_ m) idk (aL_ (uniq [] p)) (Ix.add x (decide (f∈fm)) f) f (j+1) (q,fm)).1) (Hs:=W) V bf_ rfl zp) (show _=Value.int .i64 (List.length (rls (bm_ m) idk (aL_ (uniq [] p)) (Ix.add x (decide (f∈fm)) f) f (j+1) (q,fm)).1:Int) from rfl)) rfl (Zi 1 (fun hr_6=>?_) fun hr_6=>?_)
 ·refine Zz 11 ?_
  exact x_ ⟨(j+1,W),a7,by exact V,.inr zb_⟩ zb_ zl zp zh
 refine Zz 9 ?_;refine J_ 0 [0,1,2,3,4,5,6] zk zs (Zz 4 ?_);refine N_ rfl (ar_ (mf_ (E:=(EA m hm (EngB.mk g pb ab ub ob ib rb sb lad lcap (au_ (uniq [] p))) A B d kb fb)) (nw:=(rls (bm_ m) idk (aL_ (uniq [] p)) (Ix.add x (decide (f∈fm)) f) f (j+1) (q,fm)).1) (Hs:=W) V bf_ rfl zp) (show _=Value.int .i64 (List.length (rls (bm_ m) idk (aL_ (uniq [] p)) (Ix.add x (decide (f∈fm)) f) f (j+1) (q,fm)).1:Int) from rfl)) rfl (Zi 1 (fun hr_7=>?_) fun hr_7=>?_)
 ·omega
 refine Zi 8 (fun hr_8=>?_) fun hr_8=>?_
 ·refine Zz 7 ?_
  refine e_ (H_ jj_ rfl rfl) rfl (u_ 0 bV_ rfl rfl rfl rfl rfl rfl (Zz 4 ?_));exact gN_ ⟨((Cl.mk [] none 0 [] none 0),2),iR_ Y a1 Z X (by rw[if_neg zi_]) (fZ_ J hL hf (j+1) rfl).1 (fZ_ J hL hf (j+1) rfl).2.2.1 za_⟩ (fun aa v F C=>fx_ (us:=Cl.cells (Cl.mk [] none 0 [] none 0)) 0 ii_ io_ bV_ rfl rfl rfl rfl aa v F C) m_ (fun v _ h=>by exact⟨.inl rfl,.inl rfl,trivial⟩)
 refine Zz 5 ?_;refine e_ (H_ jj_ rfl rfl) rfl (u_ 0 bV_ rfl rfl rfl rfl rfl rfl (Zz 4 ?_));exact gN_ ⟨((Cl.mk [] none 0 [] none 0),3),iR_ Y a1 Z X (by rw[if_pos zi_]) (fZ_ J hL hf (j+1) rfl).1 (fZ_ J hL hf (j+1) rfl).2.2.1 za_⟩ (fun aa v F C=>fx_ (us:=Cl.cells (Cl.mk [] none 0 [] none 0)) 0 ii_ io_ bV_ rfl rfl rfl rfl aa v F C) m_ (fun v _ h=>by exact⟨.inl rfl,.inl rfl,trivial⟩)):G:=h
set_option maxHeartbeats 4000000 in
theorem all_c (p:List Pc) (a4:Option Addr) (a8:Nat) (bu:Int) (hsm:∀ x∈p,x.sm) (hp:p.length≤100000000):Tri Tryz.prog 32 #[.slice a4 (List.length p) a8,.int .i64 bu] [] [ah_ a4 (List.flatMap Pc.cells p),ji_] (fun y:{y:Cl×Int // fv_ p bu y.1 y.2}=>.tuple #[y.1.1.val,.int .i64 y.1.2]) (fun _=>[]) (fun y=>y.1.1.row):=by
 refine i_ Tryz.func32 rfl rfl Tryz.ntmps32 rfl fun v_1=>?_;refine Zz 2 ?_;refine G_ Tryz.zeroValue67 rfl fun b_1=>Zz 3 ?_
 refine kp_ (Zz 4 ?_);refine g_ (xN_ p a4 a8 za_ hsm) rfl m_ zf rfl fun _=>Zi 6 (fun hr_1=>?_) fun hr_1=>?_
 ·have Y:=hr_1
  refine Zi 9 (fun hr_2=>?_) fun hr_2=>?_
  ·have a1:=hr_2
   refine Zi 4 (fun hr_3=>?_) fun hr_3=>?_
   ·have Z:=hr_3
    refine Zz 7 ?_;obtain⟨m,X⟩:∃ m:Nat,min bu 65536=(m:Int):=⟨(min bu 65536).toNat,by omega⟩;have hm:m≤65536:=by omega
    have J:=ur_ (ot_ Y);have hpl:∀ k,(lat (aL_ (uniq [] p)) k).length≤1000000000:=fun k=>by have F:=dx_ (aL_ (uniq [] p)) k;have C:=mF_ (uniq [] p);have h_3:=jD_ p [];simp only[List.length_nil]at h_3;omega
    refine Zz 2 ?_;refine g_ (qn_ p a4 a8 za_) rfl m_ zf rfl fun⟨⟨g,pb,kb,ab,ub,ob,ib,rb,sb,fb,lv,hm_1,hl_1⟩,hy⟩=>?_;dsimp only;dsimp only[NewE.own,NewE.ok]at hy ⊢;obtain⟨hym,hyl⟩:=hy;simp only[List.cons_append,List.append_assoc];refine bj_ hyl (c_ (c_ (c_ (c_ (c_ (c_ (c_ (c_ (c_ (f_ t_)))))))))) fun lad lcap hlad hclad hmlad hzlad=>?_;subst hlad;refine G_ Tryz.zeroValue116 rfl fun A=>z_ (S_ d_ (S_ d_ (S_ d_ (S_ d_ (S_ d_ (S_ d_ (S_ d_ (S_ d_ (S_ d_ (S_ d_ (bb_ aP_))))))))))) (u_ 0 Tryz.sizeOf116 rfl rfl rfl rfl rfl rfl (Zz 5 ?_))
    refine e_ (ar_ (jA_ rfl rfl) (congrArg (Value.int .i64) X)) rfl (G_ kk_ rfl fun B=>u_ 0 ak_ rfl rfl rfl rfl rfl rfl (Zz 4 ?_));refine G_ dR_ rfl fun d=>Zz 5 ?_
    refine e_ (bI_ rfl rfl) rfl (Zz 2 ?_);refine u_ 3 eE_ rfl rfl rfl rfl rfl rfl (Zz 3 ?_);refine eI_ (bW_ A (.cells #[zp_ g 0] 116 (0,0))) (bb_ (c_ (c_ d_))) (fun _ F C _=>⟨F,C⟩) ?_;refine eI_ (bW_ B (.cells #[.int .i64 (m:Int)] 3 (0,0))) (bb_ (c_ d_)) (fun _ F C _=>⟨F,C⟩) ?_;refine eI_ (bW_ g (.cells #[.map (some pb),.slice lad (List.length (au_ (uniq [] p))) lcap,.map (some kb),.func (.func 73) #[] #[zp_ A 0,zp_ B 0,zp_ d 0],.map (some ab),.map (some ub),.map (some ob),.map (some ib),.map (some rb),.map (some sb),.map (some fb)] 124 (0,0))) (bb_ (c_ d_)) (fun _ F C _=>⟨F,C⟩) ?_;refine mN_ hJ_ hym (c_ (c_ (c_ (c_ (c_ (c_ (c_ (c_ (c_ C_))))))))) fun adr=>?_;refine Zz 2 ?_;refine g_ (atS_c p a4 a8 za_) rfl m_ zf rfl fun⟨⟨aad,acap⟩,hac,ham,haz⟩=>?_;dsimp only;refine Zz 7 ?_;refine g_ (xS_ (EngB.mk g pb ab ub ob ib rb sb lad lcap (au_ (uniq [] p))) (EA m hm (EngB.mk g pb ab ub ob ib rb sb lad lcap (au_ (uniq [] p))) A B d kb fb) [] [] [(d,.cells #[.slice none 0 0] 26 (0,0)),(kb,.map #[] 0),(fb,.map #[] 0)] ⟨.slice none 0 0,#[],0,#[],0,[],[],rfl,aw_.nil _ _,SetE.nil,SetE.nil,by simp⟩ (atS p) aad acap (by have:=sV_ p;omega) (by have:=lq_ (uniq [] p);have h_3:=jD_ p [];simp only[List.length_nil]at h_3;show (au_ (uniq [] p)).length≤_;omega)) rfl (j_ d_ (j_ d_ (c_ (c_ (c_ (c_ (c_ (c_ d_)))))))) (fun v _ h=>by exact⟨h.2.2.1,h.2.2.2.2.2.1,h.1,⟨h.2.2.2.2.1,h.2.2.2.1,h.2.2.1⟩,trivial⟩) rfl fun⟨Hs_1,hS_1⟩=>?_;dsimp only;refine Zz 2 ?_;refine z_ (S_ (f_ d_) (S_ (f_ d_) (S_ (f_ d_) (S_ (f_ d_) (S_ (f_ d_) (S_ (f_ d_) (bb_ aP_))))))) (Zz 3 ?_);refine g_ (wP_ g) rfl m_ zt rfl fun⟨a6,a3,a5⟩=>?_;dsimp only;refine G_ Tryz.zeroValue128 rfl fun a2=>u_ 0 Tryz.sizeOf128 rfl rfl rfl rfl rfl rfl (Zz 3 ?_)
    refine kr_ (Zz 8 ?_);refine L_ (ι:={y:Nat×List Fc×List Fc×Ix×Hp×Hp×Hp×Hp×Hp×Hp×Hp // LoopA (uniq [] p) (atS p) m y.1 y.2.1 y.2.2.1 y.2.2.2.1∧((EA m hm (EngB.mk g pb ab ub ob ib rb sb lad lcap (au_ (uniq [] p))) A B d kb fb)).St y.2.1 y.2.2.1 y.2.2.2.2.2.2.2.2.2.2∧IxO 9 36 (EngB.mk g pb ab ub ob ib rb sb lad lcap (au_ (uniq [] p))) y.2.2.2.1 ⟨y.2.2.2.2.1,y.2.2.2.2.2.1,y.2.2.2.2.2.2.1,y.2.2.2.2.2.2.2.1,y.2.2.2.2.2.2.2.2.1,y.2.2.2.2.2.2.2.2.2.1⟩∧rH_ y.2.2.2.1 y.1}) (fun y=>[(0,.slice a4 (List.length p) a8),(1,.int .i64 bu),(4,zp_ b_1 0),(7,zp_ A 0),(8,zp_ B 0),(9,zp_ d 0),(10,.slice aad (List.length (atS p)) acap),(11,zp_ a2 0),(12,.int .i64 (y.1.1:Int))]) (fun y=>((b_1,.cells #[.slice none 0 0,.slice none 0 0] 67 (0,0))::((a2,.cells #[.slice none 0 0,.slice (some ⟨a6,0,none⟩) 6 6,.slice (some ⟨a3,0,none⟩) 4 4,.slice (some ⟨a5,0,none⟩) 2 2] 128 (0,0))::(y.1.2.2.2.2.1++(y.1.2.2.2.2.2.1++(y.1.2.2.2.2.2.2.1++(y.1.2.2.2.2.2.2.2.1++(y.1.2.2.2.2.2.2.2.2.1++(y.1.2.2.2.2.2.2.2.2.2.1++y.1.2.2.2.2.2.2.2.2.2.2))))))))) (fun y=>[ah_ (some ⟨a6,0,none⟩) (List.flatMap fvC (rlV g 1)),ah_ (some ⟨a3,0,none⟩) (List.flatMap fvC (rlV g 2)),ah_ (some ⟨a5,0,none⟩) (List.flatMap fvC (rlV g 3)),ah_ aad (List.flatMap af_ (atS p)),mlF Tryz.prog 208 Ky.val Pc.cells pb (aL_ (uniq [] p)) adr,bW_ g (.cells #[.map (some pb),.slice lad (List.length (au_ (uniq [] p))) lcap,.map (some kb),.func (.func 73) #[] #[zp_ A 0,zp_ B 0,zp_ d 0],.map (some ab),.map (some ub),.map (some ob),.map (some ib),.map (some rb),.map (some sb),.map (some fb)] 124 (0,0)),bW_ B (.cells #[.int .i64 (m:Int)] 3 (0,0)),bW_ A (.cells #[zp_ g 0] 116 (0,0)),ah_ lad (List.flatMap af_ (au_ (uniq [] p))),ah_ a4 (List.flatMap Pc.cells p),ji_]) (fun y=>m+1 - y.1.1) ⟨((0:Nat),(emits (bm_ m) (fj_ (au_ (uniq [] p)) (atS p)) []),([]:List Fc),Ix.nil,[(ab,.map #[] 0)],[(ub,.map #[] 0)],[(ob,.map #[] 0)],[(ib,.map #[] 0)],[(rb,.map #[] 0)],[(sb,.map #[] 0)],Hs_1),qs_ J rfl,by exact hS_1,⟨cS_.nil _ _,cS_.nil _ _,cS_.nil _ _,cS_.nil _ _,cS_.nil _ _,cS_.nil _ _⟩,vw_⟩ zl (j_ (c_ (c_ (c_ (c_ (c_ (c_ (c_ d_))))))) (j_ d_ (j_ d_ (j_ d_ (j_ d_ (j_ d_ (j_ d_ (j_ d_ ac_)))))))) zh ?_;rintro ⟨⟨n,q,fm,x,Ha,Hu,Ho,Hi,Hr,Hm,Hs⟩,hL,hS,hI,hz⟩;dsimp only at hL hS hI hz ⊢;obtain⟨H,K,L,N,I,qf_1,M,hHs_1,O,hEk_1,hEf_1,hqf_1⟩:=hS;subst hHs_1;have hqm:=hL.len;have hnq:=hL.le;obtain⟨hxl,hyl⟩:=qw_ hz za_;refine be_ (z_ (S_ d_ (S_ d_ (S_ (f_ (f_ (f_ (f_ (f_ (f_ d_)))))) (bb_ (f_ (f_ (f_ (f_ (f_ (f_ d_)))))))))) (Zz 4 ?_));refine e_ (dF_ O w_ rfl) rfl ?_;refine Zi 0 (fun hr_4=>?_) fun hr_4=>?_
    ·refine Zz 8 ?_
     refine J_ 0 [0,1,2,3,4,5,6] zk zs (Zz 4 ?_);refine N_ rfl (ar_ (mf_ (E:=(EA m hm (EngB.mk g pb ab ub ob ib rb sb lad lcap (au_ (uniq [] p))) A B d kb fb)) (nw:=q) (Hs:=((d,.cells #[H] 26 (0,0))::(kb,.map K L)::([(fb,.map N I)]++M))) ⟨H,K,L,N,I,qf_1,M,rfl,O,hEk_1,hEf_1,hqf_1⟩ bf_ rfl zp) (show _=Value.int .i64 (List.length q:Int) from rfl)) rfl (Zi 1 (fun hr_5=>?_) fun hr_5=>?_)
     ·refine Zz 9 ?_
      refine g_ (wL_ O za_) rfl zp zt rfl fun⟨Hq_2,hq_1⟩=>?_;dsimp only;refine Zz 2 ?_;refine z_ (S_ (f_ d_) (S_ (f_ d_) (S_ (f_ d_) (bb_ (f_ d_))))) (be_ (bj_ hq_1 (c_ (c_ (c_ (c_ t_)))) fun fad fcap hfad hcfad hmfad hzfad=>?_));subst hfad;refine Zz 3 ?_;refine e_ (H_ jj_ rfl rfl) rfl (u_ 0 bV_ rfl rfl rfl rfl rfl rfl (Zz 4 ?_));exact gN_ ⟨((Cl.mk (atS p) aad acap (eO_ q) fad fcap),0),yb_ Y a1 Z X ⟨hac,ham,haz,hcfad,hmfad,hzfad⟩ rfl hL za_ za_ rfl⟩ (fun aa v F C=>fx_ (us:=Cl.cells (Cl.mk (atS p) aad acap (eO_ q) fad fcap)) 0 ii_ io_ bV_ rfl rfl rfl rfl aa v F C) m_ zf
     refine Zi 8 (fun hr_6=>?_) fun hr_6=>?_
     ·refine Zz 7 ?_
      refine e_ (H_ jj_ rfl rfl) rfl (u_ 0 bV_ rfl rfl rfl rfl rfl rfl (Zz 4 ?_));exact gN_ ⟨((Cl.mk [] none 0 [] none 0),2),iR_ Y a1 Z X (by rw[if_neg zi_]) hL.nd hL.der za_⟩ (fun aa v F C=>fx_ (us:=Cl.cells (Cl.mk [] none 0 [] none 0)) 0 ii_ io_ bV_ rfl rfl rfl rfl aa v F C) m_ (fun v _ h=>by exact⟨.inl rfl,.inl rfl,trivial⟩)
     refine Zz 5 ?_;refine e_ (H_ jj_ rfl rfl) rfl (u_ 0 bV_ rfl rfl rfl rfl rfl rfl (Zz 4 ?_));exact gN_ ⟨((Cl.mk [] none 0 [] none 0),3),iR_ Y a1 Z X (by rw[if_pos zi_]) hL.nd hL.der za_⟩ (fun aa v F C=>fx_ (us:=Cl.cells (Cl.mk [] none 0 [] none 0)) 0 ii_ io_ bV_ rfl rfl rfl rfl aa v F C) m_ (fun v _ h=>by exact⟨.inl rfl,.inl rfl,trivial⟩)
    have hlf:n<List.length q:=by omega
    obtain⟨f,hf⟩:∃ e_1,q[n]? = some e_1:=⟨_,List.getElem?_eq_getElem hlf⟩;have hmf:f∈q:=List.mem_of_getElem? hf;have hfd:=hL.der f hmf;have hform:=hfd.form J;obtain⟨hxl_1,hyl_1⟩:=qw_ (jS_ hz (decide (f∈fm)) f) za_;refine Zz 11 ?_;refine e_ (bE_ O w_ y_ rfl rfl za_ za_) rfl (e_ (eT_ O zp bp_ y_ rfl (Fc.cells_len _) ze_ (o_ Fc.cells_len hf)) rfl (G_ X_ rfl fun b_6=>u_ 0 y_ rfl rfl rfl rfl rfl rfl (Zz 6 ?_)));refine g_ (xw_ (EngB.mk g pb ab ub ob ib rb sb lad lcap (au_ (uniq [] p))) (EA m hm (EngB.mk g pb ab ub ob ib rb sb lad lcap (au_ (uniq [] p))) A B d kb fb) x f q fm ((d,.cells #[H] 26 (0,0))::(kb,.map K L)::([(fb,.map N I)]++M)) ⟨H,K,L,N,I,qf_1,M,rfl,O,hEk_1,hEf_1,hqf_1⟩ Ha Hu Ho Hi Hr Hm hI hxl hyl) rfl (A_ (c_ (c_ (c_ (c_ (c_ t_))))) (A_ (c_ (c_ (c_ (c_ (c_ t_))))) (A_ (c_ (c_ (c_ (c_ (c_ t_))))) (A_ (c_ (c_ (c_ (c_ (c_ t_))))) (A_ (c_ (c_ (c_ (c_ (c_ t_))))) (A_ (c_ (c_ (c_ (c_ (c_ t_))))) (j_ (c_ (c_ (c_ d_))) (j_ (c_ (c_ (c_ d_))) (A_ (c_ (c_ (c_ t_))) (c_ (c_ C_))))))))))) zf rfl fun⟨⟨T,P,S,R,Q,U⟩,hI_1⟩=>?_;dsimp only;refine z_ xe_ (Zz 2 ?_);refine z_ (S_ (f_ (f_ (f_ (f_ (f_ (f_ d_)))))) (S_ (f_ (f_ (f_ (f_ (f_ (f_ d_)))))) (S_ (f_ (f_ (f_ (f_ (f_ (f_ (f_ (f_ d_)))))))) (S_ (f_ (f_ (f_ (f_ (f_ (f_ (f_ (f_ d_)))))))) (bb_ (f_ (f_ (f_ (f_ (f_ (f_ (f_ aP_)))))))))))) (Zz 4 ?_);rcases iL_ hform with hk|hk|hk
    ·refine e_ (ar_ (dV_ tm_ Tryz.sizeOf127 rfl rfl za_ za_) (show _=zp_ a2 1 from by rw[hk];rfl)) rfl ?_
     refine Zz 6 ?_;refine dG_ (H':=((b_1,.cells #[.slice none 0 0,.slice none 0 0] 67 (0,0))::((a2,.cells #[.slice none 0 0,.slice (some ⟨a6,0,none⟩) 6 6,.slice (some ⟨a3,0,none⟩) 4 4,.slice (some ⟨a5,0,none⟩) 2 2] 128 (0,0))::((b_6,.cells #[.int .i64 f.kind,str f.a,str f.b,str f.r,.int .i64 f.lo,.int .i64 f.hi] 36 (0,0))::(T++(P++(S++(R++(Q++(U++((d,.cells #[H] 26 (0,0))::(kb,.map K L)::([(fb,.map N I)]++M)))))))))))) (j_ (c_ (c_ (c_ d_))) (j_ (c_ (c_ (c_ d_))) (j_ (c_ (c_ d_)) (A_ (c_ (c_ t_)) (A_ (c_ (c_ t_)) (A_ (c_ (c_ t_)) (A_ (c_ (c_ t_)) (A_ (c_ (c_ t_)) (A_ (c_ (c_ t_)) (j_ d_ (j_ d_ (A_ t_ ac_)))))))))))) (fun v _ h=>h) ?_;refine L_ (ι:={y:Nat×Hp // y.1≤6∧((EA m hm (EngB.mk g pb ab ub ob ib rb sb lad lcap (au_ (uniq [] p))) A B d kb fb)).St (rls (bm_ m) idk (aL_ (uniq [] p)) (Ix.add x (decide (f∈fm)) f) f y.1 (q,fm)).1 (rls (bm_ m) idk (aL_ (uniq [] p)) (Ix.add x (decide (f∈fm)) f) f y.1 (q,fm)).2 y.2∧(y.1=0∨((rls (bm_ m) idk (aL_ (uniq [] p)) (Ix.add x (decide (f∈fm)) f) f y.1 (q,fm)).1).length≤m)}) (fun y=>[(0,.slice a4 (List.length p) a8),(1,.int .i64 bu),(4,zp_ b_1 0),(7,zp_ A 0),(8,zp_ B 0),(9,zp_ d 0),(10,.slice aad (List.length (atS p)) acap),(11,zp_ a2 0),(12,.int .i64 (n:Int)),(13,zp_ b_6 0),(60,.slice (some ⟨a6,0,none⟩) 6 6),(61,.int .i64 6),(62,.int .i64 (y.1.1:Int))]) (fun y=>((b_1,.cells #[.slice none 0 0,.slice none 0 0] 67 (0,0))::((a2,.cells #[.slice none 0 0,.slice (some ⟨a6,0,none⟩) 6 6,.slice (some ⟨a3,0,none⟩) 4 4,.slice (some ⟨a5,0,none⟩) 2 2] 128 (0,0))::((b_6,.cells #[.int .i64 f.kind,str f.a,str f.b,str f.r,.int .i64 f.lo,.int .i64 f.hi] 36 (0,0))::(T++(P++(S++(R++(Q++(U++y.1.2)))))))))) (fun y=>[ah_ (some ⟨a6,0,none⟩) (List.flatMap fvC (rlV g 1)),ah_ (some ⟨a3,0,none⟩) (List.flatMap fvC (rlV g 2)),ah_ (some ⟨a5,0,none⟩) (List.flatMap fvC (rlV g 3)),ah_ aad (List.flatMap af_ (atS p)),mlF Tryz.prog 208 Ky.val Pc.cells pb (aL_ (uniq [] p)) adr,bW_ g (.cells #[.map (some pb),.slice lad (List.length (au_ (uniq [] p))) lcap,.map (some kb),.func (.func 73) #[] #[zp_ A 0,zp_ B 0,zp_ d 0],.map (some ab),.map (some ub),.map (some ob),.map (some ib),.map (some rb),.map (some sb),.map (some fb)] 124 (0,0)),bW_ B (.cells #[.int .i64 (m:Int)] 3 (0,0)),bW_ A (.cells #[zp_ g 0] 116 (0,0)),ah_ lad (List.flatMap af_ (au_ (uniq [] p))),ah_ a4 (List.flatMap Pc.cells p),ji_]) (fun y=>6 - y.1.1) ⟨((0:Nat),((d,.cells #[H] 26 (0,0))::(kb,.map K L)::([(fb,.map N I)]++M))),by omega,by exact⟨H,K,L,N,I,qf_1,M,rfl,O,hEk_1,hEf_1,hqf_1⟩,.inl rfl⟩ zl zp zh ?_;rintro ⟨⟨j,Hs⟩,hj,G,hjm⟩;dsimp only at hj G hjm ⊢;refine Zi 2 (fun hr_5=>?_) fun hr_5=>?_
     ·have ej:j=6:=by omega
      have hjl:((rls (bm_ m) idk (aL_ (uniq [] p)) (Ix.add x (decide (f∈fm)) f) f j (q,fm)).1).length≤m:=hjm.resolve_left za_;rw[ej]at hjl G;refine Zz 12 ?_;exact x_ ⟨(n+1,(rls (bm_ m) idk (aL_ (uniq [] p)) (Ix.add x (decide (f∈fm)) f) f 6 (q,fm)).1,(rls (bm_ m) idk (aL_ (uniq [] p)) (Ix.add x (decide (f∈fm)) f) f 6 (q,fm)).2,(Ix.add x (decide (f∈fm)) f),T,P,S,R,Q,U,Hs),(jq_ J hL hf (by have e:nrl f=6:=(by unfold nrl;simp[hk]);rw[e]) za_),(by exact G),hI_1,(jS_ hz _ f)⟩ zb_ zl (j_ d_ (j_ d_ (A_ (c_ t_) (A_ (c_ t_) (A_ (c_ t_) (A_ (c_ t_) (A_ (c_ t_) (A_ (c_ t_) C_)))))))) zh
     have a7:j<List.length (rlV g 1):=by show j<6;omega
     obtain⟨fv,a0⟩:∃ e_1,(rlV g 1)[j]? = some e_1:=⟨_,List.getElem?_eq_getElem a7⟩;have hmfv:fv∈(rlV g 1):=List.mem_of_getElem? a0;refine Zz 10 ?_;refine e_ (Q_ aW_ eE_ rfl rfl (fun v _ h=>as_ (n:=1) iK_ ze_ (by exact h.1) a0) za_ za_) rfl (e_ (bl_ (ad:=(some ⟨a6,0,none⟩)) Tryz.isAgg120 rfl zf (o_ iK_ a0 0 _ rfl)) rfl (Zz 7 ?_));obtain⟨nr,rfl,hT⟩:=wS_ (EngB.mk g pb ab ub ob ib rb sb lad lcap (au_ (uniq [] p))) (EA m hm (EngB.mk g pb ab ub ob ib rb sb lad lcap (au_ (uniq [] p))) A B d kb fb) (EngA.mk adr (fun _=>(none,0)) (fun _=>(none,0)) (fun _=>(none,0)) (fun _=>(none,0)) (fun _=>(none,0)) (fun _=>(none,0))) (aL_ (uniq [] p)) (Ix.add x (decide (f∈fm)) f) f (rls (bm_ m) idk (aL_ (uniq [] p)) (Ix.add x (decide (f∈fm)) f) f j (q,fm)).1 (rls (bm_ m) idk (aL_ (uniq [] p)) (Ix.add x (decide (f∈fm)) f) f j (q,fm)).2 Hs G T P S R Q U hI_1 hpl hxl_1 hyl_1 (fun hk=>(hL_ hform hk).2.2) (fun _ y hy=>(J y (pm9.1 hy).1).num (.inr (pm9.1 hy).2.1)) hk j a0;exact hd_
    ·refine e_ (ar_ (dV_ tm_ Tryz.sizeOf127 rfl rfl za_ za_) (show _=zp_ a2 2 from by rw[hk];rfl)) rfl ?_
     refine Zz 6 ?_;refine dG_ (H':=((b_1,.cells #[.slice none 0 0,.slice none 0 0] 67 (0,0))::((a2,.cells #[.slice none 0 0,.slice (some ⟨a6,0,none⟩) 6 6,.slice (some ⟨a3,0,none⟩) 4 4,.slice (some ⟨a5,0,none⟩) 2 2] 128 (0,0))::((b_6,.cells #[.int .i64 f.kind,str f.a,str f.b,str f.r,.int .i64 f.lo,.int .i64 f.hi] 36 (0,0))::(T++(P++(S++(R++(Q++(U++((d,.cells #[H] 26 (0,0))::(kb,.map K L)::([(fb,.map N I)]++M)))))))))))) (j_ (c_ (c_ (c_ d_))) (j_ (c_ (c_ (c_ d_))) (j_ (c_ (c_ d_)) (A_ (c_ (c_ t_)) (A_ (c_ (c_ t_)) (A_ (c_ (c_ t_)) (A_ (c_ (c_ t_)) (A_ (c_ (c_ t_)) (A_ (c_ (c_ t_)) (j_ d_ (j_ d_ (A_ t_ ac_)))))))))))) (fun v _ h=>h) ?_;refine L_ (ι:={y:Nat×Hp // y.1≤4∧((EA m hm (EngB.mk g pb ab ub ob ib rb sb lad lcap (au_ (uniq [] p))) A B d kb fb)).St (rls (bm_ m) idk (aL_ (uniq [] p)) (Ix.add x (decide (f∈fm)) f) f y.1 (q,fm)).1 (rls (bm_ m) idk (aL_ (uniq [] p)) (Ix.add x (decide (f∈fm)) f) f y.1 (q,fm)).2 y.2∧(y.1=0∨((rls (bm_ m) idk (aL_ (uniq [] p)) (Ix.add x (decide (f∈fm)) f) f y.1 (q,fm)).1).length≤m)}) (fun y=>[(0,.slice a4 (List.length p) a8),(1,.int .i64 bu),(4,zp_ b_1 0),(7,zp_ A 0),(8,zp_ B 0),(9,zp_ d 0),(10,.slice aad (List.length (atS p)) acap),(11,zp_ a2 0),(12,.int .i64 (n:Int)),(13,zp_ b_6 0),(60,.slice (some ⟨a3,0,none⟩) 4 4),(61,.int .i64 4),(62,.int .i64 (y.1.1:Int))]) (fun y=>((b_1,.cells #[.slice none 0 0,.slice none 0 0] 67 (0,0))::((a2,.cells #[.slice none 0 0,.slice (some ⟨a6,0,none⟩) 6 6,.slice (some ⟨a3,0,none⟩) 4 4,.slice (some ⟨a5,0,none⟩) 2 2] 128 (0,0))::((b_6,.cells #[.int .i64 f.kind,str f.a,str f.b,str f.r,.int .i64 f.lo,.int .i64 f.hi] 36 (0,0))::(T++(P++(S++(R++(Q++(U++y.1.2)))))))))) (fun y=>[ah_ (some ⟨a6,0,none⟩) (List.flatMap fvC (rlV g 1)),ah_ (some ⟨a3,0,none⟩) (List.flatMap fvC (rlV g 2)),ah_ (some ⟨a5,0,none⟩) (List.flatMap fvC (rlV g 3)),ah_ aad (List.flatMap af_ (atS p)),mlF Tryz.prog 208 Ky.val Pc.cells pb (aL_ (uniq [] p)) adr,bW_ g (.cells #[.map (some pb),.slice lad (List.length (au_ (uniq [] p))) lcap,.map (some kb),.func (.func 73) #[] #[zp_ A 0,zp_ B 0,zp_ d 0],.map (some ab),.map (some ub),.map (some ob),.map (some ib),.map (some rb),.map (some sb),.map (some fb)] 124 (0,0)),bW_ B (.cells #[.int .i64 (m:Int)] 3 (0,0)),bW_ A (.cells #[zp_ g 0] 116 (0,0)),ah_ lad (List.flatMap af_ (au_ (uniq [] p))),ah_ a4 (List.flatMap Pc.cells p),ji_]) (fun y=>4 - y.1.1) ⟨((0:Nat),((d,.cells #[H] 26 (0,0))::(kb,.map K L)::([(fb,.map N I)]++M))),by omega,by exact⟨H,K,L,N,I,qf_1,M,rfl,O,hEk_1,hEf_1,hqf_1⟩,.inl rfl⟩ zl zp zh ?_;rintro ⟨⟨j,Hs⟩,hj,G,hjm⟩;dsimp only at hj G hjm ⊢;refine Zi 2 (fun hr_5=>?_) fun hr_5=>?_
     ·have ej:j=4:=by omega
      have hjl:((rls (bm_ m) idk (aL_ (uniq [] p)) (Ix.add x (decide (f∈fm)) f) f j (q,fm)).1).length≤m:=hjm.resolve_left za_;rw[ej]at hjl G;refine Zz 12 ?_;exact x_ ⟨(n+1,(rls (bm_ m) idk (aL_ (uniq [] p)) (Ix.add x (decide (f∈fm)) f) f 4 (q,fm)).1,(rls (bm_ m) idk (aL_ (uniq [] p)) (Ix.add x (decide (f∈fm)) f) f 4 (q,fm)).2,(Ix.add x (decide (f∈fm)) f),T,P,S,R,Q,U,Hs),(jq_ J hL hf (by have e:nrl f=4:=(by unfold nrl;simp[hk]);rw[e]) za_),(by exact G),hI_1,(jS_ hz _ f)⟩ zb_ zl (j_ d_ (j_ d_ (A_ (c_ t_) (A_ (c_ t_) (A_ (c_ t_) (A_ (c_ t_) (A_ (c_ t_) (A_ (c_ t_) C_)))))))) zh
     have a7:j<List.length (rlV g 2):=by show j<4;omega
     obtain⟨fv,a0⟩:∃ e_1,(rlV g 2)[j]? = some e_1:=⟨_,List.getElem?_eq_getElem a7⟩;have hmfv:fv∈(rlV g 2):=List.mem_of_getElem? a0;refine Zz 10 ?_;refine e_ (Q_ aW_ eE_ rfl rfl (fun v _ h=>as_ (n:=1) iK_ ze_ (by exact h.2.1) a0) za_ za_) rfl (e_ (bl_ (ad:=(some ⟨a3,0,none⟩)) Tryz.isAgg120 rfl zf (o_ iK_ a0 0 _ rfl)) rfl (Zz 7 ?_));obtain⟨nr,rfl,hT⟩:=wR_ (EngB.mk g pb ab ub ob ib rb sb lad lcap (au_ (uniq [] p))) (EA m hm (EngB.mk g pb ab ub ob ib rb sb lad lcap (au_ (uniq [] p))) A B d kb fb) (EngA.mk adr (fun _=>(none,0)) (fun _=>(none,0)) (fun _=>(none,0)) (fun _=>(none,0)) (fun _=>(none,0)) (fun _=>(none,0))) (aL_ (uniq [] p)) (Ix.add x (decide (f∈fm)) f) f (rls (bm_ m) idk (aL_ (uniq [] p)) (Ix.add x (decide (f∈fm)) f) f j (q,fm)).1 (rls (bm_ m) idk (aL_ (uniq [] p)) (Ix.add x (decide (f∈fm)) f) f j (q,fm)).2 Hs G T P S R Q U hI_1 hpl hxl_1 hyl_1 (fun hk=>(hL_ hform hk).2.2) (fun _ y hy=>(J y (pm9.1 hy).1).num (.inr (pm9.1 hy).2.1)) hk j a0;exact hd_
    refine e_ (ar_ (dV_ tm_ Tryz.sizeOf127 rfl rfl za_ za_) (show _=zp_ a2 3 from by rw[hk];rfl)) rfl ?_;refine Zz 6 ?_;refine dG_ (H':=((b_1,.cells #[.slice none 0 0,.slice none 0 0] 67 (0,0))::((a2,.cells #[.slice none 0 0,.slice (some ⟨a6,0,none⟩) 6 6,.slice (some ⟨a3,0,none⟩) 4 4,.slice (some ⟨a5,0,none⟩) 2 2] 128 (0,0))::((b_6,.cells #[.int .i64 f.kind,str f.a,str f.b,str f.r,.int .i64 f.lo,.int .i64 f.hi] 36 (0,0))::(T++(P++(S++(R++(Q++(U++((d,.cells #[H] 26 (0,0))::(kb,.map K L)::([(fb,.map N I)]++M)))))))))))) (j_ (c_ (c_ (c_ d_))) (j_ (c_ (c_ (c_ d_))) (j_ (c_ (c_ d_)) (A_ (c_ (c_ t_)) (A_ (c_ (c_ t_)) (A_ (c_ (c_ t_)) (A_ (c_ (c_ t_)) (A_ (c_ (c_ t_)) (A_ (c_ (c_ t_)) (j_ d_ (j_ d_ (A_ t_ ac_)))))))))))) (fun v _ h=>h) ?_;refine L_ (ι:={y:Nat×Hp // y.1≤2∧((EA m hm (EngB.mk g pb ab ub ob ib rb sb lad lcap (au_ (uniq [] p))) A B d kb fb)).St (rls (bm_ m) idk (aL_ (uniq [] p)) (Ix.add x (decide (f∈fm)) f) f y.1 (q,fm)).1 (rls (bm_ m) idk (aL_ (uniq [] p)) (Ix.add x (decide (f∈fm)) f) f y.1 (q,fm)).2 y.2∧(y.1=0∨((rls (bm_ m) idk (aL_ (uniq [] p)) (Ix.add x (decide (f∈fm)) f) f y.1 (q,fm)).1).length≤m)}) (fun y=>[(0,.slice a4 (List.length p) a8),(1,.int .i64 bu),(4,zp_ b_1 0),(7,zp_ A 0),(8,zp_ B 0),(9,zp_ d 0),(10,.slice aad (List.length (atS p)) acap),(11,zp_ a2 0),(12,.int .i64 (n:Int)),(13,zp_ b_6 0),(60,.slice (some ⟨a5,0,none⟩) 2 2),(61,.int .i64 2),(62,.int .i64 (y.1.1:Int))]) (fun y=>((b_1,.cells #[.slice none 0 0,.slice none 0 0] 67 (0,0))::((a2,.cells #[.slice none 0 0,.slice (some ⟨a6,0,none⟩) 6 6,.slice (some ⟨a3,0,none⟩) 4 4,.slice (some ⟨a5,0,none⟩) 2 2] 128 (0,0))::((b_6,.cells #[.int .i64 f.kind,str f.a,str f.b,str f.r,.int .i64 f.lo,.int .i64 f.hi] 36 (0,0))::(T++(P++(S++(R++(Q++(U++y.1.2)))))))))) (fun y=>[ah_ (some ⟨a6,0,none⟩) (List.flatMap fvC (rlV g 1)),ah_ (some ⟨a3,0,none⟩) (List.flatMap fvC (rlV g 2)),ah_ (some ⟨a5,0,none⟩) (List.flatMap fvC (rlV g 3)),ah_ aad (List.flatMap af_ (atS p)),mlF Tryz.prog 208 Ky.val Pc.cells pb (aL_ (uniq [] p)) adr,bW_ g (.cells #[.map (some pb),.slice lad (List.length (au_ (uniq [] p))) lcap,.map (some kb),.func (.func 73) #[] #[zp_ A 0,zp_ B 0,zp_ d 0],.map (some ab),.map (some ub),.map (some ob),.map (some ib),.map (some rb),.map (some sb),.map (some fb)] 124 (0,0)),bW_ B (.cells #[.int .i64 (m:Int)] 3 (0,0)),bW_ A (.cells #[zp_ g 0] 116 (0,0)),ah_ lad (List.flatMap af_ (au_ (uniq [] p))),ah_ a4 (List.flatMap Pc.cells p),ji_]) (fun y=>2 - y.1.1) ⟨((0:Nat),((d,.cells #[H] 26 (0,0))::(kb,.map K L)::([(fb,.map N I)]++M))),by omega,by exact⟨H,K,L,N,I,qf_1,M,rfl,O,hEk_1,hEf_1,hqf_1⟩,.inl rfl⟩ zl zp zh ?_;rintro ⟨⟨j,Hs⟩,hj,G,hjm⟩;dsimp only at hj G hjm ⊢;refine Zi 2 (fun hr_5=>?_) fun hr_5=>?_
    ·have ej:j=2:=by omega
     have hjl:((rls (bm_ m) idk (aL_ (uniq [] p)) (Ix.add x (decide (f∈fm)) f) f j (q,fm)).1).length≤m:=hjm.resolve_left za_;rw[ej]at hjl G;refine Zz 12 ?_;exact x_ ⟨(n+1,(rls (bm_ m) idk (aL_ (uniq [] p)) (Ix.add x (decide (f∈fm)) f) f 2 (q,fm)).1,(rls (bm_ m) idk (aL_ (uniq [] p)) (Ix.add x (decide (f∈fm)) f) f 2 (q,fm)).2,(Ix.add x (decide (f∈fm)) f),T,P,S,R,Q,U,Hs),(jq_ J hL hf (by have e:nrl f=2:=(by unfold nrl;simp[hk]);rw[e]) za_),(by exact G),hI_1,(jS_ hz _ f)⟩ zb_ zl (j_ d_ (j_ d_ (A_ (c_ t_) (A_ (c_ t_) (A_ (c_ t_) (A_ (c_ t_) (A_ (c_ t_) (A_ (c_ t_) C_)))))))) zh
    have a7:j<List.length (rlV g 3):=by show j<2;omega
    obtain⟨fv,a0⟩:∃ e_1,(rlV g 3)[j]? = some e_1:=⟨_,List.getElem?_eq_getElem a7⟩;have hmfv:fv∈(rlV g 3):=List.mem_of_getElem? a0;refine Zz 10 ?_;refine e_ (Q_ aW_ eE_ rfl rfl (fun v _ h=>as_ (n:=1) iK_ ze_ (by exact h.2.2.1) a0) za_ za_) rfl (e_ (bl_ (ad:=(some ⟨a5,0,none⟩)) Tryz.isAgg120 rfl zf (o_ iK_ a0 0 _ rfl)) rfl (Zz 7 ?_));obtain⟨nr,rfl,hT⟩:=wQ_ (EngB.mk g pb ab ub ob ib rb sb lad lcap (au_ (uniq [] p))) (EA m hm (EngB.mk g pb ab ub ob ib rb sb lad lcap (au_ (uniq [] p))) A B d kb fb) (EngA.mk adr (fun _=>(none,0)) (fun _=>(none,0)) (fun _=>(none,0)) (fun _=>(none,0)) (fun _=>(none,0)) (fun _=>(none,0))) (aL_ (uniq [] p)) (Ix.add x (decide (f∈fm)) f) f (rls (bm_ m) idk (aL_ (uniq [] p)) (Ix.add x (decide (f∈fm)) f) f j (q,fm)).1 (rls (bm_ m) idk (aL_ (uniq [] p)) (Ix.add x (decide (f∈fm)) f) f j (q,fm)).2 Hs G T P S R Q U hI_1 hpl hxl_1 hyl_1 (fun hk=>(hL_ hform hk).2.2) (fun _ y hy=>(J y (pm9.1 hy).1).num (.inr (pm9.1 hy).2.1)) hk j a0;exact hd_
   refine Zz 6 ?_;exact jz_
  refine Zz 9 ?_;exact jz_
 refine Zz 5 ?_;refine e_ (H_ jj_ rfl rfl) rfl (Zz 1 ?_);refine u_ 0 bV_ rfl rfl rfl rfl rfl rfl (Zz 4 ?_);exact gN_ ⟨((Cl.mk [] none 0 [] none 0),(da_ p)),wm_ zi_⟩ (fun aa v F C=>fx_ (us:=Cl.cells (Cl.mk [] none 0 [] none 0)) 0 ii_ io_ bV_ rfl rfl rfl rfl aa v F C) m_ (fun v _ h=>by exact⟨.inl rfl,.inl rfl,trivial⟩)
def vy_ (f:Fc):Bool:=decide (f=Y_ f.a f.b)
def hA_ (A:List Str) (f:Fc):Bool :=
  decide (f.a∈A)&&(if f.kind=1 then decide (f.b∈A)&&vy_ f
    else if f.kind=2 then decide (f.b∈A)&&(decide (f.r≠[])&&decide (f=ab_ f.a f.r f.b))
    else if f.kind=3 then decide (f.r≠[])&&(decide (f=am_ f.a f.r f.lo f.hi)&&(decide (-1099511627776≤f.lo)&&(decide (f.lo≤f.hi)&&decide (f.hi≤1099511627776))))
    else false)
theorem wY_ {α:Type} {lt:α→α→Prop} (q:∀ {x y z},lt x y→lt y z→lt x z) {l:List α} {k:Nat} {a b:α} (h:(l.take (k+1)).Pairwise lt) (v:l[k]? = some a) (A:l[k+1]? = some b) (e:lt a b):(l.take (k+2)).Pairwise lt:=by
 rw[List.take_add_one,A,Option.toList_some,List.pairwise_append];refine⟨h,by simp,fun x d y m=>?_⟩;rw[List.mem_singleton]at m;subst m;rw[List.take_add_one,v,Option.toList_some]at h d;rcases List.mem_append.1 d with d|d
 ·exact q ((List.pairwise_append.1 h).2.2 x d a zj_) e
 rw[List.mem_singleton]at d;subst d;exact e
theorem pw_not {α:Type} {lt:α→α→Prop} {l:List α} {k:Nat} {a b:α} (m:l[k]? = some a) (q:l[k+1]? = some b) (d:¬ lt a b):¬ l.Pairwise lt:=fun h=>by
  obtain⟨v,x⟩:=List.getElem?_eq_some_iff.1 m;obtain⟨e,y⟩:=List.getElem?_eq_some_iff.1 q;have:=List.pairwise_iff_getElem.1 h k (k+1) v e za_;rw[x,y]at this;exact d this
theorem pw_one {α:Type} {lt:α→α→Prop} (l:List α):(l.take 1).Pairwise lt:=by
  cases l<;>simp
theorem sP_ {x y:Fc}:0≤hC_ x y↔¬ x.lt y:=by rw[← qQ_];omega
theorem xL_ {x y:Fc} (h:¬ 0≤hC_ x y):x.lt y:=Decidable.byContradiction fun q=>h (sP_.2 q)
theorem any_no {α:Type} {p:α→Bool} {l:List α} {j:Nat} {x:α} (h:∀ y∈l.take j,p y=false) (e:l[j]? = some x) (k:p x=false):∀ y∈l.take (j+1),p y=false:=fun y d=>by
 rw[List.take_add_one,e]at d;simp only[Option.toList_some,List.mem_append,List.mem_singleton]at d;rcases d with d|rfl
 ·exact h y d
 exact k
theorem ug_ {P:Program} {N:Nf} {fr:Fr} {H:Hp} {Γ:List Fct} {t q ty:TypeId} {x y:Operand} {m n:List UInt8} (k:Fr.ev fr x=some (str m)) (h:Fr.ev fr y=some (str n)):Yld P N fr H Γ (.binOp .geq t x y q) ty (.bool (decide (n≤m))) :=
  fun a v d _ _ _ _ _=>by
    have e:decide (n≤m)=!decide (m<n):=by rw[Bool.eq_iff_iff];simp[List.not_lt]
    rw[e,← kd_];simp[execOp,d.ev k,d.ev h,str,eqGuard,binOp,Op.stringOp]
theorem wU_ (a r b:Str):Fn0 Tryz.prog 27 #[str a,str r,str b] (Fc.val (ab_ a r b)):=by
  refine i_ Tryz.func27 rfl rfl Tryz.ntmps27 rfl fun k=>?_;refine Zz 2 ?_;refine G_ X_ rfl fun m=>Zz 7 ?_
  refine e_ (H_ eC_ rfl rfl) rfl (u_ 0 y_ rfl rfl rfl rfl rfl rfl (Zz 3 ?_));exact gN_ () (fun d v e h=>ed_ (us:=Fc.cells (ab_ a r b)) 0 Tryz.results27 bp_ y_ rfl rfl rfl d v e h) m_ zt
theorem vi_ (l:List Str) (ad:Option Addr) (cap:Nat) (x:Str) (hl:l.length≤9223372036854775807):Tri Tryz.prog 15 #[.slice ad (List.length l) cap,str x] [] [ah_ ad (List.flatMap af_ l)] (fun _:Unit=>.bool (decide (x∈l))) (fun _=>[]) (fun _=>[]):=by
 refine i_ Tryz.func15 rfl rfl Tryz.ntmps15 rfl fun B=>?_;refine Zz 12 ?_;refine L_ (ι:={y:Nat // y≤l.length∧x ∉ l.take y}) (fun y=>[(0,.slice ad (List.length l) cap),(1,str x),(5,.int .i64 (y.1:Int))]) (fun y=>([])) (fun y=>[ah_ ad (List.flatMap af_ l)]) (fun y=>l.length - y.1) ⟨(0:Nat),by simp,by simp⟩ zl m_ zh ?_;rintro ⟨i,hi,v⟩;dsimp only at hi v ⊢;refine Zi 6 (fun k=>?_) fun k=>?_
 ·refine Zz 11 ?_
  exact ae_ Tryz.results15 () (n_ rfl (by symm;apply decide_eq_false;rwa [List.take_of_length_le za_]at v)) m_ zt
 obtain⟨d,A,m,e⟩:=zge (show i<List.length l by omega);refine Zi 14 (fun h=>?_) fun h=>?_
 ·refine Zz 11 ?_
  exact x_ ⟨i+1,d,fun q=>by rw[List.take_add_one,m]at q;simp only[Option.toList_some,List.mem_append,List.mem_singleton]at q;rcases q with q|rfl;exact v q;simp_all⟩ zb_ zl m_ zh
 refine Zz 9 ?_;exact ae_ Tryz.results15 () (n_ rfl (by symm;apply decide_eq_true;have:=e;simp_all)) m_ zt
theorem dE {p:Prop} {i:Decidable p}:(@decide p i=true)↔p:=⟨fun h=>of_decide_eq_true h,fun h=>decide_eq_true h⟩
theorem xX_ (p:List Pc):[42]∈atS p:=(iP_ p _).2 (.inr (.inl rfl))
theorem sU_ (p:List Pc):[33]∈atS p:=(iP_ p _).2 (.inr (.inr rfl))
theorem yt_ {p:List Pc} {x:Pc} (d:x∈p) {s:Str} (e:s=x.a∨s=x.b∨s=x.c) (h:s≠[]):s∈atS p:=by
  refine (iP_ p s).2 (.inl ((gb_ p s).2 ?_));refine List.mem_flatMap.2 ⟨x,d,List.mem_filter.2 ⟨?_,by simpa using h⟩⟩;rcases e with rfl|rfl|rfl<;>simp
theorem xW_ {s:Str} (h:bd_ s=true):s≠[]:=fun e=>by subst e;revert h;decide
theorem sp_ {p:Pc} (h:p.valid=true) (hk:p.kind=1∨p.kind=2∨p.kind=3∨p.kind=4∨p.kind=9):p.c≠[]:=by
 unfold Pc.valid at h
 split at h
 ·simp at h
 split at h
 ·simp at h
 split at h
 ·simp at h
 simp only[Bool.and_eq_true]at h;obtain⟨⟨⟨⟨_,m⟩,_⟩,_⟩,_⟩:=h
 have k:∀ {b:Bool},cb_ b p.c bd_=true→b=true→p.c≠[]:=fun d e=>by
   subst e;simp[cb_]at d;exact xW_ d
 rcases hk with q|q|q|q|q<;>rw[q]at m<;>exact k m ze_
theorem fo1 {A:List Str} {a b:Str}:hA_ A (Y_ a b)=true↔a∈A∧b∈A:=by
  unfold hA_ Y_ vy_;dsimp only;rw[if_pos rfl,Bool.and_eq_true,Bool.and_eq_true,dE,dE,dE];simp[Y_]
theorem fo2 {A:List Str} {a r b:Str}:hA_ A (ab_ a r b)=true↔a∈A∧b∈A∧r≠[]:=by
  unfold hA_ ab_;dsimp only;rw[if_neg ze_,if_pos rfl,Bool.and_eq_true,Bool.and_eq_true,Bool.and_eq_true,dE,dE,dE,dE];simp[ab_]
theorem fo3 {A:List Str} {a r:Str} {lo hi:Int}:hA_ A (am_ a r lo hi)=true↔a∈A∧r≠[]∧-1099511627776≤lo∧lo≤hi∧hi≤1099511627776:=by
  unfold hA_ am_;dsimp only;rw[if_neg ze_,if_neg ze_,if_pos rfl,Bool.and_eq_true,Bool.and_eq_true,Bool.and_eq_true,Bool.and_eq_true,Bool.and_eq_true,dE,dE,dE,dE,dE,dE];simp[am_]
theorem one_ok {p:List Pc} {S:Fc→Prop} (v:∀ x∈p,x.valid=true) (hS:∀ y,S y→hA_ (atS p) y=true) {y:Fc} (h:hF_ p (atS p) S y):hA_ (atS p) y=true:=by
  have m:∀ {x:Pc},x∈p→(x.kind=1∨x.kind=2∨x.kind=3∨x.kind=4∨x.kind=9)→x.c∈atS p:=fun d hk=>yt_ d (.inr (.inr rfl)) (sp_ (v _ d) hk)
  have k:∀ {x:Pc},x∈p→x.vok:=fun d=>gF_ (v _ d)
  cases h with
  | r1 h=>exact fo1.2 ⟨h,h⟩
  | r2 h=>exact fo1.2 ⟨h,xX_ p⟩
  | r10 d hk h=>exact fo2.2 ⟨h,h,(k d).rok.1 zR_⟩
  | r3 d hk h=>exact fo1.2 ⟨(fo1.1 (hS _ h)).1,m d zR_⟩
  | r4 d hk h h'=>exact fo1.2 ⟨(fo1.1 (hS _ h)).1,m d zR_⟩
  | r5 d hk h=>exact fo2.2 ⟨(fo1.1 (hS _ h)).1,m d zR_,(k d).rok.1 zR_⟩
  | r6 d hk h=>exact fo2.2 ⟨(fo2.1 (hS _ h)).1,(fo2.1 (hS _ h)).2.1,(k d).rok.2.2 hk⟩
  | r7 d hk h h'=>exact fo2.2 ⟨(fo2.1 (hS _ h)).1,(fo2.1 (hS _ h')).2.1,((k d).rok.2.1 hk).2⟩
  | r8 d hk h h'=>exact fo1.2 ⟨(fo2.1 (hS _ h)).1,m d zR_⟩
  | r9 h h'=>exact fo1.2 ⟨(fo2.1 (hS _ h)).1,sU_ p⟩
  | r11 d hk h=>exact fo3.2 ⟨(fo1.1 (hS _ h)).1,(k d).rok.1 zR_,(k d).num (.inl hk)⟩
  | r12 h h' hm hl =>
    have e:=fo3.1 (hS _ h);have q:=fo3.1 (hS _ h');exact fo3.2 ⟨e.1,e.2.1,by omega,hl,by omega⟩
  | r13 h h' hm hl=>exact fo1.2 ⟨(fo3.1 (hS _ h)).1,sU_ p⟩
  | r14 d hk h e q=>exact fo1.2 ⟨(fo3.1 (hS _ h)).1,m d zR_⟩
theorem der_ok {p:List Pc} (d:∀ x∈p,x.valid=true) {y:Fc} (h:Der p (atS p) y):hA_ (atS p) y=true:=h _ fun _ e=>one_ok d (fun _ h=>h) e
theorem ft_ {p:List Pc} (h:da_ p=0):∀ x∈p,x.valid=true:=fun x d=>List.all_eq_true.1 (qU_ h).2 x d
theorem fv_.good {p:List Pc} {e:Int} {c:Cl} (h:fv_ p e c 0):da_ p=0∧0≤e∧e≤1073741824∧c.ok∧c.atoms=atS p∧gy_ p (atS p) (min e 65536).toNat (some c.facts):=by
 unfold fv_ at h
 split at h
 ·rename_i d;exact absurd h.2.symm d
 rename_i d
 split at h
 ·exact absurd h.2 ze_
 rename_i k
 rcases h with h|h
 ·exact⟨by simpa using d,by omega,by omega,h.2⟩
 have:=h.2.1;split at this<;>exact absurd this ze_
theorem fv_.bad {p:List Pc} {k:Int} {c:Cl} {e:Int} (h:fv_ p k c e) (d:e≠0):c=Cl.no:=by
 unfold fv_ at h
 split at h
 ·exact h.1
 split at h
 ·exact h.1
 rcases h with h|h
 ·exact absurd h.1 d
 exact h.1
theorem fv_.ok {p:List Pc} {k:Int} {c:Cl} {e:Int} (h:fv_ p k c e):c.ok:=by
 by_cases d:e=0
 ·subst d;exact h.good.2.2.2.1
 rw[h.bad d];exact Cl.no_ok
theorem fv_.len {p:List Pc} {q:Int} {c:Cl} {e:Int} (h:fv_ p q c e):c.atoms.length≤3*p.length+2∧c.facts.length≤65536:=by
 by_cases m:e=0
 ·subst m
  obtain⟨_,_,_,_,k,d⟩:=h.good;refine⟨by rw[k];exact sV_ p,?_⟩;have:=d.2.2;omega
 rw[h.bad m];simp[Cl.no]
theorem sX_ {p:List Pc} {m:Int} {c:Cl} {e:Int} {r:Option (List Fc)} (h:fv_ p m c e) (B:da_ p=0) (C:0≤m) (A:m≤1073741824) (y:gy_ p (atS p) (min m 65536).toNat r):(∀ L,r=some L→e=0∧c.facts=L∧c.atoms=atS p)∧(r=none→c=Cl.no∧e=if m<65536 then 3 else 2):=by
 unfold fv_ at h;rw[if_neg (by simp[B]),if_neg za_]at h;rcases h with⟨k,q,d,x⟩|⟨k,q,d⟩
 ·have e:=gy_.uniq x y
  subst e;exact⟨fun L v=>⟨k,Option.some.inj v,d⟩,fun h=>(by cases h)⟩
 have e:=gy_.uniq d y;subst e;exact⟨fun L v=>(by cases v),fun _=>⟨k,q⟩⟩
def yc_ (p q:List Pc):Prop:=∀ x∈p,∃ y∈q,∃ n,{ y with frm:=n }=x
theorem yc_.trans {p q r:List Pc} (h:yc_ p q) (k:yc_ q r):yc_ p r:=fun x d=>by
  obtain⟨y,v,n,rfl⟩:=h x d;obtain⟨z,e,m,rfl⟩:=k y v;exact⟨z,e,n,rfl⟩
end Go.Proofs.YtpbnmnfdgckaiaaGreatDoor
namespace Go.Vs
open Go Go.Sx Go.Proofs.YtpbnmnfdgckaiaaGreatDoor
theorem lN_:∀ {l m:List Str},SrS l→SrS m→(∀ x,x∈l↔x∈m)→l=m
 | [],[],_,_,_=>rfl
 | [],y::m,_,_,h=>absurd ((h y).2 List.mem_cons_self) zj_
 | x::l,[],_,_,h=>absurd ((h x).1 List.mem_cons_self) zj_
 | x::l,y::m,h1,h2,h=>by
   unfold SrS at h1 h2;rw[List.pairwise_cons]at h1 h2
   have e:x=y:=by
     rcases List.mem_cons.1 ((h x).1 List.mem_cons_self) with e|e
     · exact e
     · rcases List.mem_cons.1 ((h y).2 List.mem_cons_self) with k|k
       · exact k.symm
       · exact absurd (List.lt_trans (h2.1 x e) (h1.1 y k)) (mo_ _)
   subst e;rw[lN_ h1.2 h2.2 fun z=>?_];constructor
   · intro d
     rcases List.mem_cons.1 ((h z).1 (List.mem_cons_of_mem _ d)) with e|e
     · subst e;exact absurd (h1.1 _ d) (mo_ _)
     · exact e
   · intro d
     rcases List.mem_cons.1 ((h z).2 (List.mem_cons_of_mem _ d)) with e|e
     · subst e;exact absurd (h2.1 _ d) (mo_ _)
     · exact e
abbrev aS_ (l:List Str):List Str:=l.mergeSort fun x y=>decide (x≤y)
inductive Tre where
  | mk (con:Con) (size:Int) (ad:Option Addr) (cap:Nat) (parts:List Tre)
namespace Tre
def con:Tre→Con|mk c _ _ _ _=>c
def size:Tre→Int|mk _ n _ _ _=>n
def ad:Tre→Option Addr|mk _ _ a _ _=>a
def cap:Tre→Nat|mk _ _ _ c _=>c
def parts:Tre→List Tre|mk _ _ _ _ p=>p
end Tre
theorem szs_step {l:List Con} {i:Nat} {x:Con} (h:l[i]? = some x):Con.sz.szs (l.take (i+1))=Con.sz.szs (l.take i)+x.sz:=by
  have d:∀ (a b:List Con),Con.sz.szs (a++b)=Con.sz.szs a+Con.sz.szs b:=fun a b=>by
    induction a with
    | nil=>simp[Con.sz.szs]
    | cons c a ih=>simp[Con.sz.szs,ih];omega
  rw[List.take_add_one,h,Option.toList_some,d];simp[Con.sz.szs]
theorem szs_take_le {l:List Con} (i:Nat):Con.sz.szs (l.take i)≤Con.sz.szs l:=by
  induction l generalizing i with
  | nil=>simp
  | cons c l ih =>
    cases i with
    | zero=>simp[Con.sz.szs]
    | succ i=>have:=ih i;simp[Con.sz.szs];omega
theorem szs_len:∀ l:List Con,l.length≤Con.sz.szs l
  | []=>Nat.le_refl _
  | c::l=>by have:=szs_len l;have:=c.sz_pos;simp only[List.length_cons,Con.sz.szs];omega
theorem wg_ {x:Ax} {v:Vw} (h:x.memF.p v) {c:Con} (d:c∈[x.left,x.right]):c.memF.p v:=by
 simp only[List.mem_cons,List.not_mem_nil,or_false]at d;rcases d with rfl|rfl
 ·exact h.1
 exact h.2.1
theorem wh_ {x:Ax} (d:x.ok) (h:x.left.sz≤1000000) (k:x.right.sz≤1000000) {c:Con} (e:c∈[x.left,x.right]):c.ok∧c.sz≤1000000:=by
 simp only[List.mem_cons,List.not_mem_nil,or_false]at e;rcases e with rfl|rfl
 ·exact⟨d.left,h⟩
 exact⟨d.right,k⟩
end Go.Vs
namespace Go.Proofs.YtpbnmnfdgckaiaaGreatDoor
open Go Go.Sx Go.Proofs
attribute [local irreducible] Code.wp wpList wpAnyH
open Go.Vs
theorem sM_:Elt Tryz.prog 107 3 1 8:=iZ_ Tryz.underlying107 (z:=.int .i64 0) zd_ rfl ze_
theorem pf_as3 {H A B C G:Hp} {b:Nat×Obj} (h:H.Perm ((b::(A++(B++C)))++G)):H.Perm ((b::A)++B++(C++G)):=by simpa [List.append_assoc] using h
theorem kG_ {x:Ax} (h:x.check=0):x.shaped=true:=by
  cases e:x.shaped with
  | true=>rfl
  | false=>unfold Ax.check at h;rw[if_pos e]at h;simp at h
theorem xU_ {x:Ax} (h:x.check=0):1≤x.kind∧x.kind≤9:=by
 have d:=kG_ h;unfold Ax.shaped at d
 by_cases e:x.kind<1∨9<x.kind
 ·rw[if_pos e]at d;simp at d
 omega
theorem qX_ {x:Ax} (h:x.check=0):x.namedU (us x.kind)=true:=by
  cases e:x.namedU (us x.kind) with
  | true=>rfl
  | false=>rw[Ax.check_20 (kG_ h) e]at h;simp at h
theorem pq_ {x:Ax} (h:x.check=0) (d:(us x.kind).left=true):x.left.check=0:=by
 by_cases e:x.left.check=0
 ·exact e
 rw[Ax.check_left (kG_ h) (qX_ h) d e]at h;exact absurd h e
theorem qW_ {x:Ax} (h:x.check=0) (d:(us x.kind).right=true):x.right.check=0:=by
 by_cases e:x.right.check=0
 ·exact e
 rw[Ax.check_right (kG_ h) (qX_ h) (pq_ h) d e]at h;exact absurd h e
theorem qJ_ {c:Con} (h:c.empty=true):c.sz=1:=by
  cases c with
  | mk k n l hi ad cp ps =>
    unfold Con.empty at h;simp only[Bool.and_eq_true,beq_iff_eq,Con.parts]at h;have:ps=[]:=List.eq_nil_of_length_eq_zero za_;subst this;simp[Con.sz,Con.sz.szs]
theorem sT_ {x:Ax} (h:x.check=0):x.left.sz≤64∧x.right.sz≤64:=by
 have k:=kG_ h;have hk:=xU_ h;unfold Ax.shaped at k;rw[if_neg za_]at k;simp only[Bool.and_eq_true,Bool.or_eq_true]at k;obtain⟨⟨⟨⟨⟨⟨e,d⟩,_⟩,_⟩,_⟩,_⟩,_⟩:=k;constructor
 ·rcases e with e|e
  ·exact (Con.check_zero (pq_ h e)).2
  rw[qJ_ e];omega
 rcases d with d|d
 ·exact (Con.check_zero (qW_ h d)).2
 rw[qJ_ d];omega
theorem ou_ {x:Ax} (d:x.ok) (e:x.check=0):Tri Tryz.prog 29 #[x.val] [] [x.memF,cj_] (fun _:Unit=>.int .i64 0) (fun _=>[]) (fun _=>[]):=by
  have h:=hD_ x d;rw[e]at h;exact h
theorem oT_ (s:Str):Fn0 Tryz.prog 175 #[str s] (.bool false):=by
  refine i_ Tryz.func175 rfl rfl Tryz.ntmps175 rfl fun d=>?_;refine Zz 9 ?_;refine e_ (ar_ (cF_ rfl rfl) (show _=Value.bool false from congrArg Value.bool zj_)) rfl (Zz 4 ?_);exact ae_ Tryz.results175 () rfl m_ zt
theorem jG_ {a b:Str} (h:str a=str b):a=b:=by
  have d:=congrArg (fun z:ByteArray=>z.data.toList) (Value.string.inj h);simpa using d
def rc_ (P:Program) (gf:FuncId) (caps:List Value) (Hc:Hp) (Rc:List Str→Prop):Prop:=∀ {σ:Type} (l:Nat) (Gj:σ→Hp) (lst:σ→List Str),(∀ s x,(lst s).length<100000000→iT_ P l (str x) (Gj s) [] (fun _:{s':σ // lst s'=lst s++[x]}=>.bool true) (fun s'=>Gj s'.1) (fun _=>[]))→∀ s0,lst s0=[] →
  Tri P gf (.func (.yield l) #[] #[]::caps).toArray (Hc++Gj s0) [] (fun _:{s':σ // Rc (lst s')}=>.tuple #[]) (fun s'=>Hc++Gj s'.1) (fun _=>[])
theorem xf_ {C Q:Hp} {c d e:Nat×Obj}:(C++(c::Q)++[d,e]).Perm (e::(C++(c::(Q++[d])))):=by
  have h:C++(c::Q)++[d,e]=(C++(c::(Q++[d])))++[e]:=by simp
  rw[h];exact List.perm_append_comm
theorem pf_D10 {C Q:Hp} {c d:Nat×Obj}:(C++(c::(Q++[d]))).Perm ((C++Q)++[c,d]):=by
  have e:(C++Q)++[c,d]=C++((Q++[c])++[d]):=by simp
  rw[e];exact List.Perm.append_left C (List.Perm.append_right [d] (show ([c]++Q).Perm _ from List.perm_append_comm))
theorem th_ {L q:List Str} (h:L.Perm q) (k:q.Nodup):aS_ L=aS_ q:=by
 have strict:∀ l:List Str,l.Nodup→SrS (aS_ l):=fun l hl=>by
   have e:=fR_ l;have d:(aS_ l).Nodup:=(List.mergeSort_perm _ _).nodup_iff.2 hl;unfold List.Nodup at d;refine List.Pairwise.imp (fun {a b} hab=>?_) (e.and d)
   by_cases g:a<b
   · exact g
   · exact absurd (List.le_antisymm hab.1 (List.not_lt.1 g)) hab.2
 exact lN_ (strict L (h.nodup_iff.2 k)) (strict q k) fun x=>by rw[List.mem_mergeSort,List.mem_mergeSort,h.mem_iff]
theorem vr_ {σ:Type} {l:Nat} {I:σ→Hp} {h:σ→List Str} (U:∀ s x,(h s).length<100000000→iT_ Tryz.prog l (str x) (I s) [] (fun _:{B:σ // h B=h s++[x]}=>.bool true) (fun B=>I B.1) (fun _=>[])) (Q:σ) (N:h Q=[]) (C H c:Nat) (es:Array MapEntry) (q:List Str) (hE:KeyE str es q) (hB:Born es c) (V:q.length≤100000000):Tri Tryz.prog 96 #[.func (.yield l) #[] #[],zp_ H 0] ((H,.cells #[.map (some C)] 33 (0,0))::(C,.map es c)::I Q) [] (fun _:{B:σ // (h B).Perm q}=>.tuple #[]) (fun B=>(H,.cells #[.map (some C)] 33 (0,0))::(C,.map es c)::I B.1) (fun _=>[]):=by
 refine i_ Tryz.func96 rfl rfl Tryz.ntmps96 rfl fun T=>?_;refine Zz 3 ?_;refine oa_ 1 Tryz.underlying33 rfl rfl rfl fun K=>Zz 3 ?_
 refine L_ (ι:={y:List Str×Array Nat×Nat×σ // ItS str es y.2.1 y.1∧c≤y.2.2.1∧h y.2.2.2=y.1∧(∀ z∈y.1,z∈q)}) (fun y=>[(0,.func (.yield l) #[] #[]),(1,zp_ H 0),(5,zp_ K 0)]) (fun y=>((K,.mapIter (some C) c y.1.2.1 y.1.2.2.1)::((H,.cells #[.map (some C)] 33 (0,0))::((C,.map es c)::(I y.1.2.2.2))))) (fun y=>[]) (fun y=>List.length q - List.length y.1.1) ⟨([],#[],c,Q),ItS.nil,Nat.le_refl _,N,by simp⟩ zl zp zt ?_;rintro ⟨⟨done,F,X,s⟩,P,J,E,v⟩;dsimp only at P J E v ⊢;refine Zz 2 ?_;refine qf_ 0 2 rfl rfl rfl hB.lt J rfl (fun R=>?_) (fun e W=>?_)
 ·refine Zz 7 ?_
  exact cl_ Tryz.results96 ⟨s,by rw[E];exact P.endK (fun _ _=>jG_) hE R⟩ rfl zp zt
 obtain⟨k,G,S,M,L,A⟩:=P.stepK (fun _ _=>jG_) hE hB W;refine Zz 10 ?_;refine e_ (ar_ (nK_ 0 2 rfl rfl rfl L hB) (show _=Value.tuple #[str k,e.val] by rw[M])) rfl (Zz 5 ?_);refine jH_ (ι:={B:σ // h B=h s++[k]}) (fun _=>[(0,.func (.yield l) #[] #[]),(1,zp_ H 0),(5,zp_ K 0),(13,.bool false)]) (fun z=>((K,.mapIter (some C) c (F.push e.born) c)::((H,.cells #[.map (some C)] 33 (0,0))::((C,.map es c)::(I z.1))))) (fun _=>[]) ?_ ?_
 ·refine aI_ ?_
  refine R_ cX_ (al_ rfl) rfl rfl ?_;refine R_ cX_ (al_ rfl) rfl rfl ?_;refine hq_ (U s k zB_) rfl rfl (c_ (c_ C_)) zt rfl fun z=>?_;refine R_ cX_ (ax_ rfl) rfl rfl ?_;refine bn_ ?_;refine do_ rfl ?_;exact fh_ z zl zp zh
 rintro ⟨B,O⟩;dsimp only;refine Zz 4 ?_;exact x_ ⟨(done++[k],F.push e.born,c,B),A,Nat.le_refl _,by rw[O,E],fun z d=>by rcases List.mem_append.1 d with d|d;exact v z d;rw[List.mem_singleton]at d;exact d▸G⟩ zz_ zl (j_ d_ (j_ d_ (j_ d_ ac_))) zt
theorem iI_ (h e c:Nat) (es:Array MapEntry) (q:List Str) (hE:KeyE str es q) (hB:Born es c) (k:q.length≤100000000):rc_ Tryz.prog 96 [zp_ e 0] [(e,.cells #[.map (some h)] 33 (0,0)),(h,.map es c)] (fun L=>L.Perm q) :=
  fun l y m x v d=>vr_ x v d h e c es q hE hB k
theorem iH_ (e:Nat):Tri Tryz.prog 50 #[.map (some e)] [] [] (fun d:Nat=>.func (.func 96) #[] #[zp_ d 0]) (fun d=>[(d,.cells #[.map (some e)] 33 (0,0))]) (fun _=>[]):=by
  refine i_ Tryz.func50 rfl rfl Tryz.ntmps50 rfl fun k=>?_;refine Zz 2 ?_;refine aa_ rfl rfl fun h=>Zz 5 ?_
  refine e_ (bI_ rfl rfl) rfl (Zz 4 ?_);exact ae_ Tryz.results50 h rfl (F:=[]) (.refl _) zt
theorem vq_ {σ:Type} {l:Nat} {I:σ→Hp} {h:σ→List Str} (U:∀ s x,(h s).length<100000000→iT_ Tryz.prog l (str x) (I s) [] (fun _:{B:σ // h B=h s++[x]}=>.bool true) (fun B=>I B.1) (fun _=>[])) (Q:σ) (N:h Q=[]) (C H c:Nat) (es:Array MapEntry) (q:List Str) (hE:KeyE str es q) (hB:Born es c) (V:q.length≤100000000):Tri Tryz.prog 151 #[.func (.yield l) #[] #[],zp_ H 0] ((H,.cells #[.map (some C)] 105 (0,0))::(C,.map es c)::I Q) [] (fun _:{B:σ // (h B).Perm q}=>.tuple #[]) (fun B=>(H,.cells #[.map (some C)] 105 (0,0))::(C,.map es c)::I B.1) (fun _=>[]):=by
 refine i_ Tryz.func151 rfl rfl Tryz.ntmps151 rfl fun T=>?_;refine Zz 3 ?_;refine oa_ 1 Tryz.underlying105 rfl rfl rfl fun K=>Zz 3 ?_
 refine L_ (ι:={y:List Str×Array Nat×Nat×σ // ItS str es y.2.1 y.1∧c≤y.2.2.1∧h y.2.2.2=y.1∧(∀ z∈y.1,z∈q)}) (fun y=>[(0,.func (.yield l) #[] #[]),(1,zp_ H 0),(5,zp_ K 0)]) (fun y=>((K,.mapIter (some C) c y.1.2.1 y.1.2.2.1)::((H,.cells #[.map (some C)] 105 (0,0))::((C,.map es c)::(I y.1.2.2.2))))) (fun y=>[]) (fun y=>List.length q - List.length y.1.1) ⟨([],#[],c,Q),ItS.nil,Nat.le_refl _,N,by simp⟩ zl zp zt ?_;rintro ⟨⟨done,F,X,s⟩,P,J,E,v⟩;dsimp only at P J E v ⊢;refine Zz 2 ?_;refine qf_ 0 2 rfl rfl rfl hB.lt J rfl (fun R=>?_) (fun e W=>?_)
 ·refine Zz 7 ?_
  exact cl_ Tryz.results151 ⟨s,by rw[E];exact P.endK (fun _ _=>jG_) hE R⟩ rfl zp zt
 obtain⟨k,G,S,M,L,A⟩:=P.stepK (fun _ _=>jG_) hE hB W;refine Zz 10 ?_;refine e_ (ar_ (nK_ 0 2 rfl rfl rfl L hB) (show _=Value.tuple #[str k,e.val] by rw[M])) rfl (Zz 5 ?_);refine jH_ (ι:={B:σ // h B=h s++[k]}) (fun _=>[(0,.func (.yield l) #[] #[]),(1,zp_ H 0),(5,zp_ K 0),(13,.bool false)]) (fun z=>((K,.mapIter (some C) c (F.push e.born) c)::((H,.cells #[.map (some C)] 105 (0,0))::((C,.map es c)::(I z.1))))) (fun _=>[]) ?_ ?_
 ·refine aI_ ?_
  refine R_ cX_ (al_ rfl) rfl rfl ?_;refine R_ cX_ (al_ rfl) rfl rfl ?_;refine hq_ (U s k zB_) rfl rfl (c_ (c_ C_)) zt rfl fun z=>?_;refine R_ cX_ (ax_ rfl) rfl rfl ?_;refine bn_ ?_;refine do_ rfl ?_;exact fh_ z zl zp zh
 rintro ⟨B,O⟩;dsimp only;refine Zz 4 ?_;exact x_ ⟨(done++[k],F.push e.born,c,B),A,Nat.le_refl _,by rw[O,E],fun z d=>by rcases List.mem_append.1 d with d|d;exact v z d;rw[List.mem_singleton]at d;exact d▸G⟩ zz_ zl (j_ d_ (j_ d_ (j_ d_ ac_))) zt
theorem xv_ (h e c:Nat) (es:Array MapEntry) (q:List Str) (hE:KeyE str es q) (hB:Born es c) (k:q.length≤100000000):rc_ Tryz.prog 151 [zp_ e 0] [(e,.cells #[.map (some h)] 105 (0,0)),(h,.map es c)] (fun L=>L.Perm q) :=
  fun l y m x v d=>vq_ x v d h e c es q hE hB k
theorem xq_ (e:Nat):Tri Tryz.prog 104 #[.map (some e)] [] [] (fun d:Nat=>.func (.func 151) #[] #[zp_ d 0]) (fun d=>[(d,.cells #[.map (some e)] 105 (0,0))]) (fun _=>[]):=by
  refine i_ Tryz.func104 rfl rfl Tryz.ntmps104 rfl fun k=>?_;refine Zz 2 ?_;refine aa_ rfl rfl fun h=>Zz 5 ?_
  refine e_ (bI_ rfl rfl) rfl (Zz 4 ?_);exact ae_ Tryz.results104 h rfl (F:=[]) (.refl _) zt
theorem uZ_ {C Q G:Hp} {c:Nat×Obj}:(C++(c::Q)++G).Perm (c::(C++(Q++G))):=by
  have d:C++(c::Q)++G=C++([c]++(Q++G)):=by simp
  rw[d,← List.append_assoc];exact List.Perm.append_right (Q++G) (List.perm_append_comm (l₁:=C) (l₂:=[c])) |>.trans zj_
theorem ua_ (M:FuncId) (caps:List Value) (Hc:Hp) (Rc:List Str→Prop) (O:rc_ Tryz.prog M caps Hc Rc):Tri Tryz.prog 143 #[.slice none 0 0,.func (.func M) #[] caps.toArray] Hc [] (fun y:{y:Value×Hp×List Str // aw_ 9 1 y.1 y.2.2.length (y.2.2.flatMap af_) y.2.1∧Rc y.2.2}=>y.1.1) (fun y=>Hc++y.1.2.1) (fun _=>[]):=by
 refine hh_ Tryz.func143 rfl rfl Tryz.ntmps143 rfl fun E=>?_;refine Zz 2 ?_;refine aa_ rfl rfl fun d=>Zz 10 ?_
 refine bt_ [(2,zp_ d 0),(6,.func (.func M) #[] caps.toArray)] zl ?_;refine rp_ (σ:={y:Value×Hp×List Str // aw_ 9 1 y.1 y.2.2.length (y.2.2.flatMap af_) y.2.1}) (α:=Str) (xv:=fun x=>str x) (good:=fun s _=>s.1.2.2.length<100000000) (nx:=fun x s P=>P.1.2.2=s.1.2.2++[x]) (Rc:=fun s=>Rc s.1.2.2) (Γi:=[]) (Hj:=fun y=>(d,.cells #[y.1.1] 25 (0,0))::y.1.2.1) (Hc:=Hc) (caps:=caps) ⟨(.slice none 0 0,[],[]),aw_.nil _ _⟩ rfl (@List.perm_append_comm _ [_] _) zt ?_ ?_ ?_
 ·rintro l D W S N K Z J q ⟨⟨sv,m,L⟩,A⟩ x I
  dsimp only at A I ⊢;refine pw_ (ι:=Unit) (Hj:=fun y:{y:Value×Hp×List Str // aw_ 9 1 y.1 y.2.2.length (y.2.2.flatMap af_) y.2.1}=>(d,.cells #[y.1.1] 25 (0,0))::y.1.2.1) (s:=⟨(sv,m,L),A⟩) (ok:=fun P=>P.1.2.2=L++[x]) (Γ:=[]) (fun _=>[(2,zp_ d 0),(5,str x)]) (fun _=>(d,.cells #[sv] 25 (0,0))::m) S N K Z rfl ?_ ?_
  ·intro n E Q R
   rw[J];dsimp only;refine gB_.2 (z_ (H':=(d,.cells #[sv] 25 (0,0))::(m++R)) zj_ (gB_.1 ?_));refine aI_ ?_;refine R_ (K_ _) (ay_ rfl) rfl rfl ?_;refine bn_ ?_;refine do_ rfl ?_;exact fh_ () zl (F:=[]) zT_ zh
  intro n E Q R _;rw[q];refine gB_.2 (z_ (H':=(d,.cells #[sv] 25 (0,0))::(m++R)) zj_ (gB_.1 ?_));refine ep_ ?_;refine aI_ ?_;refine R_ (K_ _) (aE_ 0 lE_ rfl rfl rfl) rfl rfl ?_;refine R_ (K_ _) (al_ rfl) rfl rfl ?_;refine tF_ (K_ _) l_ E_ av_ rfl rfl rfl rfl rfl rfl fun a1=>?_;refine ql_ (K_ _) (news:=List.flatMap af_ [x]) cB_ A rfl rfl zp rfl (aO_ 0 rfl) (fun u Y=>aA_ ch_ Y) zm_ za_ rfl fun B C H=>?_;have k:=zsa H;refine fX_ (S_ (f_ d_) (bb_ (f_ d_))) ?_;refine nA_ (K_ _) 1 k bO_ rfl rfl rfl rfl ?_;refine bn_ ?_;refine do_ rfl ?_;exact rr_ ⟨(B,C,(L++[x])),k⟩ rfl (pf_as3 (j_ (c_ d_) (A_ (c_ t_) (A_ C_ d_))))
 ·intro l V X
  exact O l V (fun y=>y.1.2.2) (fun s x h=>X s x h) ⟨(.slice none 0 0,[],[]),aw_.nil _ _⟩ rfl
 rintro ⟨⟨sv,m,L⟩,A⟩ U D l r;dsimp only at U A ⊢;refine cN_ (H':=(d,.cells #[sv] 25 (0,0))::(Hc++(m++HLp l D r))) (F:=[]) (by rw[List.append_nil];exact uZ_) zh ?_;refine cd_ rfl ?_;refine cV_ ?_;refine aI_ ?_;refine R_ cX_ (aE_ 0 lE_ rfl rfl rfl) rfl rfl ?_;refine R_ cX_ (ay_ rfl) rfl rfl ?_;refine bn_ ?_;refine cd_ rfl ?_;refine my_ ?_;exact yk_ (G:=Hc++((d,.cells #[sv] 25 (0,0))::(m++[(l,.loop r)]))) ⟨(sv,m,L),A,U⟩ (fun a v T a0=>by have e:=T.val 4 sv rfl;simp[results,Tryz.results143,e]) (uZ_.symm.trans (by unfold HLp;exact xf_)) ⟨_,pf_D10⟩ rfl
theorem rW_ (v:FuncId) (caps:List Value) (Hc:Hp) (Rc:List Str→Prop) (q:rc_ Tryz.prog v caps Hc Rc):Tri Tryz.prog 94 #[.func (.func v) #[] caps.toArray] Hc [] (fun y:{y:Value×Hp×List Str // aw_ 9 1 y.1 y.2.2.length (y.2.2.flatMap af_) y.2.1∧Rc y.2.2}=>y.1.1) (fun y=>Hc++y.1.2.1) (fun _=>[]):=by
  refine i_ Tryz.func94 rfl rfl Tryz.ntmps94 rfl fun x=>?_;refine Zz 8 ?_;refine g_ (ua_ v caps Hc Rc q) rfl ac_ zt rfl fun⟨⟨h,k,m⟩,d,e⟩=>?_;dsimp only;dsimp only at d e ⊢;simp only[List.append_assoc,List.append_nil];refine Zz 4 ?_;exact ae_ Tryz.results94 ⟨(h,k,m),d,e⟩ rfl zp zt
theorem eY_ (I:FuncId) (caps:List Value) (Hc:Hp) (q:List Str) (J:q.Nodup) (N:q.length≤100000000) (H:rc_ Tryz.prog I caps Hc (fun L=>L.Perm q)):Tri Tryz.prog 49 #[.func (.func I) #[] caps.toArray] Hc [] (fun y:{y:Option Addr×Nat // (aS_ q).length≤y.2∧y.2≤maxLen∧(y.1=none→y.2=0)}=>.slice y.1.1 (aS_ q).length y.1.2) (fun _=>Hc) (fun y=>[ah_ y.1.1 ((aS_ q).flatMap af_)]):=by
  refine i_ Tryz.func49 rfl rfl Tryz.ntmps49 rfl fun M=>?_;refine Zz 8 ?_;refine g_ (rW_ I caps Hc (fun L=>L.Perm q) H) rfl ac_ zt rfl fun⟨⟨x,K,E⟩,m,d⟩=>?_;dsimp only;dsimp only at m d ⊢;simp only[List.append_assoc,List.append_nil];refine Zz 6 ?_;refine g_ (lO_ m (by have:=d.length_eq;omega)) rfl aP_ zt rfl fun⟨A,B⟩=>?_;dsimp only;have C:aw_ 9 1 x (List.length (aS_ q)) (List.flatMap af_ (aS_ q)) A:=by rw[← th_ d J,show (aS_ E).length=E.length from List.length_mergeSort _];exact B
  refine Zz 9 ?_;refine bj_ C t_ fun G F v k h e=>?_;exact ae_ Tryz.results49 ⟨(G,F),k,h,e⟩ (fG_ rfl v) ac_ zf
theorem bo_:KeyT Tryz.prog 9 str:=qv_ aF_
theorem nT_ (l:List Ax) (ad:Option Addr) (cap:Nat) (A:∀ x∈l,x.ok) (F:∀ x∈l,x.check=0) (G:l.length≤100000):Tri Tryz.prog 65 #[.slice ad (List.length l) cap] [] [eg_ ad l,cj_] (fun _:Unit=>.int .i64 0) (fun _=>[]) (fun _=>[]):=by
 refine i_ Tryz.func65 rfl rfl Tryz.ntmps65 rfl fun E=>?_;refine Zz 14 ?_;refine L_ (ι:={y:Nat // y≤List.length l}) (fun y=>[(2,.int .i64 0),(6,.slice ad (List.length l) cap),(7,.int .i64 (List.length l:Int)),(8,.int .i64 (y.1:Int))]) (fun y=>([])) (fun y=>[eg_ ad l,cj_]) (fun y=>List.length l - y.1) ⟨(0:Nat),by simp⟩ zl m_ zh ?_;rintro ⟨i,m⟩;dsimp only at m ⊢;refine Zi 2 (fun q=>?_) fun q=>?_
 ·refine Zz 12 ?_
  exact ae_ Tryz.results65 () rfl m_ zt
 obtain⟨e,k,B,d⟩:=zge (show i<List.length l by omega);refine Zz 12 ?_;refine G_ cE_ rfl fun C=>u_ 0 br_ rfl rfl rfl rfl rfl rfl (Zz 5 ?_)
 refine g_ (ou_ (A k d) (F k d)) rfl m_ (fun v _ h=>by exact⟨(h.1.2 k d),h.2.1,trivial⟩) rfl fun _=>Zz 6 ?_
 refine e_ (ar_ (bU_ rfl rfl) (show _=Value.bool false from congrArg Value.bool ze_)) rfl (Zz 10 ?_);exact x_ ⟨i+1,e⟩ zb_ zl m_ zh
theorem gh_ {G:Prop} (h:G:=by
 have d:Ax.selfs x=m:=by rw[hm,List.take_of_length_le za_];rfl
 exact ae_ Tryz.results107 () (n_ rfl (by unfold Ax.exm;rw[k,d];rw[Bool.eq_iff_iff];simp only[Bool.and_eq_true,Bool.or_eq_true,Bool.not_eq_true',decide_eq_true_eq,decide_eq_false_iff_not,Option.some.injEq,beq_iff_eq,q,true_and,false_and,true_iff,Bool.false_eq_true,false_iff,reduceCtorEq];omega)) m_ zt):G:=h
theorem vL_ (x:Ax) (i:Nat) (G:x.ok) (hi:i<x.roles.length):Tri Tryz.prog 107 #[Ax.val x,.int .i64 (i:Int)] [] [Ax.memF x] (fun _:Unit=>.bool (x.exm i)) (fun _=>[]) (fun _=>[]):=by
 refine i_ Tryz.func107 rfl rfl Tryz.ntmps107 rfl fun Q=>?_;have P:=G.len;have O:=G.cap;obtain⟨R,k⟩:∃ r,x.roles[i]? = some r:=⟨_,List.getElem?_eq_getElem hi⟩;refine Zz 2 ?_;refine aa_ rfl rfl fun H=>Zz 6 ?_
 refine J_ 0 [0,1,2,3,4,5,6,7] zk zs (Zi 7 (fun B=>?_) fun B=>?_)
 ·have q:R=Ax.role x:=by simpa using B
  refine Zz 29 ?_;refine L_ (ι:={y:Nat×Nat // y.1≤List.length (Ax.roles x)∧y.2=List.countP (fun r=>decide (r=x.role)) (List.take y.1 (Ax.roles x))}) (fun y=>[(1,.int .i64 (i:Int)),(2,zp_ H 0),(4,.bool false),(5,.int .i64 (List.length (Ax.roles x):Int)),(6,.int .i64 (y.1.2:Int)),(21,.slice (Ax.ad x) (List.length (Ax.roles x)) (Ax.cap x)),(22,.int .i64 (List.length (Ax.roles x):Int)),(23,.int .i64 (y.1.1:Int))]) (fun y=>((H,.cells (Ax.cells x).toArray 42 (0,0))::[])) (fun y=>[Ax.memF x]) (fun y=>List.length (Ax.roles x) - y.1.1) ⟨((0:Nat),(0:Nat)),by simp,zj_⟩ zl d_ zh ?_;rintro ⟨⟨j,m⟩,J,hm⟩;dsimp only at J hm ⊢;refine Zi 2 (fun E=>?_) fun E=>?_
  ·refine Zi 9 (fun e=>?_) fun e=>?_
   ·refine Zi 14 (fun C=>?_) fun C=>?_
    ·refine Zz 11 ?_
     exact gh_
    refine Zz 5 ?_;refine B_ (bJ_ rfl rfl) rfl fun N v=>Zz 7 ?_
    have d:Ax.selfs x=m:=by rw[hm,List.take_of_length_le za_];rfl
    exact ae_ Tryz.results107 () (n_ rfl (by rw[← v];unfold Ax.exm;rw[k,d];rw[Bool.eq_iff_iff];simp only[Bool.and_eq_true,Bool.or_eq_true,Bool.not_eq_true',decide_eq_true_eq,decide_eq_false_iff_not,Option.some.injEq,beq_iff_eq,q,true_and,false_and,true_iff,Bool.false_eq_true,false_iff,reduceCtorEq];omega)) m_ zt
   refine Zi 4 (fun C=>?_) fun C=>?_
   ·refine Zz 7 ?_
    refine e_ (ar_ (bc_ rfl rfl rfl (ck_ za_ za_)) (show _=Value.int .i64 ((List.length (Ax.roles x):Int) - 1) from rfl)) rfl (aR_ rfl rfl ?_);refine Zi 0 (fun v=>?_) fun v=>?_
    ·refine Zi 7 (fun I=>?_) fun I=>?_
     ·refine Zz 11 ?_
      exact gh_
     refine Zz 5 ?_;refine B_ (bJ_ rfl rfl) rfl fun N F=>Zz 7 ?_
     have d:Ax.selfs x=m:=by rw[hm,List.take_of_length_le za_];rfl
     exact ae_ Tryz.results107 () (n_ rfl (by rw[← F];unfold Ax.exm;rw[k,d];rw[Bool.eq_iff_iff];simp only[Bool.and_eq_true,Bool.or_eq_true,Bool.not_eq_true',decide_eq_true_eq,decide_eq_false_iff_not,Option.some.injEq,beq_iff_eq,q,true_and,false_and,true_iff,Bool.false_eq_true,false_iff,reduceCtorEq];omega)) m_ zt
    refine Zz 15 ?_;exact gh_
   refine Zz 21 ?_;exact gh_
  have h:j<List.length (Ax.roles x):=by omega
  obtain⟨M,A⟩:∃ K,(Ax.roles x)[j]? = some K:=⟨_,List.getElem?_eq_getElem h⟩;have L:M∈(Ax.roles x):=List.mem_of_getElem? A;refine Zi 20 (fun e=>?_) fun e=>?_
  ·refine Zz 10 ?_
   exact x_ ⟨(j+1,m),h,zaJ_⟩ zb_ zl d_ zh
  refine Zz 5 ?_;refine e_ (ar_ (bc_ rfl rfl rfl (ck_ zI_ zI_)) (show _=Value.int .i64 ((m+1:Nat):Int) from congrArg _ za_)) rfl ?_;refine Zz 8 ?_;exact x_ ⟨(j+1,(m+1)),h,zaJ_⟩ zb_ zl d_ zh
 refine Zz 10 ?_;exact ae_ Tryz.results107 () (n_ rfl (by unfold Ax.exm;rw[k];simp[B])) m_ zt
theorem kR_ {G:Prop} (h:G:=by
 refine qe_ (k:=r) (s:=s) (e:=e) bo_ (.inr rfl) M_ F h (by rw[q];simp) rfl rfl rfl ac_ fun x d=>?_;refine z_ dO_ (Zz 2 ?_);exact cl_ Tryz.results106 ⟨(ks,x),d,fun k hk=>.inl hk⟩ rfl ac_ zt):G:=h
theorem kS_ {G:Prop} (h:G:=by
 refine qe_ (k:=r) (s:=s) (e:=e) bo_ (.inr rfl) M_ d v (by rw[q];simp) rfl rfl rfl ac_ fun B A=>?_;refine z_ dO_ (Zz 2 ?_);exact cl_ Tryz.results106 ⟨((ks++[(r,C)]),B),A,fun k hk=>by rw[List.map_append,List.mem_append]at hk;exact hk.imp id zj_⟩ rfl ac_ zt):G:=h
theorem sY_ (r s:Str) (e:Bool) (cb G:Nat) (ks:List (Str×Nat)) (S:List RSt) (Hx:Hp) (F:MmO G ks S Hx):Tri Tryz.prog 106 #[str r,str s,.bool e,zp_ cb 0] Hx [bW_ cb (.cells #[.map (some G)] 105 (0,0))] (fun _:{y:List (Str×Nat)×Hp // MmO G y.1 (S++[(r,s,e)]) y.2∧∀ k∈y.1.map (·.1),k∈ks.map (·.1)∨k=r}=>.tuple #[]) (fun y=>y.1.2) (fun _=>[]):=by
 refine i_ Tryz.func106 rfl rfl Tryz.ntmps106 rfl fun J=>?_;refine Zz 5 ?_;refine e_ (eS_ (k:=r) bo_ dk_ dQ_ F rfl rfl ac_) rfl (B_ (uh_ Tryz.underlying33 rfl rfl) rfl fun H m=>Zz 2 ?_);cases H
 ·replace m:=zdf m
  obtain⟨I,h⟩:=Option.ne_none_iff_exists'.1 m;refine Zz 6 ?_;refine e_ (ar_ (eS_ (k:=r) bo_ dk_ dQ_ F rfl rfl ac_) (congrArg lB_ h)) rfl (Zz 3 ?_);refine e_ (ar_ (eS_ (k:=r) bo_ dk_ dQ_ F rfl rfl ac_) (congrArg lB_ h)) rfl (Zz 1 ?_);refine B_ (jf_ (k:=r) (s:=s) bo_ M_ az_ F h rfl rfl ac_) rfl fun E q=>Zz 1 ?_
  cases E
  ·refine Zz 3 ?_
   exact kR_
  refine Zz 2 ?_;exact kR_
 replace m:=zdt m;refine Zz 4 ?_;refine aY_ rfl fun C=>vc_ (k:=r) bo_ (.inr rfl) dk_ F m rfl rfl rfl (j_ d_ ac_) fun x d=>z_ dO_ ?_
 have v:gG_ (ks++[(r,C)]) r=some C:=uu_ m;refine Zz 5 ?_;refine e_ (ar_ (eS_ (k:=r) bo_ dk_ dQ_ d rfl rfl ac_) (congrArg lB_ v)) rfl (Zz 3 ?_);refine e_ (ar_ (eS_ (k:=r) bo_ dk_ dQ_ d rfl rfl ac_) (congrArg lB_ v)) rfl (Zz 1 ?_);refine B_ (jf_ (k:=r) (s:=s) bo_ M_ az_ d v rfl rfl ac_) rfl fun E q=>Zz 1 ?_
 cases E
 ·refine Zz 3 ?_
  exact kS_
 refine Zz 2 ?_;exact kS_
theorem wJ_ (l:List Ax) (ad:Option Addr) (cap:Nat) (a3:∀ x∈l,x.ok) (hC:∀ x∈l,x.check=0) (hll:l.length≤100000):Tri Tryz.prog 67 #[.slice ad (List.length l) cap] [] [eg_ ad l] (fun y:{y:Nat×List (Str×Nat)×Hp // MmO y.1 y.2.1 (cU_ l) y.2.2∧Frm y.2.1 (cU_ l)}=>.map (some y.1.1)) (fun y=>y.1.2.2) (fun _=>[]):=by
 refine i_ Tryz.func67 rfl rfl Tryz.ntmps67 rfl fun a7=>?_;refine Zz 7 ?_;refine aY_ rfl fun H=>G_ Tryz.zeroValue105 rfl fun L=>u_ 0 Tryz.sizeOf105 rfl rfl rfl rfl rfl rfl (Zz 4 ?_)
 refine e_ (bI_ rfl rfl) rfl (Zz 12 ?_);refine il_ 0 rfl ?_;refine L_ (ι:={y:Nat×List (Str×Nat)×Hp // y.1≤List.length l∧MmO H y.2.1 (cU_ (List.take y.1 l)) y.2.2∧Frm y.2.1 (cU_ (List.take y.1 l))}) (fun y=>[(2,.map none),(3,zp_ L 0),(4,.func (.func 106) #[] #[zp_ L 0]),(11,.slice ad (List.length l) cap),(12,.int .i64 (List.length l:Int)),(13,.int .i64 (y.1.1:Int))]) (fun y=>(y.1.2.2)) (fun y=>[bW_ L (.cells #[.map (some H)] 105 (0,0)),eg_ ad l]) (fun y=>List.length l - y.1.1) ⟨((0:Nat),[],[(H,.map #[] 0)]),by simp,(by rw[List.take_zero];exact MmO.nil H 0),Frm.nil⟩ zl d_ zh ?_;rintro ⟨⟨i,K,J⟩,a0,E,F⟩;dsimp only at a0 E F ⊢;refine Zi 2 (fun X=>?_) fun X=>?_
 ·refine Zz 13 ?_
  have a2:List.take i l=l:=List.take_of_length_le za_;rw[a2]at E F;exact ae_ Tryz.results67 ⟨(H,K,J),E,F⟩ rfl ac_ zt
 obtain⟨G,d,B,k⟩:=zge (show i<List.length l by omega);have Y:=Ax.good_of (hC d k);refine Zz 12 ?_;refine G_ cE_ rfl fun W=>u_ 0 br_ rfl rfl rfl rfl rfl rfl (Zi 11 (fun A=>?_) fun A=>?_)
 ·refine Zi 6 (fun m=>?_) fun m=>?_
  ·refine Zz 11 ?_
   exact x_ ⟨(i+1,K,J),G,(by rw[dB_ B,Ax.steps_no A m,List.append_nil];exact E),(by rw[dB_ B,Ax.steps_no A m,List.append_nil];exact F)⟩ zb_ zl C_ zh
  have a6:=Y.chain m;refine Zz 13 ?_;refine L_ (ι:={y:Nat×List (Str×Nat)×Hp // y.1≤List.length (Ax.roles d)∧MmO H y.2.1 ((cU_ (List.take i l))++Ax.chs d y.1) y.2.2∧Frm y.2.1 ((cU_ (List.take i l))++Ax.chs d y.1)}) (fun y=>[(2,.map none),(3,zp_ L 0),(4,.func (.func 106) #[] #[zp_ L 0]),(11,.slice ad (List.length l) cap),(12,.int .i64 (List.length l:Int)),(13,.int .i64 (i:Int)),(6,zp_ W 0),(39,.slice (Ax.ad d) (List.length (Ax.roles d)) (Ax.cap d)),(40,.int .i64 (List.length (Ax.roles d):Int)),(41,.int .i64 (y.1.1:Int))]) (fun y=>((W,.cells (Ax.cells d).toArray 42 (0,0))::y.1.2.2)) (fun y=>[bW_ L (.cells #[.map (some H)] 105 (0,0)),eg_ ad l]) (fun y=>List.length (Ax.roles d) - y.1.1) ⟨((0:Nat),K,J),by simp,(by rw[Ax.chs,List.append_nil];exact E),F.more⟩ zl zp zh ?_;rintro ⟨⟨j,S,Q⟩,a1,N,O⟩;dsimp only at a1 N O ⊢;refine Zi 2 (fun Z=>?_) fun Z=>?_
  ·refine Zz 11 ?_
   exact x_ ⟨(i+1,S,Q),G,(by rw[dB_ B,Ax.steps_six m,show List.length (Ax.roles d)=j from za_];exact N),(by rw[dB_ B,Ax.steps_six m,show List.length (Ax.roles d)=j from za_];exact O)⟩ zb_ zl C_ zh
  have q:j<List.length (Ax.roles d):=by omega
  obtain⟨P,e⟩:∃ U,(Ax.roles d)[j]? = some U:=⟨_,List.getElem?_eq_getElem q⟩;have V:P∈(Ax.roles d):=List.mem_of_getElem? e;refine Zz 11 ?_;refine e_ (Q_ l_ E_ rfl rfl (fun v _ h=>as_ (n:=1) aq_ ze_ zaH_ e) za_ zh_) rfl ?_;refine e_ (bl_ (ad:=(Ax.ad d)) W_ rfl (fun v _ h=>by exact (h.2.1.2 d k).2.2) (o_ aq_ e 0 _ rfl)) rfl (Zz 8 ?_);refine T_ (vL_ d j (a3 d k) q) rfl m_ (fun v _ h=>by exact⟨(h.2.1.2 d k),trivial⟩) rfl fun a4 M=>e_ (ax_ rfl) rfl (Zz 2 ?_)
  cases a4
  ·refine Zz 6 ?_
   refine ap_ (sY_ P (Ax.role d) true L H S ((cU_ (List.take i l))++Ax.chs d j) Q N) rfl rfl C_ zf rfl fun⟨⟨R,T⟩,I,C⟩=>?_;dsimp only;dsimp only at I C;refine Zz 2 ?_;refine z_ (bb_ aP_) (Zz 5 ?_);exact x_ ⟨(j+1,R,T),q,(by rw[Ax.chs_no e M,← List.append_assoc];exact I),(by rw[Ax.chs_no e M,← List.append_assoc];exact O.add C)⟩ zb_ zl zp zh
  refine Zz 8 ?_;exact x_ ⟨(j+1,S,Q),q,(by rw[Ax.chs_yes e M];exact N),(by rw[Ax.chs_yes e M];exact O)⟩ zb_ zl zp zh
 have a5:=Y.one A;have q:0<List.length (Ax.roles d):=by omega
 obtain⟨P,e⟩:∃ U,(Ax.roles d)[0]? = some U:=⟨_,List.getElem?_eq_getElem q⟩;have V:P∈(Ax.roles d):=List.mem_of_getElem? e;refine Zz 6 ?_;refine J_ 0 [0,1,2,3,4,5,6] zk zs (Zz 2 ?_);refine N_ rfl (Q_ l_ E_ rfl rfl (fun v _ h=>as_ (n:=1) aq_ ze_ zaH_ e) za_ zh_) rfl ?_;refine N_ rfl (bl_ (ad:=(Ax.ad d)) W_ rfl (fun v _ h=>by exact (h.2.1.2 d k).2.2) (o_ aq_ e 0 _ rfl)) rfl (Zi 2 (fun m=>?_) fun m=>?_)
 ·refine Zz 11 ?_
  exact x_ ⟨(i+1,K,J),G,(by rw[dB_ B,Ax.steps_same A e m,List.append_nil];exact E),(by rw[dB_ B,Ax.steps_same A e m,List.append_nil];exact F)⟩ zb_ zl C_ zh
 refine Zz 4 ?_;refine ag_ ((W,.cells (Ax.cells d).toArray 42 (0,0))::[]) zk ?_;refine J_ 1 [0,1,2,3,4,5,6] zk zs (Zz 3 ?_);refine N_ rfl (Q_ l_ E_ rfl rfl (fun v _ h=>as_ (n:=1) aq_ ze_ zaH_ e) za_ zh_) rfl ?_;refine N_ rfl (bl_ (ad:=(Ax.ad d)) W_ rfl (fun v _ h=>by exact (h.2.1.2 d k).2.2) (o_ aq_ e 0 _ rfl)) rfl (Zz 3 ?_);refine s_ 7 rfl zk (ap_ (sY_ P (Ax.role d) false L H K (cU_ (List.take i l)) J E) rfl rfl C_ zf rfl fun⟨⟨R,T⟩,I,C⟩=>?_);dsimp only;dsimp only at I C;refine Zz 5 ?_;refine z_ (bb_ aP_) (Zz 5 ?_);exact x_ ⟨(i+1,R,T),G,(by rw[dB_ B,Ax.steps_five A e m];exact I),(by rw[dB_ B,Ax.steps_five A e m];exact F.add C)⟩ zb_ zl C_ zh
def qI_ (e:Nat×Bool):List Value:=[.int .i64 (e.1:Int),.bool e.2]
theorem no_ (e:Nat×Bool):(qI_ e).length=2:=rfl
theorem vM_ (e:Nat×Bool):(qI_ e).all Value.oneCell'=true:=rfl
structure Grw where
  st:List (Nat×Bool)
  ad:Option Addr
  cap:Nat
def Grw.cells (x:Grw):List Value:=[.slice x.ad x.st.length x.cap]
theorem Grw.cells_len (x:Grw):x.cells.length=1:=rfl
theorem Grw.cells_one (x:Grw):x.cells.all Value.oneCell'=true:=rfl
def hK_ (X:List Grw):Fct where
  p v:=∀ y∈X,bA_ v y.ad (y.st.flatMap qI_)
  mono v v' h hp y hy:=(ah_ y.ad (y.st.flatMap qI_)).mono v v' h (hp y hy)
theorem rO_ {X:List Grw} {y:Grw} {v:Vw} (h:(hK_ X).p v) (e:(ah_ y.ad (y.st.flatMap qI_)).p v):(hK_ (X++[y])).p v:=fun z d=>by
 rcases List.mem_append.1 d with d|d
 ·exact h z d
 rw[List.mem_singleton]at d;subst d;exact e
def wyC (w:Wy):List Value:=[.int .i64 (w.role:Int),.bool w.strict,.int .i64 (w.before:Int),.int .i64 (w.many:Int)]
theorem lL_ (w:Wy):(wyC w).length=4:=rfl
theorem sl_ (w:Wy):(wyC w).all Value.oneCell'=true:=rfl
theorem ie_ {l:List Str} (hl:l.Nodup):SrS (aS_ l):=by
 have e:=fR_ l;have d:(aS_ l).Nodup:=(List.mergeSort_perm _ _).nodup_iff.2 hl;unfold List.Nodup at d;refine List.Pairwise.imp (fun {a b} hab=>?_) (e.and d)
 by_cases g:a<b
 ·exact g
 exact absurd (List.le_antisymm hab.1 (List.not_lt.1 g)) hab.2
theorem SrS.nd {l:List Str} (h:SrS l):l.Nodup:=h.imp fun d e=>by subst e;exact List.lt_irrefl _ d
theorem bs_lo {R:List Str} (h:SrS R) {m:Nat} {x t:Str} (e:R[m]? = some x) (hl:x<t):∀ (a:Nat) y,a<m+1→R[a]? = some y→y<t:=fun a y k d=>by
 rcases Nat.lt_or_ge a m with g|g
 ·exact List.lt_trans (rt_ h d e g) hl
 obtain rfl:a=m:=by omega
 rw[e]at d;simp only[Option.some.injEq]at d;subst d;exact hl
theorem bs_hi {R:List Str} (h:SrS R) {m:Nat} {x t:Str} (k:R[m]? = some x) (hl:¬ x<t):∀ (a:Nat) y,m≤a→R[a]? = some y→¬ y<t:=fun a y q e d=>by
 rcases Nat.lt_or_ge m a with g|g
 ·exact hl (List.lt_trans (rt_ h k e g) d)
 obtain rfl:a=m:=by omega
 rw[k]at e;simp only[Option.some.injEq]at e;subst e;exact hl d
theorem yr_ {R:List Str} (h:SrS R) {m:Nat} {t:Str} (q:∀ (a:Nat) y,a<m→R[a]? = some y→y<t) (v:∀ (a:Nat) y,m≤a→R[a]? = some y→¬ y<t) (k:R[m]? ≠ some t):t ∉ R:=fun e=>by
 obtain⟨a,d⟩:=List.getElem?_of_mem e;rcases Nat.lt_trichotomy a m with g|g|g
 ·exact List.lt_irrefl t (q a t g d)
 ·subst g;exact k d
 have hl:=(List.getElem?_eq_some_iff.1 d).1;have hm:=List.getElem?_eq_getElem (show m<R.length by omega);exact v m _ (Nat.le_refl _) hm (rt_ h hm d g)
section
variable {P:Program} {N:Nf} {fr:Fr} {H:Hp} {Γ:List Fct} {ty:TypeId}
theorem ue_ {t A:TypeId} {x y:Operand} {e:IntKind} {m:Nat} (k:Fr.ev fr x=some (.int .u64 (m:Int))) (h:Fr.ev fr y=some (.int e 1)):Yld P N fr H Γ (.binOp .shr t x y A) ty (.int .u64 ((m / 2:Nat):Int)) :=
  fun a v d _ _ _ _ _=>by
    have q:¬ ((1:Int)<0):=by omega
    have B:(m:Int).fdiv 2=(m:Int) / 2:=Int.fdiv_eq_ediv_of_nonneg _ ze_;simp[execOp,d.ev k,d.ev h,eqGuard,binOp,Op.shift,q,IntKind.bits,B]
end
def GrR (S:List RSt) (R:List Str) (r:Str) (ss:List Str) (L:List (Nat×Bool)):Prop:=∀ j c,(j,c)∈L↔∃ s,s∈ss∧R[j]? = some s∧c=flg S r s
theorem GrR.nil {S:List RSt} {R:List Str} {r:Str}:GrR S R r [] []:=fun j c=>by simp
theorem GrR.yes {S:List RSt} {R:List Str} {r s:Str} {ss:List Str} {L:List (Nat×Bool)} {n:Nat} (h:GrR S R r ss L) (q:R.Nodup) (m:R[n]? = some s):GrR S R r (ss++[s]) (L++[(n,flg S r s)]):=fun j c=>by
 rw[List.mem_append,h,List.mem_singleton,Prod.mk.injEq];constructor
 ·rintro (⟨t,d,k,e⟩|⟨rfl,rfl⟩)
  ·exact⟨t,List.mem_append_left _ d,k,e⟩
  exact⟨s,by simp,m,rfl⟩
 rintro ⟨t,d,k,e⟩;rcases List.mem_append.1 d with d|d
 ·exact .inl ⟨t,d,k,e⟩
 rw[List.mem_singleton]at d;subst d;exact .inr ⟨vg_ q k m,e⟩
theorem GrR.no {S:List RSt} {R:List Str} {r s:Str} {ss:List Str} {L:List (Nat×Bool)} (h:GrR S R r ss L) (m:s ∉ R):GrR S R r (ss++[s]) L:=fun j c=>by
 rw[h];constructor
 ·rintro ⟨t,d,e,k⟩;exact⟨t,List.mem_append_left _ d,e,k⟩
 rintro ⟨t,d,e,k⟩;rcases List.mem_append.1 d with d|d
 ·exact⟨t,d,e,k⟩
 rw[List.mem_singleton]at d;subst d;exact absurd (List.mem_of_getElem? e) m
structure GrI (S:List RSt) (R:List Str) (X:List Grw) (i:Nat):Prop where
  len:X.length=i
  row:∀ (k:Nat) (r:Str) (y:Grw),R[k]? = some r→X[k]? = some y→GrR S R r (aS_ (ik S r)) y.st
  short:∀ y∈X,y.st.length≤S.length
theorem GrI.nil {S:List RSt} {R:List Str}:GrI S R [] 0:=⟨rfl,fun k r y _ h=>by simp at h,by simp⟩
theorem GrI.snoc {S:List RSt} {R:List Str} {X:List Grw} {i:Nat} {r:Str} {y:Grw} (h:GrI S R X i) (x:R[i]? = some r) (A:GrR S R r (aS_ (ik S r)) y.st) (m:y.st.length≤S.length):GrI S R (X++[y]) (i+1):=by
 refine⟨by simp[h.len],fun k q z e d=>?_,fun z d=>by rcases List.mem_append.1 d with d|d;exact h.short z d;rw[List.mem_singleton]at d;subst d;exact m⟩;rcases Nat.lt_or_ge k X.length with g|g
 ·rw[List.getElem?_append_left g]at d;exact h.row k q z e d
 rw[List.getElem?_append_right g]at d
 have hk:k - X.length=0:=by
   have:=(List.getElem?_eq_some_iff.1 d).1;simp only[List.length_singleton]at this;omega
 rw[hk]at d;simp only[List.getElem?_cons_zero,Option.some.injEq]at d;subst d;have v:k=i:=by have:=h.len;omega
 subst v;rw[x]at e;simp only[Option.some.injEq]at e;subst e;exact A
theorem GrI.done {S:List RSt} {ks:List (Str×Nat)} {X:List Grw} (x:Frm ks S) (B:∀ z∈S,z.1∈ks.map (·.1)) (A:(ks.map (·.1)).Nodup) (h:GrI S (aS_ (ks.map (·.1))) X (aS_ (ks.map (·.1))).length):GrO S (aS_ (ks.map (·.1))) (X.map Grw.st):=by
 refine⟨by rw[List.length_map,h.len],SrS.nd (ie_ A),fun r=>?_,fun i r l m hl j c=>?_⟩
 ·rw[List.mem_mergeSort]
  constructor
  ·exact x r
  rintro ⟨s,c,q⟩;exact B _ q
 rw[List.getElem?_map,Option.map_eq_some_iff]at hl;obtain⟨y,v,rfl⟩:=hl;rw[h.row i r y m v j c];constructor
 ·rintro ⟨s,d,e,k⟩;rw[List.mem_mergeSort,ng_]at d;exact⟨s,e,d,k⟩
 rintro ⟨s,d,e,k⟩;exact⟨s,by rw[List.mem_mergeSort,ng_];exact e,d,k⟩
theorem wD_:hN_ Tryz.prog 160 [(0,1),(1,1)] [.int .i64 0,.bool false]:=⟨_,Tryz.zeroValue160,cv_,fun w=>by simp[ak_,dN_]⟩
theorem oA_:hN_ Tryz.prog 164 [(0,1),(1,1),(2,1),(3,1)] [.int .i64 0,.bool false,.int .i64 0,.int .i64 0]:=⟨_,nI_,cu_,fun w=>by simp[ak_,dN_]⟩
theorem xH_:Elt Tryz.prog 156 160 2 16:=iZ_ Tryz.underlying156 (z:=.agg #[.int .i64 0,.bool false]) zd_ rfl ze_
theorem xG_:Elt Tryz.prog 101 156 1 24:=iZ_ Tryz.underlying101 (z:=.slice none 0 0) zd_ rfl ze_
theorem vN_:Elt Tryz.prog 165 164 4 32:=iZ_ Tryz.underlying165 (z:=.agg #[.int .i64 0,.bool false,.int .i64 0,.int .i64 0]) zd_ rfl ze_
theorem vz_ (s:Str):Fn0 Tryz.prog 153 #[str s] (.bool false):=by
  refine i_ Tryz.func153 rfl rfl Tryz.ntmps153 rfl fun d=>?_;refine Zz 9 ?_;refine e_ (ar_ (cF_ rfl rfl) (show _=Value.bool false from congrArg Value.bool zj_)) rfl (Zz 4 ?_);exact ae_ Tryz.results153 () rfl m_ zt
theorem tX_ (x y:Str):Fn0 Tryz.prog 152 #[str x,str y] (.bool (decide (x<y))):=by
  refine i_ Tryz.func152 rfl rfl Tryz.ntmps152 rfl fun e=>?_;refine Zz 8 ?_;refine g_ (oT_ x) rfl m_ zt rfl fun _=>Zz 11 ?_
  refine B_ (fP_ rfl rfl) rfl fun h d=>Zz 5 ?_
  exact ae_ Tryz.results152 () (n_ rfl (by rw[← d])) m_ zt
theorem binS_c (R:List Str) (ad:Option Addr) (cap:Nat) (t:Str) (hS:SrS R) (hl:R.length≤100000000):Tri Tryz.prog 105 #[.slice ad (List.length R) cap,str t] [] [ah_ ad (List.flatMap af_ R)] (fun y:{y:Nat×Bool // (y.2=true→R[y.1]? = some t)∧(y.2=false→t ∉ R)}=>.tuple #[.int .i64 (y.1.1:Int),.bool y.1.2]) (fun _=>[]) (fun _=>[]):=by
 refine i_ Tryz.func105 rfl rfl Tryz.ntmps105 rfl fun O=>?_;refine Zz 22 ?_;refine L_ (ι:={y:Nat×Nat // y.1≤y.2∧y.2≤List.length R∧(∀ (a:Nat) (z:Str),a<y.1→R[a]? = some z→z<t)∧(∀ (a:Nat) (z:Str),y.2≤a→R[a]? = some z→¬ z<t)}) (fun y=>[(0,.slice ad (List.length R) cap),(1,str t),(6,.int .i64 (List.length R:Int)),(7,.int .i64 (y.1.1:Int)),(8,.int .i64 (y.1.2:Int))]) (fun y=>([])) (fun y=>[ah_ ad (List.flatMap af_ R)]) (fun y=>y.1.2 - y.1.1) ⟨((0:Nat),(List.length R)),za_,za_,(fun a y h=>absurd h zb_),(fun a y h e=>by have:=(List.getElem?_eq_some_iff.1 e).1;dsimp only at h;omega)⟩ zl m_ zh ?_;rintro ⟨⟨lo,hi⟩,G,M,B,hB⟩;dsimp only at G M B hB ⊢;refine Zi 5 (fun A=>?_) fun A=>?_
 ·obtain rfl:lo=hi:=by omega
  refine Zi 10 (fun d=>?_) fun d=>?_
  ·refine Zz 24 ?_
   exact kv_ Tryz.results105 ⟨(lo,false),fun q=>zaB_,fun _=>yr_ hS B hB (fun q=>by have:=(List.getElem?_eq_some_iff.1 q).1;omega)⟩ rfl rfl rfl m_ zt
  obtain⟨K,Q,v,I⟩:=zge (show lo<List.length R by omega);refine Zi 12 (fun k=>?_) fun k=>?_
  ·refine Zz 11 ?_
   refine g_ (vz_ Q) rfl m_ zt rfl fun _=>Zz 14 ?_
   exact kv_ Tryz.results105 ⟨(lo,false),fun q=>zaB_,fun _=>yr_ hS B hB (fun q=>by rw[v]at q;exact k (Option.some.inj q))⟩ rfl rfl rfl m_ zt
  refine Zz 19 ?_;exact kv_ Tryz.results105 ⟨(lo,true),fun _=>by rw[v,k],fun q=>by cases q⟩ rfl rfl rfl m_ zt
 have E:(lo+hi) / 2<List.length R:=by omega
 have x:((lo+hi) / 2)<List.length R:=E;obtain⟨L,m⟩:∃ C,R[((lo+hi) / 2)]? = some C:=⟨_,List.getElem?_eq_getElem x⟩;have J:L∈R:=List.mem_of_getElem? m;refine Zz 10 ?_;refine e_ (ar_ (bc_ rfl rfl rfl (ck_ za_ za_)) (show _=Value.int .i64 ((lo+hi:Nat):Int) from congrArg _ za_)) rfl (e_ (sk_ p_ Tryz.underlying44 rfl (wrapU za_ za_)) rfl (e_ (ue_ rfl rfl) rfl (e_ (sk_ Tryz.underlying44 p_ rfl (ck_ za_ za_)) rfl (Zz 10 ?_))));refine T_ (tX_ L t) rfl m_ zt rfl fun F d=>Zz 2 ?_
 cases F
 ·replace d:=zdf d
  refine Zz 6 ?_;exact x_ ⟨(lo,((lo+hi) / 2)),za_,za_,B,bs_hi hS m d⟩ zb_ zl m_ zh
 replace d:=zdt d;refine Zz 3 ?_;refine e_ (ar_ (bc_ rfl rfl rfl (ck_ za_ za_)) (show _=Value.int .i64 (((lo+hi) / 2+1:Nat):Int) from congrArg _ za_)) rfl (Zz 3 ?_);exact x_ ⟨(((lo+hi) / 2+1),hi),za_,M,bs_lo hS m d,hB⟩ zb_ zl m_ zh
end Go.Proofs.YtpbnmnfdgckaiaaGreatDoor
namespace Go.Proofs.YtpbnmnfdgckaiaaGreatDoor
open Go Go.Sx Go.Proofs
attribute [local irreducible] Code.wp wpList wpAnyH
open Go.Vs
theorem uv_ {ks:List (Str×Nat)} {k:Str} (h:k∈ks.map (·.1)):∃ b,gG_ ks k=some b:=by
  cases e:gG_ ks k with
  | none=>exact absurd h (iA_ e)
  | some b=>exact⟨b,rfl⟩
theorem rN_ {S:List RSt} {r:Str}:(ik S r).length≤S.length:=by
  have h:(ik S r) ⊆ S.map (·.2.1):=fun s e=>by
    obtain⟨c,d⟩:=ng_.1 e;exact List.mem_map.2 ⟨_,d,rfl⟩
  have:=(yp_ S r).length_le_of_subset h;rwa [List.length_map]at this
theorem rC_ (x:Nat) (ks:List (Str×Nat)) (S:List RSt) (Hx:Hp) (hT0:MmO x ks S Hx) (hF:Frm ks S) (hkl:ks.length≤100000) (hSl:S.length≤100000):Tri Tryz.prog 66 #[.map (some x)] Hx [] (fun y:{y:List Grw×Option Addr×Nat×Option Addr×Nat // GrO S (aS_ (List.map (fun p:Str×Nat=>p.1) ks)) (List.map Grw.st y.1)∧(∀ z∈y.1,z.st.length≤S.length)∧List.length y.1=List.length ks∧(List.length (aS_ (List.map (fun p:Str×Nat=>p.1) ks))≤y.2.2.1∧y.2.2.1≤maxLen∧(y.2.1=none→y.2.2.1=0))∧(List.length y.1≤y.2.2.2.2∧y.2.2.2.2≤maxLen∧(y.2.2.2.1=none→y.2.2.2.2=0))}=>.agg #[.slice y.1.2.1 (List.length (aS_ (List.map (fun p:Str×Nat=>p.1) ks))) y.1.2.2.1,.slice y.1.2.2.2.1 (List.length y.1.1) y.1.2.2.2.2]) (fun _=>[]) (fun y=>[ah_ y.1.2.1 (List.flatMap af_ (aS_ (List.map (fun p:Str×Nat=>p.1) ks))),ah_ y.1.2.2.2.1 (List.flatMap Grw.cells y.1.1),hK_ y.1.1]):=by
 obtain⟨es,W,E,rfl,hE⟩:=hT0;refine i_ Tryz.func66 rfl rfl Tryz.ntmps66 rfl fun v_1=>?_;refine Zz 2 ?_;refine G_ Tryz.zeroValue103 rfl fun C=>Zz 5 ?_
 refine g_ (xq_ x) rfl m_ zt rfl fun bx=>?_;refine g_ (eY_ 151 [zp_ bx 0] [(bx,.cells #[.map (some x)] 105 (0,0)),(x,.map es W)] (List.map (fun p:Str×Nat=>p.1) ks) hE.nd zaj_ (xv_ x bx W es (List.map (fun p:Str×Nat=>p.1) ks) ⟨hE.keys,hE.nd⟩ hE.born zaj_)) rfl zp zt rfl fun⟨⟨rad,e⟩,a8,b0,a4⟩=>?_;dsimp only;have hrl:List.length (aS_ (List.map (fun p:Str×Nat=>p.1) ks))=List.length ks:=by rw[List.length_mergeSort,List.length_map]
 refine Zz 1 ?_;refine u_ 2 bO_ rfl rfl rfl rfl rfl rfl (Zz 12 ?_);refine z_ (j_ d_ (j_ (c_ d_) (j_ d_ ac_))) ?_;try simp only[List.append_nil]
 have hT:MmO x ks S ((x,.map es W)::List.map (gd_ E) ks):=⟨es,W,E,rfl,hE⟩;refine z_ (H':=((bx,.cells #[.map (some x)] 105 (0,0))::((C,.cells #[.slice rad (List.length (aS_ (List.map (fun p:Str×Nat=>p.1) ks))) e,.slice none 0 0] 103 (0,0))::(((x,.map es W)::List.map (gd_ E) ks)++([]:Hp))))) (List.Perm.cons _ (List.Perm.cons _ (List.Perm.of_eq (List.append_nil _).symm))) ?_;refine L_ (ι:={y:Nat×List Grw×Value×Hp // y.1≤List.length (aS_ (List.map (fun p:Str×Nat=>p.1) ks))∧GrI S (aS_ (List.map (fun p:Str×Nat=>p.1) ks)) y.2.1 y.1∧zR 156 1 Grw.cells y.2.2.1 y.2.1 y.2.2.2}) (fun y=>[(0,.map (some x)),(2,zp_ C 0),(15,.slice rad (List.length (aS_ (List.map (fun p:Str×Nat=>p.1) ks))) e),(16,.int .i64 (List.length (aS_ (List.map (fun p:Str×Nat=>p.1) ks)):Int)),(17,.int .i64 (y.1.1:Int))]) (fun y=>((C,.cells #[.slice rad (List.length (aS_ (List.map (fun p:Str×Nat=>p.1) ks))) e,y.1.2.2.1] 103 (0,0))::(((x,.map es W)::List.map (gd_ E) ks)++y.1.2.2.2))) (fun y=>[ah_ rad (List.flatMap af_ (aS_ (List.map (fun p:Str×Nat=>p.1) ks))),hK_ y.1.2.1]) (fun y=>List.length (aS_ (List.map (fun p:Str×Nat=>p.1) ks)) - y.1.1) ⟨((0:Nat),([]:List Grw),(.slice none 0 0),([]:Hp)),by simp,GrI.nil,(aw_.nil _ _)⟩ zl zp (fun v _ h=>by exact⟨h.1,(show (hK_ ([]:List Grw)).p v from fun z hz=>by simp at hz),trivial⟩) ?_;rintro ⟨⟨i,X,Y,K⟩,c0,O,J⟩;dsimp only at c0 O J ⊢;refine Zi 2 (fun H=>?_) fun H=>?_
 ·refine Zz 7 ?_
  refine bj_ J (c_ aP_) fun b9 V b1 a3 a1 a2=>?_;subst b1;refine Zz 2 ?_;refine u_ 0 Tryz.sizeOf103 rfl rfl rfl rfl rfl rfl (Zz 3 ?_);exact gN_ ⟨(X,rad,e,b9,V),(by rw[show i=List.length (aS_ (List.map (fun p:Str×Nat=>p.1) ks)) from by omega]at O;exact GrI.done hF hE.all hE.nd O),O.short,O.len.trans za_,⟨a8,b0,a4⟩,⟨a3,a1,a2⟩⟩ (fun aa v h_1 h_2=>ed_ (us:=[.slice rad (List.length (aS_ (List.map (fun p:Str×Nat=>p.1) ks))) e,.slice b9 (List.length X) V]) 0 Tryz.results66 Tryz.isAgg103 Tryz.sizeOf103 rfl rfl rfl aa v h_1 h_2) m_ zf
 have N:i<List.length (aS_ (List.map (fun p:Str×Nat=>p.1) ks)):=by omega
 obtain⟨d,T⟩:∃ a0,(aS_ (List.map (fun p:Str×Nat=>p.1) ks))[i]? = some a0:=⟨_,List.getElem?_eq_getElem N⟩;have a7:d∈(aS_ (List.map (fun p:Str×Nat=>p.1) ks)):=List.mem_of_getElem? T;refine Zz 22 ?_;have hkm:d∈(List.map (fun p:Str×Nat=>p.1) ks):=List.mem_mergeSort.1 a7;obtain⟨bk,P⟩:=uv_ hkm;refine Zz 3 ?_;refine e_ (ar_ (eS_ (k:=d) bo_ dk_ dQ_ hT rfl rfl zp) (congrArg lB_ P)) rfl (g_ (iH_ bk) rfl m_ zt rfl fun by_=>?_);obtain⟨b6,cb,Hr,U,Q,b4,_⟩:=hT.at P;refine z_ (j_ d_ (j_ d_ (A_ aP_ ac_))) ?_;try simp only[List.append_nil]
 refine z_ (List.Perm.cons _ (List.Perm.cons _ (List.Perm.append_left K U))) (g_ (eY_ 96 [zp_ by_ 0] [(by_,.cells #[.map (some bk)] 33 (0,0)),(bk,.map b6 cb)] (ik S d) (yp_ S d) (by have:=rN_ (S:=S) (r:=d);omega) (iI_ bk by_ cb b6 (ik S d) ⟨Q.keys,Q.nd⟩ b4 (by have:=rN_ (S:=S) (r:=d);omega))) rfl (j_ d_ (c_ (f_ d_))) zt rfl fun⟨⟨sad,b2⟩,hss_1,hss_2,hss_3⟩=>?_);dsimp only;have hsl:List.length (aS_ (ik S d))=List.length (ik S d):=List.length_mergeSort _;have hil:=rN_ (S:=S) (r:=d);refine Zz 5 ?_;refine z_ (j_ d_ (j_ (c_ d_) (A_ (c_ t_) (j_ d_ ac_)))) ?_;try simp only[List.append_nil]
 refine z_ (List.Perm.cons _ (List.Perm.cons _ (List.Perm.append_left K U.symm))) (z_ (H':=((by_,.cells #[.map (some bk)] 33 (0,0))::((C,.cells #[.slice rad (List.length (aS_ (List.map (fun p:Str×Nat=>p.1) ks))) e,Y] 103 (0,0))::(K++(((x,.map es W)::List.map (gd_ E) ks)++([]:Hp)))))) (List.Perm.cons _ (List.Perm.cons _ (List.Perm.append_left K (List.Perm.of_eq (List.append_nil _).symm)))) ?_);refine L_ (ι:={y:Nat×List (Nat×Bool)×Value×Hp // y.1≤List.length (aS_ (ik S d))∧GrR S (aS_ (List.map (fun p:Str×Nat=>p.1) ks)) d (List.take y.1 (aS_ (ik S d))) y.2.1∧List.length y.2.1≤y.1∧zR 160 2 qI_ y.2.2.1 y.2.1 y.2.2.2}) (fun y=>[(0,.map (some x)),(2,zp_ C 0),(15,.slice rad (List.length (aS_ (List.map (fun p:Str×Nat=>p.1) ks))) e),(16,.int .i64 (List.length (aS_ (List.map (fun p:Str×Nat=>p.1) ks)):Int)),(17,.int .i64 (i:Int)),(4,str d),(5,y.1.2.2.1),(25,.slice sad (List.length (aS_ (ik S d))) b2),(26,.int .i64 (List.length (aS_ (ik S d)):Int)),(27,.int .i64 (y.1.1:Int))]) (fun y=>((C,.cells #[.slice rad (List.length (aS_ (List.map (fun p:Str×Nat=>p.1) ks))) e,Y] 103 (0,0))::(K++(((x,.map es W)::List.map (gd_ E) ks)++y.1.2.2.2)))) (fun y=>[ah_ sad (List.flatMap af_ (aS_ (ik S d))),ah_ rad (List.flatMap af_ (aS_ (List.map (fun p:Str×Nat=>p.1) ks))),hK_ X]) (fun y=>List.length (aS_ (ik S d)) - y.1.1) ⟨((0:Nat),([]:List (Nat×Bool)),(.slice none 0 0),([]:Hp)),by simp,(by rw[List.take_zero];exact GrR.nil),zj_,(aw_.nil _ _)⟩ zl zp zh ?_;rintro ⟨⟨j,L,a6,b7⟩,c2,hL,hLl,m⟩;dsimp only at c2 hL hLl m ⊢;refine Zi 2 (fun F=>?_) fun F=>?_
 ·refine Zz 6 ?_
  refine bj_ m (c_ (f_ aP_)) fun lad lcap b5 hclad hmlad hzlad=>?_;subst b5;refine Zz 4 ?_;refine U_ cz_ Tryz.sizeOf156 Tryz.zeroValue156 rfl rfl rfl rfl rfl rfl fun b_2=>?_;refine an_ (news:=List.flatMap Grw.cells [(Grw.mk L lad lcap)]) xG_ J rfl rfl (c_ (c_ t_)) rfl (aO_ 0 rfl) (fun u hu=>aA_ Grw.cells_one hu) zP_ zaa_ rfl fun I G H=>?_;have B:=zsa H;refine Zz 1 ?_;refine z_ (S_ (f_ d_) (bb_ (f_ d_))) (dm_ 1 B Tryz.sizeOf101 rfl rfl rfl rfl (Zz 7 ?_));exact x_ ⟨(i+1,(X++[(Grw.mk L lad lcap)]),I,G),N,O.snoc T (by have q:=hL;rw[List.take_of_length_le za_]at q;exact q) zb_,B⟩ zb_ zl (j_ (c_ d_) (A_ (c_ aP_) C_)) (fun v _ h=>by exact⟨h.2.2.1,rO_ h.2.2.2.1 h.1,trivial⟩)
 have A:j<List.length (aS_ (ik S d)):=by omega
 obtain⟨a9,M⟩:∃ a0,(aS_ (ik S d))[j]? = some a0:=⟨_,List.getElem?_eq_getElem A⟩;have hms_1:a9∈(aS_ (ik S d)):=List.mem_of_getElem? M;refine Zz 20 ?_;refine g_ (binS_c (aS_ (List.map (fun p:Str×Nat=>p.1) ks)) rad e a9 (ie_ hE.nd) za_) rfl m_ zf rfl fun⟨⟨d0,c1⟩,Z,R⟩=>?_;dsimp only;dsimp only at Z R;refine Zz 12 ?_;cases c1
 ·refine Zz 8 ?_
  exact x_ ⟨(j+1,L,a6,b7),A,(by rw[take_snoc M];exact hL.no (R rfl)),zb_,m⟩ zb_ zl zp zh
 refine Zz 6 ?_;refine e_ (ar_ (eS_ (k:=d) bo_ dk_ dQ_ hT rfl rfl zp) (congrArg lB_ P)) rfl (Zz 1 ?_);refine B_ (jf_ (k:=d) (s:=a9) bo_ M_ az_ hT P rfl rfl zp) rfl fun b3 b8=>e_ (H_ wD_ rfl rfl) rfl (U_ bZ_ Tryz.sizeOf160 Tryz.zeroValue160 rfl rfl rfl rfl rfl rfl fun b_2=>?_)
 refine an_ (news:=List.flatMap qI_ [(Prod.mk d0 b3)]) xH_ m rfl rfl (c_ (c_ (f_ aP_))) rfl (aO_ 0 rfl) (fun u hu=>aA_ vM_ hu) zP_ zaa_ rfl fun I G F=>?_;have B:=zsa F;refine Zz 3 ?_;refine z_ (S_ (f_ d_) (bb_ (f_ d_))) (Zz 5 ?_);exact x_ ⟨(j+1,(L++[(Prod.mk d0 b3)]),I,G),A,(by rw[take_snoc M,← b8];exact hL.yes (SrS.nd (ie_ hE.nd)) (Z rfl)),zap_,B⟩ zb_ zl zp zh
end Go.Proofs.YtpbnmnfdgckaiaaGreatDoor
