/-
  Part of the proof of the law CanonAsksSpec over this seat: the small logic, the data, the contracts of functions (no condition).
-/
import Derived.Test.YtpbnmnfdgckaiaaGreatDoorQCanonAsksSpec10
import Derived.Test.YtpbnmnfdgckaiaaGreatDoorQCanonAsksSpec5
import Derived.Test.YtpbnmnfdgckaiaaGreatDoorQCanonAsksSpec6
import Derived.Test.YtpbnmnfdgckaiaaGreatDoorQCanonAsksSpec2
import Derived.Test.YtpbnmnfdgckaiaaGreatDoorQCanonAsksSpec8
set_option linter.unusedVariables false
set_option linter.unusedSimpArgs false
set_option linter.unusedSectionVars false
set_option maxHeartbeats 1000000
namespace Go.Proofs.YtpbnmnfdgckaiaaGreatDoor
open Go Go.Sx Go.Proofs
attribute [local irreducible] Code.wp wpList wpAnyH
open Go.Vs
theorem jH_ {G:Prop} (h:G:=by
 refine e_ (J_ jq_ rfl rfl) rfl (z_ 0 bR_ rfl rfl rfl rfl rfl rfl (Zz 4 ?_));exact gb_ ⟨((Cl.mk [] none 0 [] none 0),1),wS_ zi_ za_⟩ (fun aa v A C=>fx_ (us:=Cl.cells (Cl.mk [] none 0 [] none 0)) 0 im_ it_ bR_ rfl rfl rfl rfl aa v A C) f_ (fun v _ h=>by exact⟨.inl rfl,.inl rfl,trivial⟩)):G:=h
theorem hf_ {G:Prop} (h:G:=by
 refine ao_ (first:=[zp_ g 0]) (vs:=[Fc.val f]) (cap:=[]) hT rfl rfl (pf_six (B_ (c_ (c_ (c_ y_))) (B_ (c_ (c_ (c_ y_))) (B_ (c_ (c_ (c_ y_))) (B_ (c_ (c_ (c_ y_))) (B_ (c_ (c_ (c_ y_))) (B_ (c_ (c_ (c_ y_))) (c_ (c_ H_))))))))) (fun v _ h=>by exact⟨h.2.2.2.2.2.1,h.2.2.2.2.1,⟨h.2.2.2.2.2.2.2.1,h.2.2.2.2.2.2.1,h.2.2.2.2.2.1⟩,trivial⟩) rfl fun⟨V,W⟩=>C_ xF_ (Zz 2 ?_)
 refine C_ (W_ (g_ (g_ (g_ (g_ (g_ (g_ (g_ d_))))))) (W_ (g_ (g_ (g_ (g_ (g_ (g_ (g_ d_))))))) (bj_ (g_ (g_ (g_ (g_ (g_ (g_ aX_))))))))) (Zz 2 ?_);refine t_ 0 [0,1,2,3,4,5,6] zk zs (Zz 4 ?_);refine N_ rfl (ar_ (mw_ (E:=(EA m hm (EngB.mk g pb ab ub ob ib rb sb lad lcap (aw_ (uniq [] p))) B F d kb fb)) (nw:=(rls (bo_ m) idk (aM_ (uniq [] p)) (Ix.add x (decide (f∈fm)) f) f (j+1) (q,fm)).1) (Hs:=V) W bg_ rfl zp) (show _=Value.int .i64 (List.length (rls (bo_ m) idk (aM_ (uniq [] p)) (Ix.add x (decide (f∈fm)) f) f (j+1) (q,fm)).1:Int) from rfl)) rfl (Zi 1 (fun hr_6=>?_) fun hr_6=>?_)
 ·refine Zz 11 ?_
  exact x_ ⟨(j+1,V),a7,by exact W,.inr zb_⟩ zb_ zl zp zh
 refine Zz 9 ?_;refine t_ 0 [0,1,2,3,4,5,6] zk zs (Zz 4 ?_);refine N_ rfl (ar_ (mw_ (E:=(EA m hm (EngB.mk g pb ab ub ob ib rb sb lad lcap (aw_ (uniq [] p))) B F d kb fb)) (nw:=(rls (bo_ m) idk (aM_ (uniq [] p)) (Ix.add x (decide (f∈fm)) f) f (j+1) (q,fm)).1) (Hs:=V) W bg_ rfl zp) (show _=Value.int .i64 (List.length (rls (bo_ m) idk (aM_ (uniq [] p)) (Ix.add x (decide (f∈fm)) f) f (j+1) (q,fm)).1:Int) from rfl)) rfl (Zi 1 (fun hr_7=>?_) fun hr_7=>?_)
 ·omega
 refine Zi 8 (fun hr_8=>?_) fun hr_8=>?_
 ·refine Zz 7 ?_
  refine e_ (J_ jq_ rfl rfl) rfl (z_ 0 bR_ rfl rfl rfl rfl rfl rfl (Zz 4 ?_));exact gb_ ⟨((Cl.mk [] none 0 [] none 0),2),ja_ Y Z a0 X (by rw[if_neg zi_]) (fX_ J hL hf (j+1) rfl).1 (fX_ J hL hf (j+1) rfl).2.2.1 za_⟩ (fun aa v A C=>fx_ (us:=Cl.cells (Cl.mk [] none 0 [] none 0)) 0 im_ it_ bR_ rfl rfl rfl rfl aa v A C) f_ (fun v _ h=>by exact⟨.inl rfl,.inl rfl,trivial⟩)
 refine Zz 5 ?_;refine e_ (J_ jq_ rfl rfl) rfl (z_ 0 bR_ rfl rfl rfl rfl rfl rfl (Zz 4 ?_));exact gb_ ⟨((Cl.mk [] none 0 [] none 0),3),ja_ Y Z a0 X (by rw[if_pos zi_]) (fX_ J hL hf (j+1) rfl).1 (fX_ J hL hf (j+1) rfl).2.2.1 za_⟩ (fun aa v A C=>fx_ (us:=Cl.cells (Cl.mk [] none 0 [] none 0)) 0 im_ it_ bR_ rfl rfl rfl rfl aa v A C) f_ (fun v _ h=>by exact⟨.inl rfl,.inl rfl,trivial⟩)):G:=h
set_option maxHeartbeats 4000000 in
theorem all_c (p:List Pc) (a3:Option Addr) (a8:Nat) (bu:Int) (hsm:∀ x∈p,x.sm) (hp:p.length≤100000000):Tri Tryz.prog 32 #[.slice a3 (List.length p) a8,.int .i64 bu] [] [ai_ a3 (List.flatMap Pc.cells p),lQ_] (fun y:{y:Cl×Int // fv_ p bu y.1 y.2}=>.tuple #[y.1.1.val,.int .i64 y.1.2]) (fun _=>[]) (fun y=>y.1.1.row):=by
 refine i_ Tryz.func32 rfl rfl Tryz.ntmps32 rfl fun v_1=>?_;refine Zz 2 ?_;refine E_ Tryz.zeroValue67 rfl fun b_1=>Zz 3 ?_
 refine kF_ (Zz 4 ?_);refine j_ (yp_ p a3 a8 za_ hsm) rfl f_ zf rfl fun _=>Zi 6 (fun hr_1=>?_) fun hr_1=>?_
 ·have Y:=hr_1
  refine Zi 9 (fun hr_2=>?_) fun hr_2=>?_
  ·have Z:=hr_2
   refine Zi 4 (fun hr_3=>?_) fun hr_3=>?_
   ·have a0:=hr_3
    refine Zz 7 ?_;obtain⟨m,X⟩:∃ m:Nat,min bu 65536=(m:Int):=⟨(min bu 65536).toNat,by omega⟩;have hm:m≤65536:=by omega
    have J:=uO_ (oS_ Y);have hpl:∀ k,(lat (aM_ (uniq [] p)) k).length≤1000000000:=fun k=>by have A:=dB_ (aM_ (uniq [] p)) k;have C:=mZ_ (uniq [] p);have h_3:=jN_ p [];simp only[List.length_nil]at h_3;omega
    refine Zz 2 ?_;refine j_ (qJ_ p a3 a8 za_) rfl f_ zf rfl fun⟨⟨g,pb,kb,ab,ub,ob,ib,rb,sb,fb,lv,hm_1,hl_1⟩,hy⟩=>?_;dsimp only;dsimp only[NewE.own,NewE.ok]at hy ⊢;obtain⟨hym,hyl⟩:=hy;simp only[List.cons_append,List.append_assoc];refine bn_ hyl (c_ (c_ (c_ (c_ (c_ (c_ (c_ (c_ (c_ (g_ y_)))))))))) fun lad lcap hlad hclad hmlad hzlad=>?_;subst hlad;refine E_ Tryz.zeroValue116 rfl fun B=>C_ (W_ d_ (W_ d_ (W_ d_ (W_ d_ (W_ d_ (W_ d_ (W_ d_ (W_ d_ (W_ d_ (W_ d_ (bj_ aX_))))))))))) (z_ 0 Tryz.sizeOf116 rfl rfl rfl rfl rfl rfl (Zz 5 ?_))
    refine e_ (ar_ (jJ_ rfl rfl) (congrArg (Value.int .i64) X)) rfl (E_ kA_ rfl fun F=>z_ 0 au_ rfl rfl rfl rfl rfl rfl (Zz 4 ?_));refine E_ ds_ rfl fun d=>Zz 5 ?_
    refine e_ (bF_ rfl rfl) rfl (Zz 2 ?_);refine z_ 3 eF_ rfl rfl rfl rfl rfl rfl (Zz 3 ?_);refine eJ_ (bU_ B (.cells #[zp_ g 0] 116 (0,0))) (bj_ (c_ (c_ d_))) (fun _ A C _=>⟨A,C⟩) ?_;refine eJ_ (bU_ F (.cells #[.int .i64 (m:Int)] 3 (0,0))) (bj_ (c_ d_)) (fun _ A C _=>⟨A,C⟩) ?_;refine eJ_ (bU_ g (.cells #[.map (some pb),.slice lad (List.length (aw_ (uniq [] p))) lcap,.map (some kb),.func (.func 73) #[] #[zp_ B 0,zp_ F 0,zp_ d 0],.map (some ab),.map (some ub),.map (some ob),.map (some ib),.map (some rb),.map (some sb),.map (some fb)] 124 (0,0))) (bj_ (c_ d_)) (fun _ A C _=>⟨A,C⟩) ?_;refine nh_ hM_ hym (c_ (c_ (c_ (c_ (c_ (c_ (c_ (c_ (c_ H_))))))))) fun adr=>?_;refine Zz 2 ?_;refine j_ (atS_c p a3 a8 za_) rfl f_ zf rfl fun⟨⟨aad,acap⟩,hac,ham,haz⟩=>?_;dsimp only;refine Zz 7 ?_;refine j_ (yt_ (EngB.mk g pb ab ub ob ib rb sb lad lcap (aw_ (uniq [] p))) (EA m hm (EngB.mk g pb ab ub ob ib rb sb lad lcap (aw_ (uniq [] p))) B F d kb fb) [] [] [(d,.cells #[.slice none 0 0] 26 (0,0)),(kb,.map #[] 0),(fb,.map #[] 0)] ⟨.slice none 0 0,#[],0,#[],0,[],[],rfl,ax_.nil _ _,SetE.nil,SetE.nil,by simp⟩ (atS p) aad acap (by have:=tt_ p;omega) (by have:=lG_ (uniq [] p);have h_3:=jN_ p [];simp only[List.length_nil]at h_3;show (aw_ (uniq [] p)).length≤_;omega)) rfl (l_ d_ (l_ d_ (c_ (c_ (c_ (c_ (c_ (c_ d_)))))))) (fun v _ h=>by exact⟨h.2.2.1,h.2.2.2.2.2.1,h.1,⟨h.2.2.2.2.1,h.2.2.2.1,h.2.2.1⟩,trivial⟩) rfl fun⟨Hs_1,hS_1⟩=>?_;dsimp only;refine Zz 2 ?_;refine C_ (W_ (g_ d_) (W_ (g_ d_) (W_ (g_ d_) (W_ (g_ d_) (W_ (g_ d_) (W_ (g_ d_) (bj_ aX_))))))) (Zz 3 ?_);refine j_ (xt_ g) rfl f_ zt rfl fun⟨a5,a6,a4⟩=>?_;dsimp only;refine E_ Tryz.zeroValue128 rfl fun a2=>z_ 0 Tryz.sizeOf128 rfl rfl rfl rfl rfl rfl (Zz 3 ?_)
    refine kH_ (Zz 8 ?_);refine K_ (ι:={y:Nat×List Fc×List Fc×Ix×Hp×Hp×Hp×Hp×Hp×Hp×Hp // LoopA (uniq [] p) (atS p) m y.1 y.2.1 y.2.2.1 y.2.2.2.1∧((EA m hm (EngB.mk g pb ab ub ob ib rb sb lad lcap (aw_ (uniq [] p))) B F d kb fb)).St y.2.1 y.2.2.1 y.2.2.2.2.2.2.2.2.2.2∧IxO 9 36 (EngB.mk g pb ab ub ob ib rb sb lad lcap (aw_ (uniq [] p))) y.2.2.2.1 ⟨y.2.2.2.2.1,y.2.2.2.2.2.1,y.2.2.2.2.2.2.1,y.2.2.2.2.2.2.2.1,y.2.2.2.2.2.2.2.2.1,y.2.2.2.2.2.2.2.2.2.1⟩∧sc_ y.2.2.2.1 y.1}) (fun y=>[(0,.slice a3 (List.length p) a8),(1,.int .i64 bu),(4,zp_ b_1 0),(7,zp_ B 0),(8,zp_ F 0),(9,zp_ d 0),(10,.slice aad (List.length (atS p)) acap),(11,zp_ a2 0),(12,.int .i64 (y.1.1:Int))]) (fun y=>((b_1,.cells #[.slice none 0 0,.slice none 0 0] 67 (0,0))::((a2,.cells #[.slice none 0 0,.slice (some ⟨a5,0,none⟩) 6 6,.slice (some ⟨a6,0,none⟩) 4 4,.slice (some ⟨a4,0,none⟩) 2 2] 128 (0,0))::(y.1.2.2.2.2.1++(y.1.2.2.2.2.2.1++(y.1.2.2.2.2.2.2.1++(y.1.2.2.2.2.2.2.2.1++(y.1.2.2.2.2.2.2.2.2.1++(y.1.2.2.2.2.2.2.2.2.2.1++y.1.2.2.2.2.2.2.2.2.2.2))))))))) (fun y=>[ai_ (some ⟨a5,0,none⟩) (List.flatMap fvC (rlV g 1)),ai_ (some ⟨a6,0,none⟩) (List.flatMap fvC (rlV g 2)),ai_ (some ⟨a4,0,none⟩) (List.flatMap fvC (rlV g 3)),ai_ aad (List.flatMap ak_ (atS p)),mlF Tryz.prog 208 Ky.val Pc.cells pb (aM_ (uniq [] p)) adr,bU_ g (.cells #[.map (some pb),.slice lad (List.length (aw_ (uniq [] p))) lcap,.map (some kb),.func (.func 73) #[] #[zp_ B 0,zp_ F 0,zp_ d 0],.map (some ab),.map (some ub),.map (some ob),.map (some ib),.map (some rb),.map (some sb),.map (some fb)] 124 (0,0)),bU_ F (.cells #[.int .i64 (m:Int)] 3 (0,0)),bU_ B (.cells #[zp_ g 0] 116 (0,0)),ai_ lad (List.flatMap ak_ (aw_ (uniq [] p))),ai_ a3 (List.flatMap Pc.cells p),lQ_]) (fun y=>m+1 - y.1.1) ⟨((0:Nat),(emits (bo_ m) (fj_ (aw_ (uniq [] p)) (atS p)) []),([]:List Fc),Ix.nil,[(ab,.map #[] 0)],[(ub,.map #[] 0)],[(ob,.map #[] 0)],[(ib,.map #[] 0)],[(rb,.map #[] 0)],[(sb,.map #[] 0)],Hs_1),qO_ J rfl,by exact hS_1,⟨cS_.nil _ _,cS_.nil _ _,cS_.nil _ _,cS_.nil _ _,cS_.nil _ _,cS_.nil _ _⟩,wd_⟩ zl (l_ (c_ (c_ (c_ (c_ (c_ (c_ (c_ d_))))))) (l_ d_ (l_ d_ (l_ d_ (l_ d_ (l_ d_ (l_ d_ (l_ d_ ad_)))))))) zh ?_;rintro ⟨⟨n,q,fm,x,Ha,Hu,Ho,Hi,Hr,Hm,Hs⟩,hL,hS,hI,hz⟩;dsimp only at hL hS hI hz ⊢;obtain⟨L,M,N,I,K,qf_1,H,hHs_1,O,hEk_1,hEf_1,hqf_1⟩:=hS;subst hHs_1;have hqm:=hL.len;have hnq:=hL.le;obtain⟨hxl,hyl⟩:=qR_ hz za_;refine bf_ (C_ (W_ d_ (W_ d_ (W_ (g_ (g_ (g_ (g_ (g_ (g_ d_)))))) (bj_ (g_ (g_ (g_ (g_ (g_ (g_ d_)))))))))) (Zz 4 ?_));refine e_ (eU_ O w_ rfl) rfl ?_;refine Zi 0 (fun hr_4=>?_) fun hr_4=>?_
    ·refine Zz 8 ?_
     refine t_ 0 [0,1,2,3,4,5,6] zk zs (Zz 4 ?_);refine N_ rfl (ar_ (mw_ (E:=(EA m hm (EngB.mk g pb ab ub ob ib rb sb lad lcap (aw_ (uniq [] p))) B F d kb fb)) (nw:=q) (Hs:=((d,.cells #[L] 26 (0,0))::(kb,.map M N)::([(fb,.map I K)]++H))) ⟨L,M,N,I,K,qf_1,H,rfl,O,hEk_1,hEf_1,hqf_1⟩ bg_ rfl zp) (show _=Value.int .i64 (List.length q:Int) from rfl)) rfl (Zi 1 (fun hr_5=>?_) fun hr_5=>?_)
     ·refine Zz 9 ?_
      refine j_ (xp_ O za_) rfl zp zt rfl fun⟨Hq_2,hq_1⟩=>?_;dsimp only;refine Zz 2 ?_;refine C_ (W_ (g_ d_) (W_ (g_ d_) (W_ (g_ d_) (bj_ (g_ d_))))) (bf_ (bn_ hq_1 (c_ (c_ (c_ (c_ y_)))) fun fad fcap hfad hcfad hmfad hzfad=>?_));subst hfad;refine Zz 3 ?_;refine e_ (J_ jq_ rfl rfl) rfl (z_ 0 bR_ rfl rfl rfl rfl rfl rfl (Zz 4 ?_));exact gb_ ⟨((Cl.mk (atS p) aad acap (eP_ q) fad fcap),0),yD_ Y Z a0 X ⟨hac,ham,haz,hcfad,hmfad,hzfad⟩ rfl hL za_ za_ rfl⟩ (fun aa v A C=>fx_ (us:=Cl.cells (Cl.mk (atS p) aad acap (eP_ q) fad fcap)) 0 im_ it_ bR_ rfl rfl rfl rfl aa v A C) f_ zf
     refine Zi 8 (fun hr_6=>?_) fun hr_6=>?_
     ·refine Zz 7 ?_
      refine e_ (J_ jq_ rfl rfl) rfl (z_ 0 bR_ rfl rfl rfl rfl rfl rfl (Zz 4 ?_));exact gb_ ⟨((Cl.mk [] none 0 [] none 0),2),ja_ Y Z a0 X (by rw[if_neg zi_]) hL.nd hL.der za_⟩ (fun aa v A C=>fx_ (us:=Cl.cells (Cl.mk [] none 0 [] none 0)) 0 im_ it_ bR_ rfl rfl rfl rfl aa v A C) f_ (fun v _ h=>by exact⟨.inl rfl,.inl rfl,trivial⟩)
     refine Zz 5 ?_;refine e_ (J_ jq_ rfl rfl) rfl (z_ 0 bR_ rfl rfl rfl rfl rfl rfl (Zz 4 ?_));exact gb_ ⟨((Cl.mk [] none 0 [] none 0),3),ja_ Y Z a0 X (by rw[if_pos zi_]) hL.nd hL.der za_⟩ (fun aa v A C=>fx_ (us:=Cl.cells (Cl.mk [] none 0 [] none 0)) 0 im_ it_ bR_ rfl rfl rfl rfl aa v A C) f_ (fun v _ h=>by exact⟨.inl rfl,.inl rfl,trivial⟩)
    have hlf:n<List.length q:=by omega
    obtain⟨f,hf⟩:∃ e_1,q[n]? = some e_1:=⟨_,List.getElem?_eq_getElem hlf⟩;have hmf:f∈q:=List.mem_of_getElem? hf;have hfd:=hL.der f hmf;have hform:=hfd.form J;obtain⟨hxl_1,hyl_1⟩:=qR_ (kh_ hz (decide (f∈fm)) f) za_;refine Zz 11 ?_;refine e_ (bH_ O w_ s_ rfl rfl za_ za_) rfl (e_ (eV_ O zp aB_ s_ rfl (Fc.cells_len _) ze_ (p_ Fc.cells_len hf)) rfl (E_ Q_ rfl fun b_6=>z_ 0 s_ rfl rfl rfl rfl rfl rfl (Zz 6 ?_)));refine j_ (xX_ (EngB.mk g pb ab ub ob ib rb sb lad lcap (aw_ (uniq [] p))) (EA m hm (EngB.mk g pb ab ub ob ib rb sb lad lcap (aw_ (uniq [] p))) B F d kb fb) x f q fm ((d,.cells #[L] 26 (0,0))::(kb,.map M N)::([(fb,.map I K)]++H)) ⟨L,M,N,I,K,qf_1,H,rfl,O,hEk_1,hEf_1,hqf_1⟩ Ha Hu Ho Hi Hr Hm hI hxl hyl) rfl (B_ (c_ (c_ (c_ (c_ (c_ y_))))) (B_ (c_ (c_ (c_ (c_ (c_ y_))))) (B_ (c_ (c_ (c_ (c_ (c_ y_))))) (B_ (c_ (c_ (c_ (c_ (c_ y_))))) (B_ (c_ (c_ (c_ (c_ (c_ y_))))) (B_ (c_ (c_ (c_ (c_ (c_ y_))))) (l_ (c_ (c_ (c_ d_))) (l_ (c_ (c_ (c_ d_))) (B_ (c_ (c_ (c_ y_))) (c_ (c_ H_))))))))))) zf rfl fun⟨⟨R,S,T,Q,P,U⟩,hI_1⟩=>?_;dsimp only;refine C_ xG_ (Zz 2 ?_);refine C_ (W_ (g_ (g_ (g_ (g_ (g_ (g_ d_)))))) (W_ (g_ (g_ (g_ (g_ (g_ (g_ d_)))))) (W_ (g_ (g_ (g_ (g_ (g_ (g_ (g_ (g_ d_)))))))) (W_ (g_ (g_ (g_ (g_ (g_ (g_ (g_ (g_ d_)))))))) (bj_ (g_ (g_ (g_ (g_ (g_ (g_ (g_ aX_)))))))))))) (Zz 4 ?_);rcases iU_ hform with hk|hk|hk
    ·refine e_ (ar_ (ea_ tK_ Tryz.sizeOf127 rfl rfl za_ za_) (show _=zp_ a2 1 from by rw[hk];rfl)) rfl ?_
     refine Zz 6 ?_;refine dN_ (H':=((b_1,.cells #[.slice none 0 0,.slice none 0 0] 67 (0,0))::((a2,.cells #[.slice none 0 0,.slice (some ⟨a5,0,none⟩) 6 6,.slice (some ⟨a6,0,none⟩) 4 4,.slice (some ⟨a4,0,none⟩) 2 2] 128 (0,0))::((b_6,.cells #[.int .i64 f.kind,str f.a,str f.b,str f.r,.int .i64 f.lo,.int .i64 f.hi] 36 (0,0))::(R++(S++(T++(Q++(P++(U++((d,.cells #[L] 26 (0,0))::(kb,.map M N)::([(fb,.map I K)]++H)))))))))))) (l_ (c_ (c_ (c_ d_))) (l_ (c_ (c_ (c_ d_))) (l_ (c_ (c_ d_)) (B_ (c_ (c_ y_)) (B_ (c_ (c_ y_)) (B_ (c_ (c_ y_)) (B_ (c_ (c_ y_)) (B_ (c_ (c_ y_)) (B_ (c_ (c_ y_)) (l_ d_ (l_ d_ (B_ y_ ad_)))))))))))) (fun v _ h=>h) ?_;refine K_ (ι:={y:Nat×Hp // y.1≤6∧((EA m hm (EngB.mk g pb ab ub ob ib rb sb lad lcap (aw_ (uniq [] p))) B F d kb fb)).St (rls (bo_ m) idk (aM_ (uniq [] p)) (Ix.add x (decide (f∈fm)) f) f y.1 (q,fm)).1 (rls (bo_ m) idk (aM_ (uniq [] p)) (Ix.add x (decide (f∈fm)) f) f y.1 (q,fm)).2 y.2∧(y.1=0∨((rls (bo_ m) idk (aM_ (uniq [] p)) (Ix.add x (decide (f∈fm)) f) f y.1 (q,fm)).1).length≤m)}) (fun y=>[(0,.slice a3 (List.length p) a8),(1,.int .i64 bu),(4,zp_ b_1 0),(7,zp_ B 0),(8,zp_ F 0),(9,zp_ d 0),(10,.slice aad (List.length (atS p)) acap),(11,zp_ a2 0),(12,.int .i64 (n:Int)),(13,zp_ b_6 0),(60,.slice (some ⟨a5,0,none⟩) 6 6),(61,.int .i64 6),(62,.int .i64 (y.1.1:Int))]) (fun y=>((b_1,.cells #[.slice none 0 0,.slice none 0 0] 67 (0,0))::((a2,.cells #[.slice none 0 0,.slice (some ⟨a5,0,none⟩) 6 6,.slice (some ⟨a6,0,none⟩) 4 4,.slice (some ⟨a4,0,none⟩) 2 2] 128 (0,0))::((b_6,.cells #[.int .i64 f.kind,str f.a,str f.b,str f.r,.int .i64 f.lo,.int .i64 f.hi] 36 (0,0))::(R++(S++(T++(Q++(P++(U++y.1.2)))))))))) (fun y=>[ai_ (some ⟨a5,0,none⟩) (List.flatMap fvC (rlV g 1)),ai_ (some ⟨a6,0,none⟩) (List.flatMap fvC (rlV g 2)),ai_ (some ⟨a4,0,none⟩) (List.flatMap fvC (rlV g 3)),ai_ aad (List.flatMap ak_ (atS p)),mlF Tryz.prog 208 Ky.val Pc.cells pb (aM_ (uniq [] p)) adr,bU_ g (.cells #[.map (some pb),.slice lad (List.length (aw_ (uniq [] p))) lcap,.map (some kb),.func (.func 73) #[] #[zp_ B 0,zp_ F 0,zp_ d 0],.map (some ab),.map (some ub),.map (some ob),.map (some ib),.map (some rb),.map (some sb),.map (some fb)] 124 (0,0)),bU_ F (.cells #[.int .i64 (m:Int)] 3 (0,0)),bU_ B (.cells #[zp_ g 0] 116 (0,0)),ai_ lad (List.flatMap ak_ (aw_ (uniq [] p))),ai_ a3 (List.flatMap Pc.cells p),lQ_]) (fun y=>6 - y.1.1) ⟨((0:Nat),((d,.cells #[L] 26 (0,0))::(kb,.map M N)::([(fb,.map I K)]++H))),by omega,by exact⟨L,M,N,I,K,qf_1,H,rfl,O,hEk_1,hEf_1,hqf_1⟩,.inl rfl⟩ zl zp zh ?_;rintro ⟨⟨j,Hs⟩,hj,G,hjm⟩;dsimp only at hj G hjm ⊢;refine Zi 2 (fun hr_5=>?_) fun hr_5=>?_
     ·have ej:j=6:=by omega
      have hjl:((rls (bo_ m) idk (aM_ (uniq [] p)) (Ix.add x (decide (f∈fm)) f) f j (q,fm)).1).length≤m:=hjm.resolve_left za_;rw[ej]at hjl G;refine Zz 12 ?_;exact x_ ⟨(n+1,(rls (bo_ m) idk (aM_ (uniq [] p)) (Ix.add x (decide (f∈fm)) f) f 6 (q,fm)).1,(rls (bo_ m) idk (aM_ (uniq [] p)) (Ix.add x (decide (f∈fm)) f) f 6 (q,fm)).2,(Ix.add x (decide (f∈fm)) f),R,S,T,Q,P,U,Hs),(jx_ J hL hf (by have e:nrl f=6:=(by unfold nrl;simp[hk]);rw[e]) za_),(by exact G),hI_1,(kh_ hz _ f)⟩ zb_ zl (l_ d_ (l_ d_ (B_ (c_ y_) (B_ (c_ y_) (B_ (c_ y_) (B_ (c_ y_) (B_ (c_ y_) (B_ (c_ y_) H_)))))))) zh
     have a7:j<List.length (rlV g 1):=by show j<6;omega
     obtain⟨fv,a1⟩:∃ e_1,(rlV g 1)[j]? = some e_1:=⟨_,List.getElem?_eq_getElem a7⟩;have hmfv:fv∈(rlV g 1):=List.mem_of_getElem? a1;refine Zz 10 ?_;refine e_ (O_ aW_ eF_ rfl rfl (fun v _ h=>aq_ (n:=1) iT_ ze_ (by exact h.1) a1) za_ za_) rfl (e_ (bl_ (ad:=(some ⟨a5,0,none⟩)) Tryz.isAgg120 rfl zf (p_ iT_ a1 0 _ rfl)) rfl (Zz 7 ?_));obtain⟨nr,rfl,hT⟩:=xw_ (EngB.mk g pb ab ub ob ib rb sb lad lcap (aw_ (uniq [] p))) (EA m hm (EngB.mk g pb ab ub ob ib rb sb lad lcap (aw_ (uniq [] p))) B F d kb fb) (EngA.mk adr (fun _=>(none,0)) (fun _=>(none,0)) (fun _=>(none,0)) (fun _=>(none,0)) (fun _=>(none,0)) (fun _=>(none,0))) (aM_ (uniq [] p)) (Ix.add x (decide (f∈fm)) f) f (rls (bo_ m) idk (aM_ (uniq [] p)) (Ix.add x (decide (f∈fm)) f) f j (q,fm)).1 (rls (bo_ m) idk (aM_ (uniq [] p)) (Ix.add x (decide (f∈fm)) f) f j (q,fm)).2 Hs G R S T Q P U hI_1 hpl hxl_1 hyl_1 (fun hk=>(hO_ hform hk).2.2) (fun _ y hy=>(J y (pm9.1 hy).1).num (.inr (pm9.1 hy).2.1)) hk j a1;exact hf_
    ·refine e_ (ar_ (ea_ tK_ Tryz.sizeOf127 rfl rfl za_ za_) (show _=zp_ a2 2 from by rw[hk];rfl)) rfl ?_
     refine Zz 6 ?_;refine dN_ (H':=((b_1,.cells #[.slice none 0 0,.slice none 0 0] 67 (0,0))::((a2,.cells #[.slice none 0 0,.slice (some ⟨a5,0,none⟩) 6 6,.slice (some ⟨a6,0,none⟩) 4 4,.slice (some ⟨a4,0,none⟩) 2 2] 128 (0,0))::((b_6,.cells #[.int .i64 f.kind,str f.a,str f.b,str f.r,.int .i64 f.lo,.int .i64 f.hi] 36 (0,0))::(R++(S++(T++(Q++(P++(U++((d,.cells #[L] 26 (0,0))::(kb,.map M N)::([(fb,.map I K)]++H)))))))))))) (l_ (c_ (c_ (c_ d_))) (l_ (c_ (c_ (c_ d_))) (l_ (c_ (c_ d_)) (B_ (c_ (c_ y_)) (B_ (c_ (c_ y_)) (B_ (c_ (c_ y_)) (B_ (c_ (c_ y_)) (B_ (c_ (c_ y_)) (B_ (c_ (c_ y_)) (l_ d_ (l_ d_ (B_ y_ ad_)))))))))))) (fun v _ h=>h) ?_;refine K_ (ι:={y:Nat×Hp // y.1≤4∧((EA m hm (EngB.mk g pb ab ub ob ib rb sb lad lcap (aw_ (uniq [] p))) B F d kb fb)).St (rls (bo_ m) idk (aM_ (uniq [] p)) (Ix.add x (decide (f∈fm)) f) f y.1 (q,fm)).1 (rls (bo_ m) idk (aM_ (uniq [] p)) (Ix.add x (decide (f∈fm)) f) f y.1 (q,fm)).2 y.2∧(y.1=0∨((rls (bo_ m) idk (aM_ (uniq [] p)) (Ix.add x (decide (f∈fm)) f) f y.1 (q,fm)).1).length≤m)}) (fun y=>[(0,.slice a3 (List.length p) a8),(1,.int .i64 bu),(4,zp_ b_1 0),(7,zp_ B 0),(8,zp_ F 0),(9,zp_ d 0),(10,.slice aad (List.length (atS p)) acap),(11,zp_ a2 0),(12,.int .i64 (n:Int)),(13,zp_ b_6 0),(60,.slice (some ⟨a6,0,none⟩) 4 4),(61,.int .i64 4),(62,.int .i64 (y.1.1:Int))]) (fun y=>((b_1,.cells #[.slice none 0 0,.slice none 0 0] 67 (0,0))::((a2,.cells #[.slice none 0 0,.slice (some ⟨a5,0,none⟩) 6 6,.slice (some ⟨a6,0,none⟩) 4 4,.slice (some ⟨a4,0,none⟩) 2 2] 128 (0,0))::((b_6,.cells #[.int .i64 f.kind,str f.a,str f.b,str f.r,.int .i64 f.lo,.int .i64 f.hi] 36 (0,0))::(R++(S++(T++(Q++(P++(U++y.1.2)))))))))) (fun y=>[ai_ (some ⟨a5,0,none⟩) (List.flatMap fvC (rlV g 1)),ai_ (some ⟨a6,0,none⟩) (List.flatMap fvC (rlV g 2)),ai_ (some ⟨a4,0,none⟩) (List.flatMap fvC (rlV g 3)),ai_ aad (List.flatMap ak_ (atS p)),mlF Tryz.prog 208 Ky.val Pc.cells pb (aM_ (uniq [] p)) adr,bU_ g (.cells #[.map (some pb),.slice lad (List.length (aw_ (uniq [] p))) lcap,.map (some kb),.func (.func 73) #[] #[zp_ B 0,zp_ F 0,zp_ d 0],.map (some ab),.map (some ub),.map (some ob),.map (some ib),.map (some rb),.map (some sb),.map (some fb)] 124 (0,0)),bU_ F (.cells #[.int .i64 (m:Int)] 3 (0,0)),bU_ B (.cells #[zp_ g 0] 116 (0,0)),ai_ lad (List.flatMap ak_ (aw_ (uniq [] p))),ai_ a3 (List.flatMap Pc.cells p),lQ_]) (fun y=>4 - y.1.1) ⟨((0:Nat),((d,.cells #[L] 26 (0,0))::(kb,.map M N)::([(fb,.map I K)]++H))),by omega,by exact⟨L,M,N,I,K,qf_1,H,rfl,O,hEk_1,hEf_1,hqf_1⟩,.inl rfl⟩ zl zp zh ?_;rintro ⟨⟨j,Hs⟩,hj,G,hjm⟩;dsimp only at hj G hjm ⊢;refine Zi 2 (fun hr_5=>?_) fun hr_5=>?_
     ·have ej:j=4:=by omega
      have hjl:((rls (bo_ m) idk (aM_ (uniq [] p)) (Ix.add x (decide (f∈fm)) f) f j (q,fm)).1).length≤m:=hjm.resolve_left za_;rw[ej]at hjl G;refine Zz 12 ?_;exact x_ ⟨(n+1,(rls (bo_ m) idk (aM_ (uniq [] p)) (Ix.add x (decide (f∈fm)) f) f 4 (q,fm)).1,(rls (bo_ m) idk (aM_ (uniq [] p)) (Ix.add x (decide (f∈fm)) f) f 4 (q,fm)).2,(Ix.add x (decide (f∈fm)) f),R,S,T,Q,P,U,Hs),(jx_ J hL hf (by have e:nrl f=4:=(by unfold nrl;simp[hk]);rw[e]) za_),(by exact G),hI_1,(kh_ hz _ f)⟩ zb_ zl (l_ d_ (l_ d_ (B_ (c_ y_) (B_ (c_ y_) (B_ (c_ y_) (B_ (c_ y_) (B_ (c_ y_) (B_ (c_ y_) H_)))))))) zh
     have a7:j<List.length (rlV g 2):=by show j<4;omega
     obtain⟨fv,a1⟩:∃ e_1,(rlV g 2)[j]? = some e_1:=⟨_,List.getElem?_eq_getElem a7⟩;have hmfv:fv∈(rlV g 2):=List.mem_of_getElem? a1;refine Zz 10 ?_;refine e_ (O_ aW_ eF_ rfl rfl (fun v _ h=>aq_ (n:=1) iT_ ze_ (by exact h.2.1) a1) za_ za_) rfl (e_ (bl_ (ad:=(some ⟨a6,0,none⟩)) Tryz.isAgg120 rfl zf (p_ iT_ a1 0 _ rfl)) rfl (Zz 7 ?_));obtain⟨nr,rfl,hT⟩:=xv_ (EngB.mk g pb ab ub ob ib rb sb lad lcap (aw_ (uniq [] p))) (EA m hm (EngB.mk g pb ab ub ob ib rb sb lad lcap (aw_ (uniq [] p))) B F d kb fb) (EngA.mk adr (fun _=>(none,0)) (fun _=>(none,0)) (fun _=>(none,0)) (fun _=>(none,0)) (fun _=>(none,0)) (fun _=>(none,0))) (aM_ (uniq [] p)) (Ix.add x (decide (f∈fm)) f) f (rls (bo_ m) idk (aM_ (uniq [] p)) (Ix.add x (decide (f∈fm)) f) f j (q,fm)).1 (rls (bo_ m) idk (aM_ (uniq [] p)) (Ix.add x (decide (f∈fm)) f) f j (q,fm)).2 Hs G R S T Q P U hI_1 hpl hxl_1 hyl_1 (fun hk=>(hO_ hform hk).2.2) (fun _ y hy=>(J y (pm9.1 hy).1).num (.inr (pm9.1 hy).2.1)) hk j a1;exact hf_
    refine e_ (ar_ (ea_ tK_ Tryz.sizeOf127 rfl rfl za_ za_) (show _=zp_ a2 3 from by rw[hk];rfl)) rfl ?_;refine Zz 6 ?_;refine dN_ (H':=((b_1,.cells #[.slice none 0 0,.slice none 0 0] 67 (0,0))::((a2,.cells #[.slice none 0 0,.slice (some ⟨a5,0,none⟩) 6 6,.slice (some ⟨a6,0,none⟩) 4 4,.slice (some ⟨a4,0,none⟩) 2 2] 128 (0,0))::((b_6,.cells #[.int .i64 f.kind,str f.a,str f.b,str f.r,.int .i64 f.lo,.int .i64 f.hi] 36 (0,0))::(R++(S++(T++(Q++(P++(U++((d,.cells #[L] 26 (0,0))::(kb,.map M N)::([(fb,.map I K)]++H)))))))))))) (l_ (c_ (c_ (c_ d_))) (l_ (c_ (c_ (c_ d_))) (l_ (c_ (c_ d_)) (B_ (c_ (c_ y_)) (B_ (c_ (c_ y_)) (B_ (c_ (c_ y_)) (B_ (c_ (c_ y_)) (B_ (c_ (c_ y_)) (B_ (c_ (c_ y_)) (l_ d_ (l_ d_ (B_ y_ ad_)))))))))))) (fun v _ h=>h) ?_;refine K_ (ι:={y:Nat×Hp // y.1≤2∧((EA m hm (EngB.mk g pb ab ub ob ib rb sb lad lcap (aw_ (uniq [] p))) B F d kb fb)).St (rls (bo_ m) idk (aM_ (uniq [] p)) (Ix.add x (decide (f∈fm)) f) f y.1 (q,fm)).1 (rls (bo_ m) idk (aM_ (uniq [] p)) (Ix.add x (decide (f∈fm)) f) f y.1 (q,fm)).2 y.2∧(y.1=0∨((rls (bo_ m) idk (aM_ (uniq [] p)) (Ix.add x (decide (f∈fm)) f) f y.1 (q,fm)).1).length≤m)}) (fun y=>[(0,.slice a3 (List.length p) a8),(1,.int .i64 bu),(4,zp_ b_1 0),(7,zp_ B 0),(8,zp_ F 0),(9,zp_ d 0),(10,.slice aad (List.length (atS p)) acap),(11,zp_ a2 0),(12,.int .i64 (n:Int)),(13,zp_ b_6 0),(60,.slice (some ⟨a4,0,none⟩) 2 2),(61,.int .i64 2),(62,.int .i64 (y.1.1:Int))]) (fun y=>((b_1,.cells #[.slice none 0 0,.slice none 0 0] 67 (0,0))::((a2,.cells #[.slice none 0 0,.slice (some ⟨a5,0,none⟩) 6 6,.slice (some ⟨a6,0,none⟩) 4 4,.slice (some ⟨a4,0,none⟩) 2 2] 128 (0,0))::((b_6,.cells #[.int .i64 f.kind,str f.a,str f.b,str f.r,.int .i64 f.lo,.int .i64 f.hi] 36 (0,0))::(R++(S++(T++(Q++(P++(U++y.1.2)))))))))) (fun y=>[ai_ (some ⟨a5,0,none⟩) (List.flatMap fvC (rlV g 1)),ai_ (some ⟨a6,0,none⟩) (List.flatMap fvC (rlV g 2)),ai_ (some ⟨a4,0,none⟩) (List.flatMap fvC (rlV g 3)),ai_ aad (List.flatMap ak_ (atS p)),mlF Tryz.prog 208 Ky.val Pc.cells pb (aM_ (uniq [] p)) adr,bU_ g (.cells #[.map (some pb),.slice lad (List.length (aw_ (uniq [] p))) lcap,.map (some kb),.func (.func 73) #[] #[zp_ B 0,zp_ F 0,zp_ d 0],.map (some ab),.map (some ub),.map (some ob),.map (some ib),.map (some rb),.map (some sb),.map (some fb)] 124 (0,0)),bU_ F (.cells #[.int .i64 (m:Int)] 3 (0,0)),bU_ B (.cells #[zp_ g 0] 116 (0,0)),ai_ lad (List.flatMap ak_ (aw_ (uniq [] p))),ai_ a3 (List.flatMap Pc.cells p),lQ_]) (fun y=>2 - y.1.1) ⟨((0:Nat),((d,.cells #[L] 26 (0,0))::(kb,.map M N)::([(fb,.map I K)]++H))),by omega,by exact⟨L,M,N,I,K,qf_1,H,rfl,O,hEk_1,hEf_1,hqf_1⟩,.inl rfl⟩ zl zp zh ?_;rintro ⟨⟨j,Hs⟩,hj,G,hjm⟩;dsimp only at hj G hjm ⊢;refine Zi 2 (fun hr_5=>?_) fun hr_5=>?_
    ·have ej:j=2:=by omega
     have hjl:((rls (bo_ m) idk (aM_ (uniq [] p)) (Ix.add x (decide (f∈fm)) f) f j (q,fm)).1).length≤m:=hjm.resolve_left za_;rw[ej]at hjl G;refine Zz 12 ?_;exact x_ ⟨(n+1,(rls (bo_ m) idk (aM_ (uniq [] p)) (Ix.add x (decide (f∈fm)) f) f 2 (q,fm)).1,(rls (bo_ m) idk (aM_ (uniq [] p)) (Ix.add x (decide (f∈fm)) f) f 2 (q,fm)).2,(Ix.add x (decide (f∈fm)) f),R,S,T,Q,P,U,Hs),(jx_ J hL hf (by have e:nrl f=2:=(by unfold nrl;simp[hk]);rw[e]) za_),(by exact G),hI_1,(kh_ hz _ f)⟩ zb_ zl (l_ d_ (l_ d_ (B_ (c_ y_) (B_ (c_ y_) (B_ (c_ y_) (B_ (c_ y_) (B_ (c_ y_) (B_ (c_ y_) H_)))))))) zh
    have a7:j<List.length (rlV g 3):=by show j<2;omega
    obtain⟨fv,a1⟩:∃ e_1,(rlV g 3)[j]? = some e_1:=⟨_,List.getElem?_eq_getElem a7⟩;have hmfv:fv∈(rlV g 3):=List.mem_of_getElem? a1;refine Zz 10 ?_;refine e_ (O_ aW_ eF_ rfl rfl (fun v _ h=>aq_ (n:=1) iT_ ze_ (by exact h.2.2.1) a1) za_ za_) rfl (e_ (bl_ (ad:=(some ⟨a4,0,none⟩)) Tryz.isAgg120 rfl zf (p_ iT_ a1 0 _ rfl)) rfl (Zz 7 ?_));obtain⟨nr,rfl,hT⟩:=xu_ (EngB.mk g pb ab ub ob ib rb sb lad lcap (aw_ (uniq [] p))) (EA m hm (EngB.mk g pb ab ub ob ib rb sb lad lcap (aw_ (uniq [] p))) B F d kb fb) (EngA.mk adr (fun _=>(none,0)) (fun _=>(none,0)) (fun _=>(none,0)) (fun _=>(none,0)) (fun _=>(none,0)) (fun _=>(none,0))) (aM_ (uniq [] p)) (Ix.add x (decide (f∈fm)) f) f (rls (bo_ m) idk (aM_ (uniq [] p)) (Ix.add x (decide (f∈fm)) f) f j (q,fm)).1 (rls (bo_ m) idk (aM_ (uniq [] p)) (Ix.add x (decide (f∈fm)) f) f j (q,fm)).2 Hs G R S T Q P U hI_1 hpl hxl_1 hyl_1 (fun hk=>(hO_ hform hk).2.2) (fun _ y hy=>(J y (pm9.1 hy).1).num (.inr (pm9.1 hy).2.1)) hk j a1;exact hf_
   refine Zz 6 ?_;exact jH_
  refine Zz 9 ?_;exact jH_
 refine Zz 5 ?_;refine e_ (J_ jq_ rfl rfl) rfl (Zz 1 ?_);refine z_ 0 bR_ rfl rfl rfl rfl rfl rfl (Zz 4 ?_);exact gb_ ⟨((Cl.mk [] none 0 [] none 0),(db_ p)),wR_ zi_⟩ (fun aa v A C=>fx_ (us:=Cl.cells (Cl.mk [] none 0 [] none 0)) 0 im_ it_ bR_ rfl rfl rfl rfl aa v A C) f_ (fun v _ h=>by exact⟨.inl rfl,.inl rfl,trivial⟩)
def wf_ (f:Fc):Bool:=decide (f=Z_ f.a f.b)
def hC_ (A:List Str) (f:Fc):Bool :=
  decide (f.a∈A)&&(if f.kind=1 then decide (f.b∈A)&&wf_ f
    else if f.kind=2 then decide (f.b∈A)&&(decide (f.r≠[])&&decide (f=aa_ f.a f.r f.b))
    else if f.kind=3 then decide (f.r≠[])&&(decide (f=af_ f.a f.r f.lo f.hi)&&(decide (-1099511627776≤f.lo)&&(decide (f.lo≤f.hi)&&decide (f.hi≤1099511627776))))
    else false)
theorem sS_ {α:Type} {lt:α→α→Prop} (B:∀ {x y z},lt x y→lt y z→lt x z) {l:List α} {k:Nat} {a b:α} (h:(l.take (k+1)).Pairwise lt) (A:l[k]? = some a) (C:l[k+1]? = some b) (e:lt a b):(l.take (k+2)).Pairwise lt:=by
 rw[List.take_add_one,C,Option.toList_some,List.pairwise_append];refine⟨h,by simp,fun x d y q=>?_⟩;rw[List.mem_singleton]at q;subst q;rw[List.take_add_one,A,Option.toList_some]at h d;rcases List.mem_append.1 d with d|d
 ·exact B ((List.pairwise_append.1 h).2.2 x d a zj_) e
 rw[List.mem_singleton]at d;subst d;exact e
theorem vz_ {α:Type} {lt:α→α→Prop} {l:List α} {k:Nat} {a b:α} (x:l[k]? = some a) (B:l[k+1]? = some b) (d:¬ lt a b):¬ l.Pairwise lt:=fun h=>by
  obtain⟨q,A⟩:=List.getElem?_eq_some_iff.1 x;obtain⟨e,y⟩:=List.getElem?_eq_some_iff.1 B;have:=List.pairwise_iff_getElem.1 h k (k+1) q e za_;rw[A,y]at this;exact d this
theorem vy_ {α:Type} {lt:α→α→Prop} (l:List α):(l.take 1).Pairwise lt:=by
  cases l<;>simp
theorem tn_ {x y:Fc}:0≤hE_ x y↔¬ x.lt y:=by rw[← rk_];omega
theorem yn_ {x y:Fc} (h:¬ 0≤hE_ x y):x.lt y:=Decidable.byContradiction fun q=>h (tn_.2 q)
theorem any_no {α:Type} {p:α→Bool} {l:List α} {j:Nat} {x:α} (h:∀ y∈l.take j,p y=false) (q:l[j]? = some x) (e:p x=false):∀ y∈l.take (j+1),p y=false:=fun y d=>by
 rw[List.take_add_one,q]at d;simp only[Option.toList_some,List.mem_append,List.mem_singleton]at d;rcases d with d|rfl
 ·exact h y d
 exact e
theorem jI_ {P:Program} {N:Nf} {fr:Fr} {H:Hp} {Γ:List Fct} {t h ty:TypeId} {x y:Operand} {m n:List UInt8} (A:Fr.ev fr x=some (str m)) (q:Fr.ev fr y=some (str n)):Yld P N fr H Γ (.binOp .geq t x y h) ty (.bool (decide (n≤m))) :=
  fun a v d _ _ _ _ _=>by
    have e:decide (n≤m)=!decide (m<n):=by rw[Bool.eq_iff_iff];simp[List.not_lt]
    rw[e,← kt_];simp[execOp,d.ev A,d.ev q,str,eqGuard,binOp,Op.stringOp]
theorem jG_ {G:Prop} (h:G:=by
 refine G_ (dg_ rfl rfl) rfl fun e A=>Zz 4 ?_
 exact Y_ vs_ () (m_ rfl (by rw[← A,decide_eq_decide];unfold Fc.lt;simp_all [gq_])) f_ zt):G:=h
theorem less_c (x y:Fc):Fn0 Tryz.prog 92 #[Fc.val x,Fc.val y] (.bool (decide (x.lt y))):=by
 refine i_ Tryz.func92 rfl rfl Tryz.ntmps92 rfl fun E=>?_;refine Zz 2 ?_;refine V_ rfl rfl fun F=>V_ rfl rfl fun G=>Zi 11 (fun C=>?_) fun C=>?_
 ·refine Zi 10 (fun h=>?_) fun h=>?_
  ·refine Zi 10 (fun q=>?_) fun q=>?_
   ·refine Zi 10 (fun d=>?_) fun d=>?_
    ·refine Zi 10 (fun B=>?_) fun B=>?_
     ·refine Zz 12 ?_
      exact jG_
     refine Zz 10 ?_;exact jG_
    refine Zz 10 ?_;refine G_ (em_ rfl rfl) rfl fun e B=>Zz 4 ?_
    exact Y_ vs_ () (m_ rfl (by rw[← B,decide_eq_decide];unfold Fc.lt;simp_all [gq_])) f_ zt
   refine Zz 10 ?_;refine G_ (em_ rfl rfl) rfl fun e d=>Zz 4 ?_
   exact Y_ vs_ () (m_ rfl (by rw[← d,decide_eq_decide];unfold Fc.lt;simp_all [gq_])) f_ zt
  refine Zz 10 ?_;refine G_ (em_ rfl rfl) rfl fun e q=>Zz 4 ?_
  exact Y_ vs_ () (m_ rfl (by rw[← q,decide_eq_decide];unfold Fc.lt;simp_all [gq_])) f_ zt
 refine Zz 10 ?_;refine G_ (dg_ rfl rfl) rfl fun e h=>Zz 4 ?_
 exact Y_ vs_ () (m_ rfl (by rw[← h,decide_eq_decide];unfold Fc.lt;simp_all [gq_])) f_ zt
theorem pf_ (a b:Str):Fn0 Tryz.prog 54 #[str a,str b] (Fc.val (Z_ a b)):=by
  refine i_ Tryz.func54 rfl rfl Tryz.ntmps54 rfl fun q=>?_;refine Zz 2 ?_;refine E_ Q_ rfl fun x=>Zz 6 ?_
  refine e_ (J_ eb_ rfl rfl) rfl (z_ 0 s_ rfl rfl rfl rfl rfl rfl (Zz 3 ?_));exact gb_ () (fun e v d h=>dE_ (us:=Fc.cells (Z_ a b)) 0 Tryz.results54 aB_ s_ rfl rfl rfl e v d h) f_ zt
theorem jT_ (a r b:Str):Fn0 Tryz.prog 27 #[str a,str r,str b] (Fc.val (aa_ a r b)):=by
  refine i_ Tryz.func27 rfl rfl Tryz.ntmps27 rfl fun q=>?_;refine Zz 2 ?_;refine E_ Q_ rfl fun x=>Zz 7 ?_
  refine e_ (J_ eb_ rfl rfl) rfl (z_ 0 s_ rfl rfl rfl rfl rfl rfl (Zz 3 ?_));exact gb_ () (fun e v d h=>dE_ (us:=Fc.cells (aa_ a r b)) 0 Tryz.results27 aB_ s_ rfl rfl rfl e v d h) f_ zt
theorem sN_ (a r:Str) (lo hi:Int):Fn0 Tryz.prog 56 #[str a,str r,.int .i64 lo,.int .i64 hi] (Fc.val (af_ a r lo hi)):=by
  refine i_ Tryz.func56 rfl rfl Tryz.ntmps56 rfl fun q=>?_;refine Zz 2 ?_;refine E_ Q_ rfl fun x=>Zz 8 ?_
  refine e_ (J_ eb_ rfl rfl) rfl (z_ 0 s_ rfl rfl rfl rfl rfl rfl (Zz 3 ?_));exact gb_ () (fun e v d h=>dE_ (us:=Fc.cells (af_ a r lo hi)) 0 Tryz.results56 aB_ s_ rfl rfl rfl e v d h) f_ zt
theorem kc_ (l:List Str) (ad:Option Addr) (cap:Nat) (x:Str) (hl:l.length≤9223372036854775807):Tri Tryz.prog 15 #[.slice ad (List.length l) cap,str x] [] [ai_ ad (List.flatMap ak_ l)] (fun _:Unit=>.bool (decide (x∈l))) (fun _=>[]) (fun _=>[]):=by
 refine i_ Tryz.func15 rfl rfl Tryz.ntmps15 rfl fun E=>?_;refine Zz 12 ?_;refine K_ (ι:={y:Nat // y≤l.length∧x ∉ l.take y}) (fun y=>[(0,.slice ad (List.length l) cap),(1,str x),(5,.int .i64 (y.1:Int))]) (fun y=>([])) (fun y=>[ai_ ad (List.flatMap ak_ l)]) (fun y=>l.length - y.1) ⟨(0:Nat),by simp,by simp⟩ zl f_ zh ?_;rintro ⟨i,hi,C⟩;dsimp only at hi C ⊢;refine Zi 6 (fun B=>?_) fun B=>?_
 ·refine Zz 11 ?_
  exact Y_ Tryz.results15 () (m_ rfl (by symm;apply decide_eq_false;rwa [List.take_of_length_le za_]at C)) f_ zt
 obtain⟨d,F,A,e⟩:=zge (show i<List.length l by omega);refine Zi 14 (fun h=>?_) fun h=>?_
 ·refine Zz 11 ?_
  exact x_ ⟨i+1,d,fun q=>by rw[List.take_add_one,A]at q;simp only[Option.toList_some,List.mem_append,List.mem_singleton]at q;rcases q with q|rfl;exact C q;simp_all⟩ zb_ zl f_ zh
 refine Zz 9 ?_;exact Y_ Tryz.results15 () (m_ rfl (by symm;apply decide_eq_true;have:=e;simp_all)) f_ zt
theorem dE {p:Prop} {i:Decidable p}:(@decide p i=true)↔p:=⟨fun h=>of_decide_eq_true h,fun h=>decide_eq_true h⟩
theorem yy_ (p:List Pc):[42]∈atS p:=(iZ_ p _).2 (.inr (.inl rfl))
theorem ts_ (p:List Pc):[33]∈atS p:=(iZ_ p _).2 (.inr (.inr rfl))
theorem yW_ {p:List Pc} {x:Pc} (h:x∈p) {s:Str} (e:s=x.a∨s=x.b∨s=x.c) (d:s≠[]):s∈atS p:=by
  refine (iZ_ p s).2 (.inl ((fZ_ p s).2 ?_));refine List.mem_flatMap.2 ⟨x,h,List.mem_filter.2 ⟨?_,by simpa using d⟩⟩;rcases e with rfl|rfl|rfl<;>simp
theorem yx_ {s:Str} (h:be_ s=true):s≠[]:=fun e=>by subst e;revert h;decide
theorem sJ_ {p:Pc} (h:p.valid=true) (hk:p.kind=1∨p.kind=2∨p.kind=3∨p.kind=4∨p.kind=9):p.c≠[]:=by
 unfold Pc.valid at h
 split at h
 ·simp at h
 split at h
 ·simp at h
 split at h
 ·simp at h
 simp only[Bool.and_eq_true]at h;obtain⟨⟨⟨⟨_,y⟩,_⟩,_⟩,_⟩:=h
 have x:∀ {b:Bool},bZ_ b p.c be_=true→b=true→p.c≠[]:=fun d e=>by
   subst e;simp[bZ_]at d;exact yx_ d
 rcases hk with q|q|q|q|q<;>rw[q]at y<;>exact x y ze_
theorem fo1 {A:List Str} {a b:Str}:hC_ A (Z_ a b)=true↔a∈A∧b∈A:=by
  unfold hC_ Z_ wf_;dsimp only;rw[if_pos rfl,Bool.and_eq_true,Bool.and_eq_true,dE,dE,dE];simp[Z_]
theorem fo2 {A:List Str} {a r b:Str}:hC_ A (aa_ a r b)=true↔a∈A∧b∈A∧r≠[]:=by
  unfold hC_ aa_;dsimp only;rw[if_neg ze_,if_pos rfl,Bool.and_eq_true,Bool.and_eq_true,Bool.and_eq_true,dE,dE,dE,dE];simp[aa_]
theorem fo3 {A:List Str} {a r:Str} {lo hi:Int}:hC_ A (af_ a r lo hi)=true↔a∈A∧r≠[]∧-1099511627776≤lo∧lo≤hi∧hi≤1099511627776:=by
  unfold hC_ af_;dsimp only;rw[if_neg ze_,if_neg ze_,if_pos rfl,Bool.and_eq_true,Bool.and_eq_true,Bool.and_eq_true,Bool.and_eq_true,Bool.and_eq_true,dE,dE,dE,dE,dE,dE];simp[af_]
theorem one_ok {p:List Pc} {S:Fc→Prop} (C:∀ x∈p,x.valid=true) (hS:∀ y,S y→hC_ (atS p) y=true) {y:Fc} (h:hI_ p (atS p) S y):hC_ (atS p) y=true:=by
  have A:∀ {x:Pc},x∈p→(x.kind=1∨x.kind=2∨x.kind=3∨x.kind=4∨x.kind=9)→x.c∈atS p:=fun d hk=>yW_ d (.inr (.inr rfl)) (sJ_ (C _ d) hk)
  have q:∀ {x:Pc},x∈p→x.vok:=fun d=>iG_ (C _ d)
  cases h with
  | r1 h=>exact fo1.2 ⟨h,h⟩
  | r2 h=>exact fo1.2 ⟨h,yy_ p⟩
  | r10 d hk h=>exact fo2.2 ⟨h,h,(q d).rok.1 zQ_⟩
  | r3 d hk h=>exact fo1.2 ⟨(fo1.1 (hS _ h)).1,A d zQ_⟩
  | r4 d hk h h'=>exact fo1.2 ⟨(fo1.1 (hS _ h)).1,A d zQ_⟩
  | r5 d hk h=>exact fo2.2 ⟨(fo1.1 (hS _ h)).1,A d zQ_,(q d).rok.1 zQ_⟩
  | r6 d hk h=>exact fo2.2 ⟨(fo2.1 (hS _ h)).1,(fo2.1 (hS _ h)).2.1,(q d).rok.2.2 hk⟩
  | r7 d hk h h'=>exact fo2.2 ⟨(fo2.1 (hS _ h)).1,(fo2.1 (hS _ h')).2.1,((q d).rok.2.1 hk).2⟩
  | r8 d hk h h'=>exact fo1.2 ⟨(fo2.1 (hS _ h)).1,A d zQ_⟩
  | r9 h h'=>exact fo1.2 ⟨(fo2.1 (hS _ h)).1,ts_ p⟩
  | r11 d hk h=>exact fo3.2 ⟨(fo1.1 (hS _ h)).1,(q d).rok.1 zQ_,(q d).num (.inl hk)⟩
  | r12 h h' hm hl =>
    have e:=fo3.1 (hS _ h);have B:=fo3.1 (hS _ h');exact fo3.2 ⟨e.1,e.2.1,by omega,hl,by omega⟩
  | r13 h h' hm hl=>exact fo1.2 ⟨(fo3.1 (hS _ h)).1,ts_ p⟩
  | r14 d hk h e B=>exact fo1.2 ⟨(fo3.1 (hS _ h)).1,A d zQ_⟩
theorem der_ok {p:List Pc} (d:∀ x∈p,x.valid=true) {y:Fc} (h:Der p (atS p) y):hC_ (atS p) y=true:=h _ fun _ e=>one_ok d (fun _ h=>h) e
theorem gA_ {p:List Pc} (h:db_ p=0):∀ x∈p,x.valid=true:=fun x d=>List.all_eq_true.1 (ro_ h).2 x d
theorem fv_.good {p:List Pc} {e:Int} {c:Cl} (h:fv_ p e c 0):db_ p=0∧0≤e∧e≤1073741824∧c.ok∧c.atoms=atS p∧gD_ p (atS p) (min e 65536).toNat (some c.facts):=by
 unfold fv_ at h
 split at h
 ·rename_i d;exact absurd h.2.symm d
 rename_i d
 split at h
 ·exact absurd h.2 ze_
 rename_i q
 rcases h with h|h
 ·exact⟨by simpa using d,by omega,by omega,h.2⟩
 have:=h.2.1;split at this<;>exact absurd this ze_
theorem fv_.bad {p:List Pc} {d:Int} {c:Cl} {e:Int} (h:fv_ p d c e) (q:e≠0):c=Cl.no:=by
 unfold fv_ at h
 split at h
 ·exact h.1
 split at h
 ·exact h.1
 rcases h with h|h
 ·exact absurd h.1 q
 exact h.1
theorem fv_.ok {p:List Pc} {q:Int} {c:Cl} {e:Int} (h:fv_ p q c e):c.ok:=by
 by_cases d:e=0
 ·subst d;exact h.good.2.2.2.1
 rw[h.bad d];exact Cl.no_ok
theorem fv_.len {p:List Pc} {y:Int} {c:Cl} {e:Int} (h:fv_ p y c e):c.atoms.length≤3*p.length+2∧c.facts.length≤65536:=by
 by_cases x:e=0
 ·subst x
  obtain⟨_,_,_,_,d,q⟩:=h.good;refine⟨by rw[d];exact tt_ p,?_⟩;have:=q.2.2;omega
 rw[h.bad x];simp[Cl.no]
theorem tv_ {p:List Pc} {x:Int} {c:Cl} {e:Int} {r:Option (List Fc)} (h:fv_ p x c e) (E:db_ p=0) (G:0≤x) (F:x≤1073741824) (C:gD_ p (atS p) (min x 65536).toNat r):(∀ L,r=some L→e=0∧c.facts=L∧c.atoms=atS p)∧(r=none→c=Cl.no∧e=if x<65536 then 3 else 2):=by
 unfold fv_ at h;rw[if_neg (by simp[E]),if_neg za_]at h;rcases h with⟨d,y,q,A⟩|⟨d,y,q⟩
 ·have e:=gD_.uniq A C
  subst e;exact⟨fun L B=>⟨d,Option.some.inj B,q⟩,fun h=>(by cases h)⟩
 have e:=gD_.uniq q C;subst e;exact⟨fun L B=>(by cases B),fun _=>⟨d,y⟩⟩
def yF_ (p q:List Pc):Prop:=∀ x∈p,∃ y∈q,∃ n,{ y with frm:=n }=x
theorem yF_.trans {p q r:List Pc} (h:yF_ p q) (k:yF_ q r):yF_ p r:=fun x d=>by
  obtain⟨y,A,n,rfl⟩:=h x d;obtain⟨z,e,m,rfl⟩:=k y A;exact⟨z,e,n,rfl⟩
end Go.Proofs.YtpbnmnfdgckaiaaGreatDoor
namespace Go.Vs
open Go Go.Sx Go.Proofs.YtpbnmnfdgckaiaaGreatDoor
theorem me_:∀ {l m:List Str},SrS l→SrS m→(∀ x,x∈l↔x∈m)→l=m
 | [],[],_,_,_=>rfl
 | [],y::m,_,_,h=>absurd ((h y).2 List.mem_cons_self) zj_
 | x::l,[],_,_,h=>absurd ((h x).1 List.mem_cons_self) zj_
 | x::l,y::m,h1,h2,h=>by
   unfold SrS at h1 h2;rw[List.pairwise_cons]at h1 h2
   have e:x=y:=by
     rcases List.mem_cons.1 ((h x).1 List.mem_cons_self) with e|e
     · exact e
     · rcases List.mem_cons.1 ((h y).2 List.mem_cons_self) with q|q
       · exact q.symm
       · exact absurd (List.lt_trans (h2.1 x e) (h1.1 y q)) (mG_ _)
   subst e;rw[me_ h1.2 h2.2 fun z=>?_];constructor
   · intro d
     rcases List.mem_cons.1 ((h z).1 (List.mem_cons_of_mem _ d)) with e|e
     · subst e;exact absurd (h1.1 _ d) (mG_ _)
     · exact e
   · intro d
     rcases List.mem_cons.1 ((h z).2 (List.mem_cons_of_mem _ d)) with e|e
     · subst e;exact absurd (h2.1 _ d) (mG_ _)
     · exact e
abbrev aT_ (l:List Str):List Str:=l.mergeSort fun x y=>decide (x≤y)
inductive Tre where
  | mk (con:Con) (size:Int) (ad:Option Addr) (cap:Nat) (parts:List Tre)
namespace Tre
def con:Tre→Con|mk c _ _ _ _=>c
def size:Tre→Int|mk _ n _ _ _=>n
def ad:Tre→Option Addr|mk _ _ a _ _=>a
def cap:Tre→Nat|mk _ _ _ c _=>c
def parts:Tre→List Tre|mk _ _ _ _ p=>p
end Tre
theorem szs_len:∀ l:List Con,l.length≤Con.sz.szs l
  | []=>Nat.le_refl _
  | c::l=>by have:=szs_len l;have:=c.sz_pos;simp only[List.length_cons,Con.sz.szs];omega
theorem wL_ {x:Ax} {v:Vw} (h:x.memF.p v) {c:Con} (d:c∈[x.left,x.right]):c.memF.p v:=by
 simp only[List.mem_cons,List.not_mem_nil,or_false]at d;rcases d with rfl|rfl
 ·exact h.1
 exact h.2.1
theorem wM_ {x:Ax} (d:x.ok) (q:x.left.sz≤1000000) (h:x.right.sz≤1000000) {c:Con} (e:c∈[x.left,x.right]):c.ok∧c.sz≤1000000:=by
 simp only[List.mem_cons,List.not_mem_nil,or_false]at e;rcases e with rfl|rfl
 ·exact⟨d.left,q⟩
 exact⟨d.right,h⟩
end Go.Vs
namespace Go.Proofs.YtpbnmnfdgckaiaaGreatDoor
open Go Go.Sx Go.Proofs
attribute [local irreducible] Code.wp wpList wpAnyH
open Go.Vs
theorem tk_:Elt Tryz.prog 107 3 1 8:=ji_ Tryz.underlying107 (z:=.int .i64 0) zd_ rfl ze_
theorem pf_as3 {H A B C G:Hp} {b:Nat×Obj} (h:H.Perm ((b::(A++(B++C)))++G)):H.Perm ((b::A)++B++(C++G)):=by simpa [List.append_assoc] using h
theorem kX_ {x:Ax} (h:x.check=0):x.shaped=true:=by
  cases e:x.shaped with
  | true=>rfl
  | false=>unfold Ax.check at h;rw[if_pos e]at h;simp at h
theorem yv_ {x:Ax} (h:x.check=0):1≤x.kind∧x.kind≤9:=by
 have d:=kX_ h;unfold Ax.shaped at d
 by_cases e:x.kind<1∨9<x.kind
 ·rw[if_pos e]at d;simp at d
 omega
theorem rs_ {x:Ax} (h:x.check=0):x.namedU (us x.kind)=true:=by
  cases e:x.namedU (us x.kind) with
  | true=>rfl
  | false=>rw[Ax.check_20 (kX_ h) e]at h;simp at h
theorem pN_ {x:Ax} (h:x.check=0) (d:(us x.kind).left=true):x.left.check=0:=by
 by_cases e:x.left.check=0
 ·exact e
 rw[Ax.check_left (kX_ h) (rs_ h) d e]at h;exact absurd h e
theorem rr_ {x:Ax} (h:x.check=0) (d:(us x.kind).right=true):x.right.check=0:=by
 by_cases e:x.right.check=0
 ·exact e
 rw[Ax.check_right (kX_ h) (rs_ h) (pN_ h) d e]at h;exact absurd h e
theorem re_ {c:Con} (h:c.empty=true):c.sz=1:=by
  cases c with
  | mk k n l hi ad cp ps =>
    unfold Con.empty at h;simp only[Bool.and_eq_true,beq_iff_eq,Con.parts]at h;have:ps=[]:=List.eq_nil_of_length_eq_zero za_;subst this;simp[Con.sz,Con.sz.szs]
theorem tr_ {x:Ax} (h:x.check=0):x.left.sz≤64∧x.right.sz≤64:=by
 have q:=kX_ h;have hk:=yv_ h;unfold Ax.shaped at q;rw[if_neg za_]at q;simp only[Bool.and_eq_true,Bool.or_eq_true]at q;obtain⟨⟨⟨⟨⟨⟨d,e⟩,_⟩,_⟩,_⟩,_⟩,_⟩:=q;constructor
 ·rcases d with d|d
  ·exact (Con.check_zero (pN_ h d)).2
  rw[re_ d];omega
 rcases e with e|e
 ·exact (Con.check_zero (rr_ h e)).2
 rw[re_ e];omega
theorem oT_ {x:Ax} (d:x.ok) (e:x.check=0):Tri Tryz.prog 29 #[x.val] [] [x.memF,cn_] (fun _:Unit=>.int .i64 0) (fun _=>[]) (fun _=>[]):=by
  have h:=hF_ x d;rw[e]at h;exact h
theorem pt_ (s:Str):Fn0 Tryz.prog 175 #[str s] (.bool false):=by
  refine i_ Tryz.func175 rfl rfl Tryz.ntmps175 rfl fun d=>?_;refine Zz 9 ?_;refine e_ (ar_ (cT_ rfl rfl) (show _=Value.bool false from congrArg Value.bool zj_)) rfl (Zz 4 ?_);exact Y_ Tryz.results175 () rfl f_ zt
theorem jR_ {a b:Str} (h:str a=str b):a=b:=by
  have d:=congrArg (fun z:ByteArray=>z.data.toList) (Value.string.inj h);simpa using d
def rx_ (P:Program) (gf:FuncId) (caps:List Value) (Hc:Hp) (Rc:List Str→Prop):Prop:=∀ {σ:Type} (l:Nat) (Gj:σ→Hp) (lst:σ→List Str),(∀ s x,(lst s).length<100000000→jc_ P l (str x) (Gj s) [] (fun _:{s':σ // lst s'=lst s++[x]}=>.bool true) (fun s'=>Gj s'.1) (fun _=>[]))→∀ s0,lst s0=[] →
  Tri P gf (.func (.yield l) #[] #[]::caps).toArray (Hc++Gj s0) [] (fun _:{s':σ // Rc (lst s')}=>.tuple #[]) (fun s'=>Hc++Gj s'.1) (fun _=>[])
theorem xH_ {C Q:Hp} {c d e:Nat×Obj}:(C++(c::Q)++[d,e]).Perm (e::(C++(c::(Q++[d])))):=by
  have h:C++(c::Q)++[d,e]=(C++(c::(Q++[d])))++[e]:=by simp
  rw[h];exact List.perm_append_comm
theorem pf_D10 {C Q:Hp} {c d:Nat×Obj}:(C++(c::(Q++[d]))).Perm ((C++Q)++[c,d]):=by
  have e:(C++Q)++[c,d]=C++((Q++[c])++[d]):=by simp
  rw[e];exact List.Perm.append_left C (List.Perm.append_right [d] (show ([c]++Q).Perm _ from List.perm_append_comm))
theorem tF_ {L q:List Str} (h:L.Perm q) (y:q.Nodup):aT_ L=aT_ q:=by
 have strict:∀ l:List Str,l.Nodup→SrS (aT_ l):=fun l hl=>by
   have e:=fQ_ l;have d:(aT_ l).Nodup:=(List.mergeSort_perm _ _).nodup_iff.2 hl;unfold List.Nodup at d;refine List.Pairwise.imp (fun {a b} hab=>?_) (e.and d)
   by_cases g:a<b
   · exact g
   · exact absurd (List.le_antisymm hab.1 (List.not_lt.1 g)) hab.2
 exact me_ (strict L (h.nodup_iff.2 y)) (strict q y) fun x=>by rw[List.mem_mergeSort,List.mem_mergeSort,h.mem_iff]
theorem vY_ {σ:Type} {l:Nat} {J:σ→Hp} {h:σ→List Str} (T:∀ s x,(h s).length<100000000→jc_ Tryz.prog l (str x) (J s) [] (fun _:{C:σ // h C=h s++[x]}=>.bool true) (fun C=>J C.1) (fun _=>[])) (Q:σ) (R:h Q=[]) (E I c:Nat) (es:Array MapEntry) (q:List Str) (hE:KeyE str es q) (hB:Born es c) (Y:q.length≤100000000):Tri Tryz.prog 96 #[.func (.yield l) #[] #[],zp_ I 0] ((I,.cells #[.map (some E)] 33 (0,0))::(E,.map es c)::J Q) [] (fun _:{C:σ // (h C).Perm q}=>.tuple #[]) (fun C=>(I,.cells #[.map (some E)] 33 (0,0))::(E,.map es c)::J C.1) (fun _=>[]):=by
 refine i_ Tryz.func96 rfl rfl Tryz.ntmps96 rfl fun V=>?_;refine Zz 3 ?_;refine oz_ 1 Tryz.underlying33 rfl rfl rfl fun L=>Zz 3 ?_
 refine K_ (ι:={y:List Str×Array Nat×Nat×σ // ItS str es y.2.1 y.1∧c≤y.2.2.1∧h y.2.2.2=y.1∧(∀ z∈y.1,z∈q)}) (fun y=>[(0,.func (.yield l) #[] #[]),(1,zp_ I 0),(5,zp_ L 0)]) (fun y=>((L,.mapIter (some E) c y.1.2.1 y.1.2.2.1)::((I,.cells #[.map (some E)] 33 (0,0))::((E,.map es c)::(J y.1.2.2.2))))) (fun y=>[]) (fun y=>List.length q - List.length y.1.1) ⟨([],#[],c,Q),ItS.nil,Nat.le_refl _,R,by simp⟩ zl zp zt ?_;rintro ⟨⟨done,G,X,s⟩,O,K,F,A⟩;dsimp only at O K F A ⊢;refine Zz 2 ?_;refine qB_ 0 2 rfl rfl rfl hB.lt K rfl (fun M=>?_) (fun e W=>?_)
 ·refine Zz 7 ?_
  exact cp_ Tryz.results96 ⟨s,by rw[F];exact O.endK (fun _ _=>jR_) hE M⟩ rfl zp zt
 obtain⟨k,H,U,S,N,B⟩:=O.stepK (fun _ _=>jR_) hE hB W;refine Zz 10 ?_;refine e_ (ar_ (oi_ 0 2 rfl rfl rfl N hB) (show _=Value.tuple #[str k,e.val] by rw[S])) rfl (Zz 5 ?_);refine jS_ (ι:={C:σ // h C=h s++[k]}) (fun _=>[(0,.func (.yield l) #[] #[]),(1,zp_ I 0),(5,zp_ L 0),(13,.bool false)]) (fun z=>((L,.mapIter (some E) c (G.push e.born) c)::((I,.cells #[.map (some E)] 33 (0,0))::((E,.map es c)::(J z.1))))) (fun _=>[]) ?_ ?_
 ·refine aJ_ ?_
  refine U_ cY_ (al_ rfl) rfl rfl ?_;refine U_ cY_ (al_ rfl) rfl rfl ?_;refine hs_ (T s k zA_) rfl rfl (c_ (c_ H_)) zt rfl fun z=>?_;refine U_ cY_ (as_ rfl) rfl rfl ?_;refine bp_ ?_;refine dp_ rfl ?_;exact fi_ z zl zp zh
 rintro ⟨C,P⟩;dsimp only;refine Zz 4 ?_;exact x_ ⟨(done++[k],G.push e.born,c,C),B,Nat.le_refl _,by rw[P,F],fun z d=>by rcases List.mem_append.1 d with d|d;exact A z d;rw[List.mem_singleton]at d;exact d▸H⟩ zx_ zl (l_ d_ (l_ d_ (l_ d_ ad_))) zt
theorem iR_ (h x c:Nat) (es:Array MapEntry) (q:List Str) (hE:KeyE str es q) (hB:Born es c) (d:q.length≤100000000):rx_ Tryz.prog 96 [zp_ x 0] [(x,.cells #[.map (some h)] 33 (0,0)),(h,.map es c)] (fun L=>L.Perm q) :=
  fun l C A y B e=>vY_ y B e h x c es q hE hB d
theorem iQ_ (e:Nat):Tri Tryz.prog 50 #[.map (some e)] [] [] (fun d:Nat=>.func (.func 96) #[] #[zp_ d 0]) (fun d=>[(d,.cells #[.map (some e)] 33 (0,0))]) (fun _=>[]):=by
  refine i_ Tryz.func50 rfl rfl Tryz.ntmps50 rfl fun q=>?_;refine Zz 2 ?_;refine V_ rfl rfl fun h=>Zz 5 ?_
  refine e_ (bF_ rfl rfl) rfl (Zz 4 ?_);exact Y_ Tryz.results50 h rfl (F:=[]) (.refl _) zt
theorem vX_ {σ:Type} {l:Nat} {J:σ→Hp} {h:σ→List Str} (T:∀ s x,(h s).length<100000000→jc_ Tryz.prog l (str x) (J s) [] (fun _:{C:σ // h C=h s++[x]}=>.bool true) (fun C=>J C.1) (fun _=>[])) (Q:σ) (R:h Q=[]) (E I c:Nat) (es:Array MapEntry) (q:List Str) (hE:KeyE str es q) (hB:Born es c) (Y:q.length≤100000000):Tri Tryz.prog 151 #[.func (.yield l) #[] #[],zp_ I 0] ((I,.cells #[.map (some E)] 105 (0,0))::(E,.map es c)::J Q) [] (fun _:{C:σ // (h C).Perm q}=>.tuple #[]) (fun C=>(I,.cells #[.map (some E)] 105 (0,0))::(E,.map es c)::J C.1) (fun _=>[]):=by
 refine i_ Tryz.func151 rfl rfl Tryz.ntmps151 rfl fun V=>?_;refine Zz 3 ?_;refine oz_ 1 Tryz.underlying105 rfl rfl rfl fun L=>Zz 3 ?_
 refine K_ (ι:={y:List Str×Array Nat×Nat×σ // ItS str es y.2.1 y.1∧c≤y.2.2.1∧h y.2.2.2=y.1∧(∀ z∈y.1,z∈q)}) (fun y=>[(0,.func (.yield l) #[] #[]),(1,zp_ I 0),(5,zp_ L 0)]) (fun y=>((L,.mapIter (some E) c y.1.2.1 y.1.2.2.1)::((I,.cells #[.map (some E)] 105 (0,0))::((E,.map es c)::(J y.1.2.2.2))))) (fun y=>[]) (fun y=>List.length q - List.length y.1.1) ⟨([],#[],c,Q),ItS.nil,Nat.le_refl _,R,by simp⟩ zl zp zt ?_;rintro ⟨⟨done,G,X,s⟩,O,K,F,A⟩;dsimp only at O K F A ⊢;refine Zz 2 ?_;refine qB_ 0 2 rfl rfl rfl hB.lt K rfl (fun M=>?_) (fun e W=>?_)
 ·refine Zz 7 ?_
  exact cp_ Tryz.results151 ⟨s,by rw[F];exact O.endK (fun _ _=>jR_) hE M⟩ rfl zp zt
 obtain⟨k,H,U,S,N,B⟩:=O.stepK (fun _ _=>jR_) hE hB W;refine Zz 10 ?_;refine e_ (ar_ (oi_ 0 2 rfl rfl rfl N hB) (show _=Value.tuple #[str k,e.val] by rw[S])) rfl (Zz 5 ?_);refine jS_ (ι:={C:σ // h C=h s++[k]}) (fun _=>[(0,.func (.yield l) #[] #[]),(1,zp_ I 0),(5,zp_ L 0),(13,.bool false)]) (fun z=>((L,.mapIter (some E) c (G.push e.born) c)::((I,.cells #[.map (some E)] 105 (0,0))::((E,.map es c)::(J z.1))))) (fun _=>[]) ?_ ?_
 ·refine aJ_ ?_
  refine U_ cY_ (al_ rfl) rfl rfl ?_;refine U_ cY_ (al_ rfl) rfl rfl ?_;refine hs_ (T s k zA_) rfl rfl (c_ (c_ H_)) zt rfl fun z=>?_;refine U_ cY_ (as_ rfl) rfl rfl ?_;refine bp_ ?_;refine dp_ rfl ?_;exact fi_ z zl zp zh
 rintro ⟨C,P⟩;dsimp only;refine Zz 4 ?_;exact x_ ⟨(done++[k],G.push e.born,c,C),B,Nat.le_refl _,by rw[P,F],fun z d=>by rcases List.mem_append.1 d with d|d;exact A z d;rw[List.mem_singleton]at d;exact d▸H⟩ zx_ zl (l_ d_ (l_ d_ (l_ d_ ad_))) zt
theorem xW_ (h x c:Nat) (es:Array MapEntry) (q:List Str) (hE:KeyE str es q) (hB:Born es c) (d:q.length≤100000000):rx_ Tryz.prog 151 [zp_ x 0] [(x,.cells #[.map (some h)] 105 (0,0)),(h,.map es c)] (fun L=>L.Perm q) :=
  fun l C A y B e=>vX_ y B e h x c es q hE hB d
theorem xR_ (e:Nat):Tri Tryz.prog 104 #[.map (some e)] [] [] (fun d:Nat=>.func (.func 151) #[] #[zp_ d 0]) (fun d=>[(d,.cells #[.map (some e)] 105 (0,0))]) (fun _=>[]):=by
  refine i_ Tryz.func104 rfl rfl Tryz.ntmps104 rfl fun q=>?_;refine Zz 2 ?_;refine V_ rfl rfl fun h=>Zz 5 ?_
  refine e_ (bF_ rfl rfl) rfl (Zz 4 ?_);exact Y_ Tryz.results104 h rfl (F:=[]) (.refl _) zt
theorem vG_ {C Q G:Hp} {c:Nat×Obj}:(C++(c::Q)++G).Perm (c::(C++(Q++G))):=by
  have d:C++(c::Q)++G=C++([c]++(Q++G)):=by simp
  rw[d,← List.append_assoc];exact List.Perm.append_right (Q++G) (List.perm_append_comm (l₁:=C) (l₂:=[c])) |>.trans zj_
theorem uz_ (V:FuncId) (caps:List Value) (Hc:Hp) (Rc:List Str→Prop) (U:rx_ Tryz.prog V caps Hc Rc):Tri Tryz.prog 143 #[.slice none 0 0,.func (.func V) #[] caps.toArray] Hc [] (fun y:{y:Value×Hp×List Str // ax_ 9 1 y.1 y.2.2.length (y.2.2.flatMap ak_) y.2.1∧Rc y.2.2}=>y.1.1) (fun y=>Hc++y.1.2.1) (fun _=>[]):=by
 refine hj_ Tryz.func143 rfl rfl Tryz.ntmps143 rfl fun J=>?_;refine Zz 2 ?_;refine V_ rfl rfl fun d=>Zz 10 ?_
 refine bJ_ [(2,zp_ d 0),(6,.func (.func V) #[] caps.toArray)] zl ?_;refine rK_ (σ:={y:Value×Hp×List Str // ax_ 9 1 y.1 y.2.2.length (y.2.2.flatMap ak_) y.2.1}) (α:=Str) (xv:=fun x=>str x) (good:=fun s _=>s.1.2.2.length<100000000) (nx:=fun x s Q=>Q.1.2.2=s.1.2.2++[x]) (Rc:=fun s=>Rc s.1.2.2) (Γi:=[]) (Hj:=fun y=>(d,.cells #[y.1.1] 25 (0,0))::y.1.2.1) (Hc:=Hc) (caps:=caps) ⟨(.slice none 0 0,[],[]),ax_.nil _ _⟩ rfl (@List.perm_append_comm _ [_] _) zt ?_ ?_ ?_
 ·rintro l D Y P T O ht H B ⟨⟨sv,q,L⟩,C⟩ x I
  dsimp only at C I ⊢;refine pU_ (ι:=Unit) (Hj:=fun y:{y:Value×Hp×List Str // ax_ 9 1 y.1 y.2.2.length (y.2.2.flatMap ak_) y.2.1}=>(d,.cells #[y.1.1] 25 (0,0))::y.1.2.1) (s:=⟨(sv,q,L),C⟩) (ok:=fun Q=>Q.1.2.2=L++[x]) (Γ:=[]) (fun _=>[(2,zp_ d 0),(5,str x)]) (fun _=>(d,.cells #[sv] 25 (0,0))::q) P T O ht rfl ?_ ?_
  ·intro n J R S
   rw[H];dsimp only;refine gG_.2 (C_ (H':=(d,.cells #[sv] 25 (0,0))::(q++S)) zj_ (gG_.1 ?_));refine aJ_ ?_;refine U_ (L_ _) (ay_ rfl) rfl rfl ?_;refine bp_ ?_;refine dp_ rfl ?_;exact fi_ () zl (F:=[]) zT_ zh
  intro n J R S _;rw[B];refine gG_.2 (C_ (H':=(d,.cells #[sv] 25 (0,0))::(q++S)) zj_ (gG_.1 ?_));refine et_ ?_;refine aJ_ ?_;refine U_ (L_ _) (aG_ 0 lU_ rfl rfl rfl) rfl rfl ?_;refine U_ (L_ _) (al_ rfl) rfl rfl ?_;refine ue_ (L_ _) n_ I_ az_ rfl rfl rfl rfl rfl rfl fun Z=>?_;refine qH_ (L_ _) (news:=List.flatMap ak_ [x]) cP_ C rfl rfl zp rfl (aR_ 0 rfl) (fun u hu=>aE_ cm_ hu) zm_ za_ rfl fun K E M=>?_;have A:=zsa M;refine fV_ (W_ (g_ d_) (bj_ (g_ d_))) ?_;refine nW_ (L_ _) 1 A ck_ rfl rfl rfl rfl ?_;refine bp_ ?_;refine dp_ rfl ?_;exact rM_ ⟨(K,E,(L++[x])),A⟩ rfl (pf_as3 (l_ (c_ d_) (B_ (c_ y_) (B_ H_ d_))))
 ·intro l Gj X
  exact U l Gj (fun y=>y.1.2.2) (fun s x h=>X s x h) ⟨(.slice none 0 0,[],[]),ax_.nil _ _⟩ rfl
 rintro ⟨⟨sv,q,L⟩,C⟩ W D l r;dsimp only at W C ⊢;refine cM_ (H':=(d,.cells #[sv] 25 (0,0))::(Hc++(q++HLp l D r))) (F:=[]) (by rw[List.append_nil];exact vG_) zh ?_;refine cc_ rfl ?_;refine cW_ ?_;refine aJ_ ?_;refine U_ cY_ (aG_ 0 lU_ rfl rfl rfl) rfl rfl ?_;refine U_ cY_ (ay_ rfl) rfl rfl ?_;refine bp_ ?_;refine cc_ rfl ?_;refine mQ_ ?_;exact yM_ (G:=Hc++((d,.cells #[sv] 25 (0,0))::(q++[(l,.loop r)]))) ⟨(sv,q,L),C,W⟩ (fun a v N h_2=>by have e:=N.val 4 sv rfl;simp[results,Tryz.results143,e]) (vG_.symm.trans (by unfold HLp;exact xH_)) ⟨_,pf_D10⟩ rfl
theorem sq_ (A:FuncId) (caps:List Value) (Hc:Hp) (Rc:List Str→Prop) (x:rx_ Tryz.prog A caps Hc Rc):Tri Tryz.prog 94 #[.func (.func A) #[] caps.toArray] Hc [] (fun y:{y:Value×Hp×List Str // ax_ 9 1 y.1 y.2.2.length (y.2.2.flatMap ak_) y.2.1∧Rc y.2.2}=>y.1.1) (fun y=>Hc++y.1.2.1) (fun _=>[]):=by
  refine i_ Tryz.func94 rfl rfl Tryz.ntmps94 rfl fun C=>?_;refine Zz 8 ?_;refine j_ (uz_ A caps Hc Rc x) rfl ad_ zt rfl fun⟨⟨q,h,B⟩,e,d⟩=>?_;dsimp only;dsimp only at e d ⊢;simp only[List.append_assoc,List.append_nil];refine Zz 4 ?_;exact Y_ Tryz.results94 ⟨(q,h,B),e,d⟩ rfl zp zt
theorem fa_ (N:FuncId) (caps:List Value) (Hc:Hp) (q:List Str) (K:q.Nodup) (Q:q.length≤100000000) (M:rx_ Tryz.prog N caps Hc (fun L=>L.Perm q)):Tri Tryz.prog 49 #[.func (.func N) #[] caps.toArray] Hc [] (fun y:{y:Option Addr×Nat // (aT_ q).length≤y.2∧y.2≤maxLen∧(y.1=none→y.2=0)}=>.slice y.1.1 (aT_ q).length y.1.2) (fun _=>Hc) (fun y=>[ai_ y.1.1 ((aT_ q).flatMap ak_)]):=by
  refine i_ Tryz.func49 rfl rfl Tryz.ntmps49 rfl fun P=>?_;refine Zz 8 ?_;refine j_ (sq_ N caps Hc (fun L=>L.Perm q) M) rfl ad_ zt rfl fun⟨⟨E,O,J⟩,A,d⟩=>?_;dsimp only;dsimp only at A d ⊢;simp only[List.append_assoc,List.append_nil];refine Zz 6 ?_;refine j_ (mf_ A (by have:=d.length_eq;omega)) rfl aX_ zt rfl fun⟨F,G⟩=>?_;dsimp only;have H:ax_ 9 1 E (List.length (aT_ q)) (List.flatMap ak_ (aT_ q)) F:=by rw[← tF_ d K,show (aT_ J).length=J.length from List.length_mergeSort _];exact G
  refine Zz 9 ?_;refine bn_ H y_ fun C I B e x h=>?_;exact Y_ Tryz.results49 ⟨(C,I),e,x,h⟩ (fG_ rfl B) ad_ zf
theorem bq_:KeyT Tryz.prog 9 str:=qQ_ aH_
theorem os_ (l:List Ax) (ad:Option Addr) (cap:Nat) (C:∀ x∈l,x.ok) (H:∀ x∈l,x.check=0) (I:l.length≤100000):Tri Tryz.prog 65 #[.slice ad (List.length l) cap] [] [ge_ ad l,cn_] (fun _:Unit=>.int .i64 0) (fun _=>[]) (fun _=>[]):=by
 refine i_ Tryz.func65 rfl rfl Tryz.ntmps65 rfl fun F=>?_;refine Zz 14 ?_;refine K_ (ι:={y:Nat // y≤List.length l}) (fun y=>[(2,.int .i64 0),(6,.slice ad (List.length l) cap),(7,.int .i64 (List.length l:Int)),(8,.int .i64 (y.1:Int))]) (fun y=>([])) (fun y=>[ge_ ad l,cn_]) (fun y=>List.length l - y.1) ⟨(0:Nat),by simp⟩ zl f_ zh ?_;rintro ⟨i,A⟩;dsimp only at A ⊢;refine Zi 2 (fun B=>?_) fun B=>?_
 ·refine Zz 12 ?_
  exact Y_ Tryz.results65 () rfl f_ zt
 obtain⟨e,q,E,d⟩:=zge (show i<List.length l by omega);refine Zz 12 ?_;refine E_ dr_ rfl fun G=>z_ 0 bS_ rfl rfl rfl rfl rfl rfl (Zz 5 ?_)
 refine j_ (oT_ (C q d) (H q d)) rfl f_ (fun v _ h=>by exact⟨(h.1.2 q d),h.2.1,trivial⟩) rfl fun _=>Zz 6 ?_
 refine e_ (ar_ (cg_ rfl rfl) (show _=Value.bool false from congrArg Value.bool ze_)) rfl (Zz 10 ?_);exact x_ ⟨i+1,e⟩ zb_ zl f_ zh
theorem gh_ {G:Prop} (h:G:=by
 have d:Ax.selfs x=m:=by rw[hm,List.take_of_length_le za_];rfl
 exact Y_ Tryz.results107 () (m_ rfl (by unfold Ax.exm;rw[q,d];rw[Bool.eq_iff_iff];simp only[Bool.and_eq_true,Bool.or_eq_true,Bool.not_eq_true',decide_eq_true_eq,decide_eq_false_iff_not,Option.some.injEq,beq_iff_eq,A,true_and,false_and,true_iff,Bool.false_eq_true,false_iff,reduceCtorEq];omega)) f_ zt):G:=h
theorem ws_ (x:Ax) (i:Nat) (I:x.ok) (hi:i<x.roles.length):Tri Tryz.prog 107 #[Ax.val x,.int .i64 (i:Int)] [] [Ax.memF x] (fun _:Unit=>.bool (x.exm i)) (fun _=>[]) (fun _=>[]):=by
 refine i_ Tryz.func107 rfl rfl Tryz.ntmps107 rfl fun T=>?_;have Q:=I.len;have S:=I.cap;obtain⟨R,q⟩:∃ r,x.roles[i]? = some r:=⟨_,List.getElem?_eq_getElem hi⟩;refine Zz 2 ?_;refine V_ rfl rfl fun G=>Zz 6 ?_
 refine t_ 0 [0,1,2,3,4,5,6,7] zk zs (Zi 7 (fun F=>?_) fun F=>?_)
 ·have A:R=Ax.role x:=by simpa using F
  refine Zz 29 ?_;refine K_ (ι:={y:Nat×Nat // y.1≤List.length (Ax.roles x)∧y.2=List.countP (fun r=>decide (r=x.role)) (List.take y.1 (Ax.roles x))}) (fun y=>[(1,.int .i64 (i:Int)),(2,zp_ G 0),(4,.bool false),(5,.int .i64 (List.length (Ax.roles x):Int)),(6,.int .i64 (y.1.2:Int)),(21,.slice (Ax.ad x) (List.length (Ax.roles x)) (Ax.cap x)),(22,.int .i64 (List.length (Ax.roles x):Int)),(23,.int .i64 (y.1.1:Int))]) (fun y=>((G,.cells (Ax.cells x).toArray 42 (0,0))::[])) (fun y=>[Ax.memF x]) (fun y=>List.length (Ax.roles x) - y.1.1) ⟨((0:Nat),(0:Nat)),by simp,zj_⟩ zl d_ zh ?_;rintro ⟨⟨j,m⟩,H,hm⟩;dsimp only at H hm ⊢;refine Zi 2 (fun J=>?_) fun J=>?_
  ·refine Zi 9 (fun e=>?_) fun e=>?_
   ·refine Zi 14 (fun C=>?_) fun C=>?_
    ·refine Zz 11 ?_
     exact gh_
    refine Zz 5 ?_;refine G_ (br_ rfl rfl) rfl fun N E=>Zz 7 ?_
    have d:Ax.selfs x=m:=by rw[hm,List.take_of_length_le za_];rfl
    exact Y_ Tryz.results107 () (m_ rfl (by rw[← E];unfold Ax.exm;rw[q,d];rw[Bool.eq_iff_iff];simp only[Bool.and_eq_true,Bool.or_eq_true,Bool.not_eq_true',decide_eq_true_eq,decide_eq_false_iff_not,Option.some.injEq,beq_iff_eq,A,true_and,false_and,true_iff,Bool.false_eq_true,false_iff,reduceCtorEq];omega)) f_ zt
   refine Zi 4 (fun C=>?_) fun C=>?_
   ·refine Zz 7 ?_
    refine e_ (ar_ (aZ_ rfl rfl rfl (ce_ za_ za_)) (show _=Value.int .i64 ((List.length (Ax.roles x):Int) - 1) from rfl)) rfl (ap_ rfl rfl ?_);refine Zi 0 (fun E=>?_) fun E=>?_
    ·refine Zi 7 (fun K=>?_) fun K=>?_
     ·refine Zz 11 ?_
      exact gh_
     refine Zz 5 ?_;refine G_ (br_ rfl rfl) rfl fun N L=>Zz 7 ?_
     have d:Ax.selfs x=m:=by rw[hm,List.take_of_length_le za_];rfl
     exact Y_ Tryz.results107 () (m_ rfl (by rw[← L];unfold Ax.exm;rw[q,d];rw[Bool.eq_iff_iff];simp only[Bool.and_eq_true,Bool.or_eq_true,Bool.not_eq_true',decide_eq_true_eq,decide_eq_false_iff_not,Option.some.injEq,beq_iff_eq,A,true_and,false_and,true_iff,Bool.false_eq_true,false_iff,reduceCtorEq];omega)) f_ zt
    refine Zz 15 ?_;exact gh_
   refine Zz 21 ?_;exact gh_
  have h:j<List.length (Ax.roles x):=by omega
  obtain⟨P,B⟩:∃ M,(Ax.roles x)[j]? = some M:=⟨_,List.getElem?_eq_getElem h⟩;have O:P∈(Ax.roles x):=List.mem_of_getElem? B;refine Zi 20 (fun e=>?_) fun e=>?_
  ·refine Zz 10 ?_
   exact x_ ⟨(j+1,m),h,zaP_⟩ zb_ zl d_ zh
  refine Zz 5 ?_;refine e_ (ar_ (aZ_ rfl rfl rfl (ce_ zH_ zH_)) (show _=Value.int .i64 ((m+1:Nat):Int) from congrArg _ za_)) rfl ?_;refine Zz 8 ?_;exact x_ ⟨(j+1,(m+1)),h,zaP_⟩ zb_ zl d_ zh
 refine Zz 10 ?_;exact Y_ Tryz.results107 () (m_ rfl (by unfold Ax.exm;rw[q];simp[F])) f_ zt
theorem li_ {G:Prop} (h:G:=by
 refine qA_ (k:=r) (s:=s) (e:=e) bq_ (.inr rfl) P_ H h (by rw[A];simp) rfl rfl rfl ad_ fun B d=>?_;refine C_ dV_ (Zz 2 ?_);exact cp_ Tryz.results106 ⟨(ks,B),d,fun k hk=>.inl hk⟩ rfl ad_ zt):G:=h
theorem lj_ {G:Prop} (h:G:=by
 refine qA_ (k:=r) (s:=s) (e:=e) bq_ (.inr rfl) P_ d x (by rw[A];simp) rfl rfl rfl ad_ fun E C=>?_;refine C_ dV_ (Zz 2 ?_);exact cp_ Tryz.results106 ⟨((ks++[(r,F)]),E),C,fun k hk=>by rw[List.map_append,List.mem_append]at hk;exact hk.imp id zj_⟩ rfl ad_ zt):G:=h
theorem tw_ (r s:Str) (e:Bool) (cb J:Nat) (ks:List (Str×Nat)) (S:List RSt) (Hx:Hp) (H:MmO J ks S Hx):Tri Tryz.prog 106 #[str r,str s,.bool e,zp_ cb 0] Hx [bU_ cb (.cells #[.map (some J)] 105 (0,0))] (fun _:{y:List (Str×Nat)×Hp // MmO J y.1 (S++[(r,s,e)]) y.2∧∀ k∈y.1.map (·.1),k∈ks.map (·.1)∨k=r}=>.tuple #[]) (fun y=>y.1.2) (fun _=>[]):=by
 refine i_ Tryz.func106 rfl rfl Tryz.ntmps106 rfl fun L=>?_;refine Zz 5 ?_;refine e_ (eT_ (k:=r) bq_ dm_ dX_ H rfl rfl ad_) rfl (G_ (uE_ Tryz.underlying33 rfl rfl) rfl fun I q=>Zz 2 ?_);cases I
 ·replace q:=zdf q
  obtain⟨K,h⟩:=Option.ne_none_iff_exists'.1 q;refine Zz 6 ?_;refine e_ (ar_ (eT_ (k:=r) bq_ dm_ dX_ H rfl rfl ad_) (congrArg lS_ h)) rfl (Zz 3 ?_);refine e_ (ar_ (eT_ (k:=r) bq_ dm_ dX_ H rfl rfl ad_) (congrArg lS_ h)) rfl (Zz 1 ?_);refine G_ (jn_ (k:=r) (s:=s) bq_ P_ aA_ H h rfl rfl ad_) rfl fun G A=>Zz 1 ?_
  cases G
  ·refine Zz 3 ?_
   exact li_
  refine Zz 2 ?_;exact li_
 replace q:=zdt q;refine Zz 4 ?_;refine ba_ rfl fun F=>vJ_ (k:=r) bq_ (.inr rfl) dm_ H q rfl rfl rfl (l_ d_ ad_) fun B d=>C_ dV_ ?_
 have x:gK_ (ks++[(r,F)]) r=some F:=uS_ q;refine Zz 5 ?_;refine e_ (ar_ (eT_ (k:=r) bq_ dm_ dX_ d rfl rfl ad_) (congrArg lS_ x)) rfl (Zz 3 ?_);refine e_ (ar_ (eT_ (k:=r) bq_ dm_ dX_ d rfl rfl ad_) (congrArg lS_ x)) rfl (Zz 1 ?_);refine G_ (jn_ (k:=r) (s:=s) bq_ P_ aA_ d x rfl rfl ad_) rfl fun G A=>Zz 1 ?_
 cases G
 ·refine Zz 3 ?_
  exact lj_
 refine Zz 2 ?_;exact lj_
theorem xn_ (l:List Ax) (ad:Option Addr) (cap:Nat) (a5:∀ x∈l,x.ok) (hC:∀ x∈l,x.check=0) (hll:l.length≤100000):Tri Tryz.prog 67 #[.slice ad (List.length l) cap] [] [ge_ ad l] (fun y:{y:Nat×List (Str×Nat)×Hp // MmO y.1 y.2.1 (cV_ l) y.2.2∧Frm y.2.1 (cV_ l)}=>.map (some y.1.1)) (fun y=>y.1.2.2) (fun _=>[]):=by
 refine i_ Tryz.func67 rfl rfl Tryz.ntmps67 rfl fun a9=>?_;refine Zz 7 ?_;refine ba_ rfl fun J=>E_ Tryz.zeroValue105 rfl fun L=>z_ 0 Tryz.sizeOf105 rfl rfl rfl rfl rfl rfl (Zz 4 ?_)
 refine e_ (bF_ rfl rfl) rfl (Zz 12 ?_);refine iq_ 0 rfl ?_;refine K_ (ι:={y:Nat×List (Str×Nat)×Hp // y.1≤List.length l∧MmO J y.2.1 (cV_ (List.take y.1 l)) y.2.2∧Frm y.2.1 (cV_ (List.take y.1 l))}) (fun y=>[(2,.map none),(3,zp_ L 0),(4,.func (.func 106) #[] #[zp_ L 0]),(11,.slice ad (List.length l) cap),(12,.int .i64 (List.length l:Int)),(13,.int .i64 (y.1.1:Int))]) (fun y=>(y.1.2.2)) (fun y=>[bU_ L (.cells #[.map (some J)] 105 (0,0)),ge_ ad l]) (fun y=>List.length l - y.1.1) ⟨((0:Nat),[],[(J,.map #[] 0)]),by simp,(by rw[List.take_zero];exact MmO.nil J 0),Frm.nil⟩ zl d_ zh ?_;rintro ⟨⟨i,N,M⟩,a1,G,F⟩;dsimp only at a1 G F ⊢;refine Zi 2 (fun a3=>?_) fun a3=>?_
 ·refine Zz 13 ?_
  have a6:List.take i l=l:=List.take_of_length_le za_;rw[a6]at G F;exact Y_ Tryz.results67 ⟨(J,N,M),G,F⟩ rfl ad_ zt
 obtain⟨I,d,C,q⟩:=zge (show i<List.length l by omega);have a2:=Ax.good_of (hC d q);refine Zz 12 ?_;refine E_ dr_ rfl fun W=>z_ 0 bS_ rfl rfl rfl rfl rfl rfl (Zi 11 (fun E=>?_) fun E=>?_)
 ·refine Zi 6 (fun A=>?_) fun A=>?_
  ·refine Zz 11 ?_
   exact x_ ⟨(i+1,N,M),I,(by rw[dG_ C,Ax.steps_no E A,List.append_nil];exact G),(by rw[dG_ C,Ax.steps_no E A,List.append_nil];exact F)⟩ zb_ zl H_ zh
  have a8:=a2.chain A;refine Zz 13 ?_;refine K_ (ι:={y:Nat×List (Str×Nat)×Hp // y.1≤List.length (Ax.roles d)∧MmO J y.2.1 ((cV_ (List.take i l))++Ax.chs d y.1) y.2.2∧Frm y.2.1 ((cV_ (List.take i l))++Ax.chs d y.1)}) (fun y=>[(2,.map none),(3,zp_ L 0),(4,.func (.func 106) #[] #[zp_ L 0]),(11,.slice ad (List.length l) cap),(12,.int .i64 (List.length l:Int)),(13,.int .i64 (i:Int)),(6,zp_ W 0),(39,.slice (Ax.ad d) (List.length (Ax.roles d)) (Ax.cap d)),(40,.int .i64 (List.length (Ax.roles d):Int)),(41,.int .i64 (y.1.1:Int))]) (fun y=>((W,.cells (Ax.cells d).toArray 42 (0,0))::y.1.2.2)) (fun y=>[bU_ L (.cells #[.map (some J)] 105 (0,0)),ge_ ad l]) (fun y=>List.length (Ax.roles d) - y.1.1) ⟨((0:Nat),N,M),by simp,(by rw[Ax.chs,List.append_nil];exact G),F.more⟩ zl zp zh ?_;rintro ⟨⟨j,S,U⟩,a0,P,O⟩;dsimp only at a0 P O ⊢;refine Zi 2 (fun Z=>?_) fun Z=>?_
  ·refine Zz 11 ?_
   exact x_ ⟨(i+1,S,U),I,(by rw[dG_ C,Ax.steps_six A,show List.length (Ax.roles d)=j from za_];exact P),(by rw[dG_ C,Ax.steps_six A,show List.length (Ax.roles d)=j from za_];exact O)⟩ zb_ zl H_ zh
  have B:j<List.length (Ax.roles d):=by omega
  obtain⟨T,e⟩:∃ X,(Ax.roles d)[j]? = some X:=⟨_,List.getElem?_eq_getElem B⟩;have Y:T∈(Ax.roles d):=List.mem_of_getElem? e;refine Zz 11 ?_;refine e_ (O_ n_ I_ rfl rfl (fun v _ h=>aq_ (n:=1) at_ ze_ zaN_ e) za_ zg_) rfl ?_;refine e_ (bl_ (ad:=(Ax.ad d)) ab_ rfl (fun v _ h=>by exact (h.2.1.2 d q).2.2) (p_ at_ e 0 _ rfl)) rfl (Zz 8 ?_);refine A_ (ws_ d j (a5 d q) B) rfl f_ (fun v _ h=>by exact⟨(h.2.1.2 d q),trivial⟩) rfl fun a4 Q=>e_ (as_ rfl) rfl (Zz 2 ?_)
  cases a4
  ·refine Zz 6 ?_
   refine ao_ (tw_ T (Ax.role d) true L J S ((cV_ (List.take i l))++Ax.chs d j) U P) rfl rfl H_ zf rfl fun⟨⟨V,R⟩,K,H⟩=>?_;dsimp only;dsimp only at K H;refine Zz 2 ?_;refine C_ (bj_ aX_) (Zz 5 ?_);exact x_ ⟨(j+1,V,R),B,(by rw[Ax.chs_no e Q,← List.append_assoc];exact K),(by rw[Ax.chs_no e Q,← List.append_assoc];exact O.add H)⟩ zb_ zl zp zh
  refine Zz 8 ?_;exact x_ ⟨(j+1,S,U),B,(by rw[Ax.chs_yes e Q];exact P),(by rw[Ax.chs_yes e Q];exact O)⟩ zb_ zl zp zh
 have a7:=a2.one E;have B:0<List.length (Ax.roles d):=by omega
 obtain⟨T,e⟩:∃ X,(Ax.roles d)[0]? = some X:=⟨_,List.getElem?_eq_getElem B⟩;have Y:T∈(Ax.roles d):=List.mem_of_getElem? e;refine Zz 6 ?_;refine t_ 0 [0,1,2,3,4,5,6] zk zs (Zz 2 ?_);refine N_ rfl (O_ n_ I_ rfl rfl (fun v _ h=>aq_ (n:=1) at_ ze_ zaN_ e) za_ zg_) rfl ?_;refine N_ rfl (bl_ (ad:=(Ax.ad d)) ab_ rfl (fun v _ h=>by exact (h.2.1.2 d q).2.2) (p_ at_ e 0 _ rfl)) rfl (Zi 2 (fun A=>?_) fun A=>?_)
 ·refine Zz 11 ?_
  exact x_ ⟨(i+1,N,M),I,(by rw[dG_ C,Ax.steps_same E e A,List.append_nil];exact G),(by rw[dG_ C,Ax.steps_same E e A,List.append_nil];exact F)⟩ zb_ zl H_ zh
 refine Zz 4 ?_;refine ah_ ((W,.cells (Ax.cells d).toArray 42 (0,0))::[]) zk ?_;refine t_ 1 [0,1,2,3,4,5,6] zk zs (Zz 3 ?_);refine N_ rfl (O_ n_ I_ rfl rfl (fun v _ h=>aq_ (n:=1) at_ ze_ zaN_ e) za_ zg_) rfl ?_;refine N_ rfl (bl_ (ad:=(Ax.ad d)) ab_ rfl (fun v _ h=>by exact (h.2.1.2 d q).2.2) (p_ at_ e 0 _ rfl)) rfl (Zz 3 ?_);refine o_ 7 rfl zk (ao_ (tw_ T (Ax.role d) false L J N (cV_ (List.take i l)) M G) rfl rfl H_ zf rfl fun⟨⟨V,R⟩,K,H⟩=>?_);dsimp only;dsimp only at K H;refine Zz 5 ?_;refine C_ (bj_ aX_) (Zz 5 ?_);exact x_ ⟨(i+1,V,R),I,(by rw[dG_ C,Ax.steps_five E e A];exact K),(by rw[dG_ C,Ax.steps_five E e A];exact F.add H)⟩ zb_ zl H_ zh
def rd_ (e:Nat×Bool):List Value:=[.int .i64 (e.1:Int),.bool e.2]
theorem nJ_ (e:Nat×Bool):(rd_ e).length=2:=rfl
theorem wt_ (e:Nat×Bool):(rd_ e).all Value.oneCell'=true:=rfl
structure Grw where
  st:List (Nat×Bool)
  ad:Option Addr
  cap:Nat
def Grw.cells (x:Grw):List Value:=[.slice x.ad x.st.length x.cap]
theorem Grw.cells_len (x:Grw):x.cells.length=1:=rfl
theorem Grw.cells_one (x:Grw):x.cells.all Value.oneCell'=true:=rfl
def hN_ (X:List Grw):Fct where
  p v:=∀ y∈X,bu_ v y.ad (y.st.flatMap rd_)
  mono v v' h hp y hy:=(ai_ y.ad (y.st.flatMap rd_)).mono v v' h (hp y hy)
theorem si_ {X:List Grw} {y:Grw} {v:Vw} (h:(hN_ X).p v) (e:(ai_ y.ad (y.st.flatMap rd_)).p v):(hN_ (X++[y])).p v:=fun z d=>by
 rcases List.mem_append.1 d with d|d
 ·exact h z d
 rw[List.mem_singleton]at d;subst d;exact e
def wyC (w:Wy):List Value:=[.int .i64 (w.role:Int),.bool w.strict,.int .i64 (w.before:Int),.int .i64 (w.many:Int)]
theorem md_ (w:Wy):(wyC w).length=4:=rfl
theorem sF_ (w:Wy):(wyC w).all Value.oneCell'=true:=rfl
theorem ih_ {l:List Str} (hl:l.Nodup):SrS (aT_ l):=by
 have e:=fQ_ l;have d:(aT_ l).Nodup:=(List.mergeSort_perm _ _).nodup_iff.2 hl;unfold List.Nodup at d;refine List.Pairwise.imp (fun {a b} hab=>?_) (e.and d)
 by_cases g:a<b
 ·exact g
 exact absurd (List.le_antisymm hab.1 (List.not_lt.1 g)) hab.2
theorem SrS.nd {l:List Str} (h:SrS l):l.Nodup:=h.imp fun d e=>by subst e;exact List.lt_irrefl _ d
theorem bs_lo {R:List Str} (h:SrS R) {m:Nat} {x t:Str} (e:R[m]? = some x) (hl:x<t):∀ (a:Nat) y,a<m+1→R[a]? = some y→y<t:=fun a y q d=>by
 rcases Nat.lt_or_ge a m with g|g
 ·exact List.lt_trans (rP_ h d e g) hl
 obtain rfl:a=m:=by omega
 rw[e]at d;simp only[Option.some.injEq]at d;subst d;exact hl
theorem bs_hi {R:List Str} (h:SrS R) {m:Nat} {x t:Str} (q:R[m]? = some x) (hl:¬ x<t):∀ (a:Nat) y,m≤a→R[a]? = some y→¬ y<t:=fun a y A e d=>by
 rcases Nat.lt_or_ge m a with g|g
 ·exact hl (List.lt_trans (rP_ h q e g) d)
 obtain rfl:a=m:=by omega
 rw[q]at e;simp only[Option.some.injEq]at e;subst e;exact hl d
theorem yU_ {R:List Str} (h:SrS R) {m:Nat} {t:Str} (q:∀ (a:Nat) y,a<m→R[a]? = some y→y<t) (x:∀ (a:Nat) y,m≤a→R[a]? = some y→¬ y<t) (e:R[m]? ≠ some t):t ∉ R:=fun A=>by
 obtain⟨a,d⟩:=List.getElem?_of_mem A;rcases Nat.lt_trichotomy a m with g|g|g
 ·exact List.lt_irrefl t (q a t g d)
 ·subst g;exact e d
 have hl:=(List.getElem?_eq_some_iff.1 d).1;have hm:=List.getElem?_eq_getElem (show m<R.length by omega);exact x m _ (Nat.le_refl _) hm (rP_ h hm d g)
section
variable {P:Program} {N:Nf} {fr:Fr} {H:Hp} {Γ:List Fct} {ty:TypeId}
theorem uC_ {t A:TypeId} {x y:Operand} {q:IntKind} {m:Nat} (h:Fr.ev fr x=some (.int .u64 (m:Int))) (C:Fr.ev fr y=some (.int q 1)):Yld P N fr H Γ (.binOp .shr t x y A) ty (.int .u64 ((m / 2:Nat):Int)) :=
  fun a v d _ _ _ _ _=>by
    have B:¬ ((1:Int)<0):=by omega
    have e:(m:Int).fdiv 2=(m:Int) / 2:=Int.fdiv_eq_ediv_of_nonneg _ ze_;simp[execOp,d.ev h,d.ev C,eqGuard,binOp,Op.shift,B,IntKind.bits,e]
end
def GrR (S:List RSt) (R:List Str) (r:Str) (ss:List Str) (L:List (Nat×Bool)):Prop:=∀ j c,(j,c)∈L↔∃ s,s∈ss∧R[j]? = some s∧c=flg S r s
theorem GrR.nil {S:List RSt} {R:List Str} {r:Str}:GrR S R r [] []:=fun j c=>by simp
theorem GrR.yes {S:List RSt} {R:List Str} {r s:Str} {ss:List Str} {L:List (Nat×Bool)} {n:Nat} (h:GrR S R r ss L) (y:R.Nodup) (x:R[n]? = some s):GrR S R r (ss++[s]) (L++[(n,flg S r s)]):=fun j c=>by
 rw[List.mem_append,h,List.mem_singleton,Prod.mk.injEq];constructor
 ·rintro (⟨t,d,q,e⟩|⟨rfl,rfl⟩)
  ·exact⟨t,List.mem_append_left _ d,q,e⟩
  exact⟨s,by simp,x,rfl⟩
 rintro ⟨t,d,q,e⟩;rcases List.mem_append.1 d with d|d
 ·exact .inl ⟨t,d,q,e⟩
 rw[List.mem_singleton]at d;subst d;exact .inr ⟨vP_ y q x,e⟩
theorem GrR.no {S:List RSt} {R:List Str} {r s:Str} {ss:List Str} {L:List (Nat×Bool)} (h:GrR S R r ss L) (x:s ∉ R):GrR S R r (ss++[s]) L:=fun j c=>by
 rw[h];constructor
 ·rintro ⟨t,d,e,q⟩;exact⟨t,List.mem_append_left _ d,e,q⟩
 rintro ⟨t,d,e,q⟩;rcases List.mem_append.1 d with d|d
 ·exact⟨t,d,e,q⟩
 rw[List.mem_singleton]at d;subst d;exact absurd (List.mem_of_getElem? e) x
structure GrI (S:List RSt) (R:List Str) (X:List Grw) (i:Nat):Prop where
  len:X.length=i
  row:∀ (k:Nat) (r:Str) (y:Grw),R[k]? = some r→X[k]? = some y→GrR S R r (aT_ (ik S r)) y.st
  short:∀ y∈X,y.st.length≤S.length
theorem GrI.nil {S:List RSt} {R:List Str}:GrI S R [] 0:=⟨rfl,fun k r y _ h=>by simp at h,by simp⟩
theorem GrI.snoc {S:List RSt} {R:List Str} {X:List Grw} {i:Nat} {r:Str} {y:Grw} (h:GrI S R X i) (B:R[i]? = some r) (C:GrR S R r (aT_ (ik S r)) y.st) (A:y.st.length≤S.length):GrI S R (X++[y]) (i+1):=by
 refine⟨by simp[h.len],fun k q z e d=>?_,fun z d=>by rcases List.mem_append.1 d with d|d;exact h.short z d;rw[List.mem_singleton]at d;subst d;exact A⟩;rcases Nat.lt_or_ge k X.length with g|g
 ·rw[List.getElem?_append_left g]at d;exact h.row k q z e d
 rw[List.getElem?_append_right g]at d
 have hk:k - X.length=0:=by
   have:=(List.getElem?_eq_some_iff.1 d).1;simp only[List.length_singleton]at this;omega
 rw[hk]at d;simp only[List.getElem?_cons_zero,Option.some.injEq]at d;subst d;have x:k=i:=by have:=h.len;omega
 subst x;rw[B]at e;simp only[Option.some.injEq]at e;subst e;exact C
theorem GrI.done {S:List RSt} {ks:List (Str×Nat)} {X:List Grw} (C:Frm ks S) (E:∀ z∈S,z.1∈ks.map (·.1)) (B:(ks.map (·.1)).Nodup) (h:GrI S (aT_ (ks.map (·.1))) X (aT_ (ks.map (·.1))).length):GrO S (aT_ (ks.map (·.1))) (X.map Grw.st):=by
 refine⟨by rw[List.length_map,h.len],SrS.nd (ih_ B),fun r=>?_,fun i r l x hl j c=>?_⟩
 ·rw[List.mem_mergeSort]
  constructor
  ·exact C r
  rintro ⟨s,c,A⟩;exact E _ A
 rw[List.getElem?_map,Option.map_eq_some_iff]at hl;obtain⟨y,F,rfl⟩:=hl;rw[h.row i r y x F j c];constructor
 ·rintro ⟨s,d,q,e⟩;rw[List.mem_mergeSort,nB_]at d;exact⟨s,q,d,e⟩
 rintro ⟨s,d,q,e⟩;exact⟨s,by rw[List.mem_mergeSort,nB_];exact q,d,e⟩
theorem xi_:iC_ Tryz.prog 160 [(0,1),(1,1)] [.int .i64 0,.bool false]:=⟨_,Tryz.zeroValue160,cx_,fun w=>by simp[au_,dU_]⟩
theorem pa_:iC_ Tryz.prog 164 [(0,1),(1,1),(2,1),(3,1)] [.int .i64 0,.bool false,.int .i64 0,.int .i64 0]:=⟨_,og_,cw_,fun w=>by simp[au_,dU_]⟩
theorem yj_:Elt Tryz.prog 156 160 2 16:=ji_ Tryz.underlying156 (z:=.agg #[.int .i64 0,.bool false]) zd_ rfl ze_
theorem yi_:Elt Tryz.prog 101 156 1 24:=ji_ Tryz.underlying101 (z:=.slice none 0 0) zd_ rfl ze_
theorem wu_:Elt Tryz.prog 165 164 4 32:=ji_ Tryz.underlying165 (z:=.agg #[.int .i64 0,.bool false,.int .i64 0,.int .i64 0]) zd_ rfl ze_
theorem wg_ (s:Str):Fn0 Tryz.prog 153 #[str s] (.bool false):=by
  refine i_ Tryz.func153 rfl rfl Tryz.ntmps153 rfl fun d=>?_;refine Zz 9 ?_;refine e_ (ar_ (cT_ rfl rfl) (show _=Value.bool false from congrArg Value.bool zj_)) rfl (Zz 4 ?_);exact Y_ Tryz.results153 () rfl f_ zt
theorem uw_ (x y:Str):Fn0 Tryz.prog 152 #[str x,str y] (.bool (decide (x<y))):=by
  refine i_ Tryz.func152 rfl rfl Tryz.ntmps152 rfl fun e=>?_;refine Zz 8 ?_;refine j_ (pt_ x) rfl f_ zt rfl fun _=>Zz 11 ?_
  refine G_ (em_ rfl rfl) rfl fun h d=>Zz 5 ?_
  exact Y_ Tryz.results152 () (m_ rfl (by rw[← d])) f_ zt
theorem binS_c (R:List Str) (ad:Option Addr) (cap:Nat) (t:Str) (hS:SrS R) (hl:R.length≤100000000):Tri Tryz.prog 105 #[.slice ad (List.length R) cap,str t] [] [ai_ ad (List.flatMap ak_ R)] (fun y:{y:Nat×Bool // (y.2=true→R[y.1]? = some t)∧(y.2=false→t ∉ R)}=>.tuple #[.int .i64 (y.1.1:Int),.bool y.1.2]) (fun _=>[]) (fun _=>[]):=by
 refine i_ Tryz.func105 rfl rfl Tryz.ntmps105 rfl fun U=>?_;refine Zz 22 ?_;refine K_ (ι:={y:Nat×Nat // y.1≤y.2∧y.2≤List.length R∧(∀ (a:Nat) (z:Str),a<y.1→R[a]? = some z→z<t)∧(∀ (a:Nat) (z:Str),y.2≤a→R[a]? = some z→¬ z<t)}) (fun y=>[(0,.slice ad (List.length R) cap),(1,str t),(6,.int .i64 (List.length R:Int)),(7,.int .i64 (y.1.1:Int)),(8,.int .i64 (y.1.2:Int))]) (fun y=>([])) (fun y=>[ai_ ad (List.flatMap ak_ R)]) (fun y=>y.1.2 - y.1.1) ⟨((0:Nat),(List.length R)),za_,za_,(fun a y h=>absurd h zb_),(fun a y h e=>by have:=(List.getElem?_eq_some_iff.1 e).1;dsimp only at h;omega)⟩ zl f_ zh ?_;rintro ⟨⟨lo,hi⟩,K,Q,F,hB⟩;dsimp only at K Q F hB ⊢;refine Zi 5 (fun E=>?_) fun E=>?_
 ·obtain rfl:lo=hi:=by omega
  refine Zi 10 (fun d=>?_) fun d=>?_
  ·refine Zz 24 ?_
   exact kK_ Tryz.results105 ⟨(lo,false),fun q=>zaH_,fun _=>yU_ hS F hB (fun q=>by have:=(List.getElem?_eq_some_iff.1 q).1;omega)⟩ rfl rfl rfl f_ zt
  obtain⟨L,T,B,M⟩:=zge (show lo<List.length R by omega);refine Zi 12 (fun x=>?_) fun x=>?_
  ·refine Zz 11 ?_
   refine j_ (wg_ T) rfl f_ zt rfl fun _=>Zz 14 ?_
   exact kK_ Tryz.results105 ⟨(lo,false),fun q=>zaH_,fun _=>yU_ hS F hB (fun q=>by rw[B]at q;exact x (Option.some.inj q))⟩ rfl rfl rfl f_ zt
  refine Zz 19 ?_;exact kK_ Tryz.results105 ⟨(lo,true),fun _=>by rw[B,x],fun q=>by cases q⟩ rfl rfl rfl f_ zt
 have J:(lo+hi) / 2<List.length R:=by omega
 have C:((lo+hi) / 2)<List.length R:=J;obtain⟨S,A⟩:∃ G,R[((lo+hi) / 2)]? = some G:=⟨_,List.getElem?_eq_getElem C⟩;have O:S∈R:=List.mem_of_getElem? A;refine Zz 10 ?_;refine e_ (ar_ (aZ_ rfl rfl rfl (ce_ za_ za_)) (show _=Value.int .i64 ((lo+hi:Nat):Int) from congrArg _ za_)) rfl (e_ (sE_ u_ Tryz.underlying44 rfl (wrapU za_ za_)) rfl (e_ (uC_ rfl rfl) rfl (e_ (sE_ Tryz.underlying44 u_ rfl (ce_ za_ za_)) rfl (Zz 10 ?_))));refine A_ (uw_ S t) rfl f_ zt rfl fun I d=>Zz 2 ?_
 cases I
 ·replace d:=zdf d
  refine Zz 6 ?_;exact x_ ⟨(lo,((lo+hi) / 2)),za_,za_,F,bs_hi hS A d⟩ zb_ zl f_ zh
 replace d:=zdt d;refine Zz 3 ?_;refine e_ (ar_ (aZ_ rfl rfl rfl (ce_ za_ za_)) (show _=Value.int .i64 (((lo+hi) / 2+1:Nat):Int) from congrArg _ za_)) rfl (Zz 3 ?_);exact x_ ⟨(((lo+hi) / 2+1),hi),za_,Q,bs_lo hS A d,hB⟩ zb_ zl f_ zh
end Go.Proofs.YtpbnmnfdgckaiaaGreatDoor
namespace Go.Proofs.YtpbnmnfdgckaiaaGreatDoor
open Go Go.Sx Go.Proofs
attribute [local irreducible] Code.wp wpList wpAnyH
open Go.Vs
theorem uT_ {ks:List (Str×Nat)} {k:Str} (h:k∈ks.map (·.1)):∃ b,gK_ ks k=some b:=by
  cases e:gK_ ks k with
  | none=>exact absurd h (iH_ e)
  | some b=>exact⟨b,rfl⟩
theorem sh_ {S:List RSt} {r:Str}:(ik S r).length≤S.length:=by
  have h:(ik S r) ⊆ S.map (·.2.1):=fun s e=>by
    obtain⟨c,d⟩:=nB_.1 e;exact List.mem_map.2 ⟨_,d,rfl⟩
  have:=(yS_ S r).length_le_of_subset h;rwa [List.length_map]at this
theorem rX_ (B:Nat) (ks:List (Str×Nat)) (S:List RSt) (Hx:Hp) (hT0:MmO B ks S Hx) (hF:Frm ks S) (hkl:ks.length≤100000) (hSl:S.length≤100000):Tri Tryz.prog 66 #[.map (some B)] Hx [] (fun y:{y:List Grw×Option Addr×Nat×Option Addr×Nat // GrO S (aT_ (List.map (fun p:Str×Nat=>p.1) ks)) (List.map Grw.st y.1)∧(∀ z∈y.1,z.st.length≤S.length)∧List.length y.1=List.length ks∧(List.length (aT_ (List.map (fun p:Str×Nat=>p.1) ks))≤y.2.2.1∧y.2.2.1≤maxLen∧(y.2.1=none→y.2.2.1=0))∧(List.length y.1≤y.2.2.2.2∧y.2.2.2.2≤maxLen∧(y.2.2.2.1=none→y.2.2.2.2=0))}=>.agg #[.slice y.1.2.1 (List.length (aT_ (List.map (fun p:Str×Nat=>p.1) ks))) y.1.2.2.1,.slice y.1.2.2.2.1 (List.length y.1.1) y.1.2.2.2.2]) (fun _=>[]) (fun y=>[ai_ y.1.2.1 (List.flatMap ak_ (aT_ (List.map (fun p:Str×Nat=>p.1) ks))),ai_ y.1.2.2.2.1 (List.flatMap Grw.cells y.1.1),hN_ y.1.1]):=by
 obtain⟨es,cm,E,rfl,hE⟩:=hT0;refine i_ Tryz.func66 rfl rfl Tryz.ntmps66 rfl fun v_1=>?_;refine Zz 2 ?_;refine E_ Tryz.zeroValue103 rfl fun F=>Zz 5 ?_
 refine j_ (xR_ B) rfl f_ zt rfl fun bx=>?_;refine j_ (fa_ 151 [zp_ bx 0] [(bx,.cells #[.map (some B)] 105 (0,0)),(B,.map es cm)] (List.map (fun p:Str×Nat=>p.1) ks) hE.nd zal_ (xW_ B bx cm es (List.map (fun p:Str×Nat=>p.1) ks) ⟨hE.keys,hE.nd⟩ hE.born zal_)) rfl zp zt rfl fun⟨⟨rad,e⟩,a7,b0,a4⟩=>?_;dsimp only;have hrl:List.length (aT_ (List.map (fun p:Str×Nat=>p.1) ks))=List.length ks:=by rw[List.length_mergeSort,List.length_map]
 refine Zz 1 ?_;refine z_ 2 ck_ rfl rfl rfl rfl rfl rfl (Zz 12 ?_);refine C_ (l_ d_ (l_ (c_ d_) (l_ d_ ad_))) ?_;try simp only[List.append_nil]
 have hT:MmO B ks S ((B,.map es cm)::List.map (gc_ E) ks):=⟨es,cm,E,rfl,hE⟩;refine C_ (H':=((bx,.cells #[.map (some B)] 105 (0,0))::((F,.cells #[.slice rad (List.length (aT_ (List.map (fun p:Str×Nat=>p.1) ks))) e,.slice none 0 0] 103 (0,0))::(((B,.map es cm)::List.map (gc_ E) ks)++([]:Hp))))) (List.Perm.cons _ (List.Perm.cons _ (List.Perm.of_eq (List.append_nil _).symm))) ?_;refine K_ (ι:={y:Nat×List Grw×Value×Hp // y.1≤List.length (aT_ (List.map (fun p:Str×Nat=>p.1) ks))∧GrI S (aT_ (List.map (fun p:Str×Nat=>p.1) ks)) y.2.1 y.1∧zR 156 1 Grw.cells y.2.2.1 y.2.1 y.2.2.2}) (fun y=>[(0,.map (some B)),(2,zp_ F 0),(15,.slice rad (List.length (aT_ (List.map (fun p:Str×Nat=>p.1) ks))) e),(16,.int .i64 (List.length (aT_ (List.map (fun p:Str×Nat=>p.1) ks)):Int)),(17,.int .i64 (y.1.1:Int))]) (fun y=>((F,.cells #[.slice rad (List.length (aT_ (List.map (fun p:Str×Nat=>p.1) ks))) e,y.1.2.2.1] 103 (0,0))::(((B,.map es cm)::List.map (gc_ E) ks)++y.1.2.2.2))) (fun y=>[ai_ rad (List.flatMap ak_ (aT_ (List.map (fun p:Str×Nat=>p.1) ks))),hN_ y.1.2.1]) (fun y=>List.length (aT_ (List.map (fun p:Str×Nat=>p.1) ks)) - y.1.1) ⟨((0:Nat),([]:List Grw),(.slice none 0 0),([]:Hp)),by simp,GrI.nil,(ax_.nil _ _)⟩ zl zp (fun v _ h=>by exact⟨h.1,(show (hN_ ([]:List Grw)).p v from fun z hz=>by simp at hz),trivial⟩) ?_;rintro ⟨⟨i,X,Y,H⟩,d0,P,J⟩;dsimp only at d0 P J ⊢;refine Zi 2 (fun O=>?_) fun O=>?_
 ·refine Zz 7 ?_
  refine bn_ J (c_ aX_) fun b9 T b6 a1 a8 a3=>?_;subst b6;refine Zz 2 ?_;refine z_ 0 Tryz.sizeOf103 rfl rfl rfl rfl rfl rfl (Zz 3 ?_);exact gb_ ⟨(X,rad,e,b9,T),(by rw[show i=List.length (aT_ (List.map (fun p:Str×Nat=>p.1) ks)) from by omega]at P;exact GrI.done hF hE.all hE.nd P),P.short,P.len.trans za_,⟨a7,b0,a4⟩,⟨a1,a8,a3⟩⟩ (fun aa v h_1 h_2=>dE_ (us:=[.slice rad (List.length (aT_ (List.map (fun p:Str×Nat=>p.1) ks))) e,.slice b9 (List.length X) T]) 0 Tryz.results66 Tryz.isAgg103 Tryz.sizeOf103 rfl rfl rfl aa v h_1 h_2) f_ zf
 have M:i<List.length (aT_ (List.map (fun p:Str×Nat=>p.1) ks)):=by omega
 obtain⟨d,V⟩:∃ a0,(aT_ (List.map (fun p:Str×Nat=>p.1) ks))[i]? = some a0:=⟨_,List.getElem?_eq_getElem M⟩;have a9:d∈(aT_ (List.map (fun p:Str×Nat=>p.1) ks)):=List.mem_of_getElem? V;refine Zz 22 ?_;have hkm:d∈(List.map (fun p:Str×Nat=>p.1) ks):=List.mem_mergeSort.1 a9;obtain⟨bk,Q⟩:=uT_ hkm;refine Zz 3 ?_;refine e_ (ar_ (eT_ (k:=d) bq_ dm_ dX_ hT rfl rfl zp) (congrArg lS_ Q)) rfl (j_ (iQ_ bk) rfl f_ zt rfl fun by_=>?_);obtain⟨b3,cb,Hr,U,R,b4,_⟩:=hT.at Q;refine C_ (l_ d_ (l_ d_ (B_ aX_ ad_))) ?_;try simp only[List.append_nil]
 refine C_ (List.Perm.cons _ (List.Perm.cons _ (List.Perm.append_left H U))) (j_ (fa_ 96 [zp_ by_ 0] [(by_,.cells #[.map (some bk)] 33 (0,0)),(bk,.map b3 cb)] (ik S d) (yS_ S d) (by have:=sh_ (S:=S) (r:=d);omega) (iR_ bk by_ cb b3 (ik S d) ⟨R.keys,R.nd⟩ b4 (by have:=sh_ (S:=S) (r:=d);omega))) rfl (l_ d_ (c_ (g_ d_))) zt rfl fun⟨⟨sad,b5⟩,hss_1,hss_2,hss_3⟩=>?_);dsimp only;have hsl:List.length (aT_ (ik S d))=List.length (ik S d):=List.length_mergeSort _;have hil:=sh_ (S:=S) (r:=d);refine Zz 5 ?_;refine C_ (l_ d_ (l_ (c_ d_) (B_ (c_ y_) (l_ d_ ad_)))) ?_;try simp only[List.append_nil]
 refine C_ (List.Perm.cons _ (List.Perm.cons _ (List.Perm.append_left H U.symm))) (C_ (H':=((by_,.cells #[.map (some bk)] 33 (0,0))::((F,.cells #[.slice rad (List.length (aT_ (List.map (fun p:Str×Nat=>p.1) ks))) e,Y] 103 (0,0))::(H++(((B,.map es cm)::List.map (gc_ E) ks)++([]:Hp)))))) (List.Perm.cons _ (List.Perm.cons _ (List.Perm.append_left H (List.Perm.of_eq (List.append_nil _).symm)))) ?_);refine K_ (ι:={y:Nat×List (Nat×Bool)×Value×Hp // y.1≤List.length (aT_ (ik S d))∧GrR S (aT_ (List.map (fun p:Str×Nat=>p.1) ks)) d (List.take y.1 (aT_ (ik S d))) y.2.1∧List.length y.2.1≤y.1∧zR 160 2 rd_ y.2.2.1 y.2.1 y.2.2.2}) (fun y=>[(0,.map (some B)),(2,zp_ F 0),(15,.slice rad (List.length (aT_ (List.map (fun p:Str×Nat=>p.1) ks))) e),(16,.int .i64 (List.length (aT_ (List.map (fun p:Str×Nat=>p.1) ks)):Int)),(17,.int .i64 (i:Int)),(4,str d),(5,y.1.2.2.1),(25,.slice sad (List.length (aT_ (ik S d))) b5),(26,.int .i64 (List.length (aT_ (ik S d)):Int)),(27,.int .i64 (y.1.1:Int))]) (fun y=>((F,.cells #[.slice rad (List.length (aT_ (List.map (fun p:Str×Nat=>p.1) ks))) e,Y] 103 (0,0))::(H++(((B,.map es cm)::List.map (gc_ E) ks)++y.1.2.2.2)))) (fun y=>[ai_ sad (List.flatMap ak_ (aT_ (ik S d))),ai_ rad (List.flatMap ak_ (aT_ (List.map (fun p:Str×Nat=>p.1) ks))),hN_ X]) (fun y=>List.length (aT_ (ik S d)) - y.1.1) ⟨((0:Nat),([]:List (Nat×Bool)),(.slice none 0 0),([]:Hp)),by simp,(by rw[List.take_zero];exact GrR.nil),zj_,(ax_.nil _ _)⟩ zl zp zh ?_;rintro ⟨⟨j,L,a2,b8⟩,c1,hL,hLl,x⟩;dsimp only at c1 hL hLl x ⊢;refine Zi 2 (fun I=>?_) fun I=>?_
 ·refine Zz 6 ?_
  refine bn_ x (c_ (g_ aX_)) fun lad lcap b2 hclad hmlad hzlad=>?_;subst b2;refine Zz 4 ?_;refine X_ cA_ Tryz.sizeOf156 Tryz.zeroValue156 rfl rfl rfl rfl rfl rfl fun b_2=>?_;refine am_ (news:=List.flatMap Grw.cells [(Grw.mk L lad lcap)]) yi_ J rfl rfl (c_ (c_ y_)) rfl (aR_ 0 rfl) (fun u hu=>aE_ Grw.cells_one hu) zO_ zab_ rfl fun N G O=>?_;have C:=zsa O;refine Zz 1 ?_;refine C_ (W_ (g_ d_) (bj_ (g_ d_))) (dM_ 1 C Tryz.sizeOf101 rfl rfl rfl rfl (Zz 7 ?_));exact x_ ⟨(i+1,(X++[(Grw.mk L lad lcap)]),N,G),M,P.snoc V (by have q:=hL;rw[List.take_of_length_le za_]at q;exact q) zb_,C⟩ zb_ zl (l_ (c_ d_) (B_ (c_ aX_) H_)) (fun v _ h=>by exact⟨h.2.2.1,si_ h.2.2.2.1 h.1,trivial⟩)
 have A:j<List.length (aT_ (ik S d)):=by omega
 obtain⟨a6,K⟩:∃ a0,(aT_ (ik S d))[j]? = some a0:=⟨_,List.getElem?_eq_getElem A⟩;have hms_1:a6∈(aT_ (ik S d)):=List.mem_of_getElem? K;refine Zz 20 ?_;refine j_ (binS_c (aT_ (List.map (fun p:Str×Nat=>p.1) ks)) rad e a6 (ih_ hE.nd) za_) rfl f_ zf rfl fun⟨⟨b1,c2⟩,W,Z⟩=>?_;dsimp only;dsimp only at W Z;refine Zz 12 ?_;cases c2
 ·refine Zz 8 ?_
  exact x_ ⟨(j+1,L,a2,b8),A,(by rw[take_snoc K];exact hL.no (Z rfl)),zb_,x⟩ zb_ zl zp zh
 refine Zz 6 ?_;refine e_ (ar_ (eT_ (k:=d) bq_ dm_ dX_ hT rfl rfl zp) (congrArg lS_ Q)) rfl (Zz 1 ?_);refine G_ (jn_ (k:=d) (s:=a6) bq_ P_ aA_ hT Q rfl rfl zp) rfl fun b7 c0=>e_ (J_ xi_ rfl rfl) rfl (X_ bX_ Tryz.sizeOf160 Tryz.zeroValue160 rfl rfl rfl rfl rfl rfl fun b_2=>?_)
 refine am_ (news:=List.flatMap rd_ [(Prod.mk b1 b7)]) yj_ x rfl rfl (c_ (c_ (g_ aX_))) rfl (aR_ 0 rfl) (fun u hu=>aE_ wt_ hu) zO_ zab_ rfl fun N G I=>?_;have C:=zsa I;refine Zz 3 ?_;refine C_ (W_ (g_ d_) (bj_ (g_ d_))) (Zz 5 ?_);exact x_ ⟨(j+1,(L++[(Prod.mk b1 b7)]),N,G),A,(by rw[take_snoc K,← c0];exact hL.yes (SrS.nd (ih_ hE.nd)) (W rfl)),zat_,C⟩ zb_ zl zp zh
end Go.Proofs.YtpbnmnfdgckaiaaGreatDoor
