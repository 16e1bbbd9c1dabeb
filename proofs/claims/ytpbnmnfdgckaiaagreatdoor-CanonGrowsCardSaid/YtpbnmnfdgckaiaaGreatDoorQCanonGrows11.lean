/-
  Part of the proof of the law CanonGrows over this seat: the small logic, the data, the contracts of functions (no condition).
-/
import Derived.Test.YtpbnmnfdgckaiaaGreatDoorQCanonGrows10
import Derived.Test.YtpbnmnfdgckaiaaGreatDoorQCanonGrows5
import Derived.Test.YtpbnmnfdgckaiaaGreatDoorQCanonGrows6
import Derived.Test.YtpbnmnfdgckaiaaGreatDoorQCanonGrows2
import Derived.Test.YtpbnmnfdgckaiaaGreatDoorQCanonGrows8
set_option linter.unusedVariables false
set_option linter.unusedSimpArgs false
set_option linter.unusedSectionVars false
set_option maxHeartbeats 1000000
namespace Go.Proofs.YtpbnmnfdgckaiaaGreatDoor
open Go Go.Sx Go.Proofs
attribute [local irreducible] Code.wp wpList wpAnyH
open Go.Vs
theorem kc_ {G:Prop} (h:G:=by
 refine e_ (K_ jJ_ rfl rfl) rfl (x_ 0 cj_ rfl rfl rfl rfl rfl rfl (Zz 4 ?_));exact hi_ ⟨((Cl.mk [] none 0 [] none 0),1),xg_ zB_ zr_⟩ (fun aa v C F=>fW_ (us:=Cl.cells (Cl.mk [] none 0 [] none 0)) 0 iH_ iP_ cj_ rfl rfl rfl rfl aa v C F) l_ (fun v _ h=>by exact⟨.inl rfl,.inl rfl,trivial⟩)):G:=h
theorem hx_ {G:Prop} (h:G:=by
 refine aA_ (first:=[zp_ g 0]) (vs:=[Fc.val f]) (cap:=[]) hT rfl rfl (pf_six (F_ (c_ (c_ (c_ t_))) (F_ (c_ (c_ (c_ t_))) (F_ (c_ (c_ (c_ t_))) (F_ (c_ (c_ (c_ t_))) (F_ (c_ (c_ (c_ t_))) (F_ (c_ (c_ (c_ t_))) (c_ (c_ B_))))))))) (fun v _ h=>by exact⟨h.2.2.2.2.2.1,h.2.2.2.2.1,⟨h.2.2.2.2.2.2.2.1,h.2.2.2.2.2.2.1,h.2.2.2.2.2.1⟩,trivial⟩) rfl fun⟨W,V⟩=>u_ xZ_ (Zz 2 ?_)
 refine u_ (Y_ (g_ (g_ (g_ (g_ (g_ (g_ (g_ d_))))))) (Y_ (g_ (g_ (g_ (g_ (g_ (g_ (g_ d_))))))) (bq_ (g_ (g_ (g_ (g_ (g_ (g_ bf_))))))))) (Zz 2 ?_);refine G_ 0 [0,1,2,3,4,5,6] zk zs (Zz 4 ?_);refine z_ rfl (aD_ (mY_ (E:=(EA m hm (EngB.mk g pb ab ub ob ib rb sb lad lcap (aI_ (uniq [] p))) B A d kb fb)) (nw:=(rls (bD_ m) idk (aY_ (uniq [] p)) (Ix.add x (decide (f∈fm)) f) f (j+1) (q,fm)).1) (Hs:=W) V bw_ rfl zp) (show _=Value.int .i64 (List.length (rls (bD_ m) idk (aY_ (uniq [] p)) (Ix.add x (decide (f∈fm)) f) f (j+1) (q,fm)).1:Int) from rfl)) rfl (Zi 1 (fun hr_6=>?_) fun hr_6=>?_)
 ·refine Zz 11 ?_
  exact y_ ⟨(j+1,W),a7,by exact V,.inr zu_⟩ zu_ zl zp zh
 refine Zz 9 ?_;refine G_ 0 [0,1,2,3,4,5,6] zk zs (Zz 4 ?_);refine z_ rfl (aD_ (mY_ (E:=(EA m hm (EngB.mk g pb ab ub ob ib rb sb lad lcap (aI_ (uniq [] p))) B A d kb fb)) (nw:=(rls (bD_ m) idk (aY_ (uniq [] p)) (Ix.add x (decide (f∈fm)) f) f (j+1) (q,fm)).1) (Hs:=W) V bw_ rfl zp) (show _=Value.int .i64 (List.length (rls (bD_ m) idk (aY_ (uniq [] p)) (Ix.add x (decide (f∈fm)) f) f (j+1) (q,fm)).1:Int) from rfl)) rfl (Zi 1 (fun hr_7=>?_) fun hr_7=>?_)
 ·omega
 refine Zi 8 (fun hr_8=>?_) fun hr_8=>?_
 ·refine Zz 7 ?_
  refine e_ (K_ jJ_ rfl rfl) rfl (x_ 0 cj_ rfl rfl rfl rfl rfl rfl (Zz 4 ?_));exact hi_ ⟨((Cl.mk [] none 0 [] none 0),2),ju_ Y a0 a1 X (by rw[if_neg zB_]) (gB_ L hL hf (j+1) rfl).1 (gB_ L hL hf (j+1) rfl).2.2.1 zr_⟩ (fun aa v C F=>fW_ (us:=Cl.cells (Cl.mk [] none 0 [] none 0)) 0 iH_ iP_ cj_ rfl rfl rfl rfl aa v C F) l_ (fun v _ h=>by exact⟨.inl rfl,.inl rfl,trivial⟩)
 refine Zz 5 ?_;refine e_ (K_ jJ_ rfl rfl) rfl (x_ 0 cj_ rfl rfl rfl rfl rfl rfl (Zz 4 ?_));exact hi_ ⟨((Cl.mk [] none 0 [] none 0),3),ju_ Y a0 a1 X (by rw[if_pos zB_]) (gB_ L hL hf (j+1) rfl).1 (gB_ L hL hf (j+1) rfl).2.2.1 zr_⟩ (fun aa v C F=>fW_ (us:=Cl.cells (Cl.mk [] none 0 [] none 0)) 0 iH_ iP_ cj_ rfl rfl rfl rfl aa v C F) l_ (fun v _ h=>by exact⟨.inl rfl,.inl rfl,trivial⟩)):G:=h
set_option maxHeartbeats 4000000 in
theorem all_c (p:List Pc) (a6:Option Addr) (a8:Nat) (bu:Int) (hsm:∀ x∈p,x.sm) (hp:p.length≤100000000):Tri Tryz.prog 32 #[.slice a6 (List.length p) a8,.int .i64 bu] [] [V_ a6 (List.flatMap Pc.cells p),eX_] (fun y:{y:Cl×Int // eY_ p bu y.1 y.2}=>.tuple #[y.1.1.val,.int .i64 y.1.2]) (fun _=>[]) (fun y=>y.1.1.row):=by
 refine j_ Tryz.func32 rfl rfl Tryz.ntmps32 rfl fun v_1=>?_;refine Zz 2 ?_;refine D_ Tryz.zeroValue67 rfl fun b_1=>Zz 3 ?_
 refine lb_ (Zz 4 ?_);refine i_ (yI_ p a6 a8 zr_ hsm) rfl l_ zf rfl fun _=>Zi 6 (fun hr_1=>?_) fun hr_1=>?_
 ·have Y:=hr_1
  refine Zi 9 (fun hr_2=>?_) fun hr_2=>?_
  ·have a0:=hr_2
   refine Zi 4 (fun hr_3=>?_) fun hr_3=>?_
   ·have a1:=hr_3
    refine Zz 7 ?_;obtain⟨m,X⟩:∃ m:Nat,min bu 65536=(m:Int):=⟨(min bu 65536).toNat,by omega⟩;have hm:m≤65536:=by omega
    have L:=vj_ (pq_ Y);have hpl:∀ k,(lat (aY_ (uniq [] p)) k).length≤1000000000:=fun k=>by have C:=dO_ (aY_ (uniq [] p)) k;have F:=nz_ (uniq [] p);have h_3:=kn_ p [];simp only[List.length_nil]at h_3;omega
    refine Zz 2 ?_;refine i_ (re_ p a6 a8 zr_) rfl l_ zf rfl fun⟨⟨g,pb,kb,ab,ub,ob,ib,rb,sb,fb,lv,hm_1,hl_1⟩,hy⟩=>?_;dsimp only;dsimp only[NewE.own,NewE.ok]at hy ⊢;obtain⟨hym,hyl⟩:=hy;simp only[List.cons_append,List.append_assoc];refine aN_ hyl (c_ (c_ (c_ (c_ (c_ (c_ (c_ (c_ (c_ (g_ t_)))))))))) fun lad lcap hlad hclad hmlad hzlad=>?_;subst hlad;refine D_ Tryz.zeroValue116 rfl fun B=>u_ (Y_ d_ (Y_ d_ (Y_ d_ (Y_ d_ (Y_ d_ (Y_ d_ (Y_ d_ (Y_ d_ (Y_ d_ (Y_ d_ (bq_ bf_))))))))))) (x_ 0 Tryz.sizeOf116 rfl rfl rfl rfl rfl rfl (Zz 5 ?_))
    refine e_ (aD_ (kj_ rfl rfl) (congrArg (Value.int .i64) X)) rfl (D_ kW_ rfl fun A=>x_ 0 av_ rfl rfl rfl rfl rfl rfl (Zz 4 ?_));refine D_ ci_ rfl fun d=>Zz 5 ?_
    refine e_ (bT_ rfl rfl) rfl (Zz 2 ?_);refine x_ 3 fe_ rfl rfl rfl rfl rfl rfl (Zz 3 ?_);refine fj_ (ck_ B (.cells #[zp_ g 0] 116 (0,0))) (bq_ (c_ (c_ d_))) (fun _ C F _=>⟨C,F⟩) ?_;refine fj_ (ck_ A (.cells #[.int .i64 (m:Int)] 3 (0,0))) (bq_ (c_ d_)) (fun _ C F _=>⟨C,F⟩) ?_;refine fj_ (ck_ g (.cells #[.map (some pb),.slice lad (List.length (aI_ (uniq [] p))) lcap,.map (some kb),.func (.func 73) #[] #[zp_ B 0,zp_ A 0,zp_ d 0],.map (some ab),.map (some ub),.map (some ob),.map (some ib),.map (some rb),.map (some sb),.map (some fb)] 124 (0,0))) (bq_ (c_ d_)) (fun _ C F _=>⟨C,F⟩) ?_;refine nI_ ie_ hym (c_ (c_ (c_ (c_ (c_ (c_ (c_ (c_ (c_ B_))))))))) fun adr=>?_;refine Zz 2 ?_;refine i_ (atS_c p a6 a8 zr_) rfl l_ zf rfl fun⟨⟨aad,acap⟩,hac,ham,haz⟩=>?_;dsimp only;refine Zz 7 ?_;refine i_ (yN_ (EngB.mk g pb ab ub ob ib rb sb lad lcap (aI_ (uniq [] p))) (EA m hm (EngB.mk g pb ab ub ob ib rb sb lad lcap (aI_ (uniq [] p))) B A d kb fb) [] [] [(d,.cells #[.slice none 0 0] 26 (0,0)),(kb,.map #[] 0),(fb,.map #[] 0)] ⟨.slice none 0 0,#[],0,#[],0,[],[],rfl,aB_.nil _ _,SetE.nil,SetE.nil,by simp⟩ (atS p) aad acap (by have:=qk_ p;omega) (by have:=ml_ (uniq [] p);have h_3:=kn_ p [];simp only[List.length_nil]at h_3;show (aI_ (uniq [] p)).length≤_;omega)) rfl (f_ d_ (f_ d_ (c_ (c_ (c_ (c_ (c_ (c_ d_)))))))) (fun v _ h=>by exact⟨h.2.2.1,h.2.2.2.2.2.1,h.1,⟨h.2.2.2.2.1,h.2.2.2.1,h.2.2.1⟩,trivial⟩) rfl fun⟨Hs_1,hS_1⟩=>?_;dsimp only;refine Zz 2 ?_;refine u_ (Y_ (g_ d_) (Y_ (g_ d_) (Y_ (g_ d_) (Y_ (g_ d_) (Y_ (g_ d_) (Y_ (g_ d_) (bq_ bf_))))))) (Zz 3 ?_);refine i_ (xJ_ g) rfl l_ zt rfl fun⟨a5,a4,a3⟩=>?_;dsimp only;refine D_ Tryz.zeroValue128 rfl fun a2=>x_ 0 Tryz.sizeOf128 rfl rfl rfl rfl rfl rfl (Zz 3 ?_)
    refine ld_ (Zz 8 ?_);refine P_ (ι:={y:Nat×List Fc×List Fc×Ix×Hp×Hp×Hp×Hp×Hp×Hp×Hp // LoopA (uniq [] p) (atS p) m y.1 y.2.1 y.2.2.1 y.2.2.2.1∧((EA m hm (EngB.mk g pb ab ub ob ib rb sb lad lcap (aI_ (uniq [] p))) B A d kb fb)).St y.2.1 y.2.2.1 y.2.2.2.2.2.2.2.2.2.2∧IxO 9 36 (EngB.mk g pb ab ub ob ib rb sb lad lcap (aI_ (uniq [] p))) y.2.2.2.1 ⟨y.2.2.2.2.1,y.2.2.2.2.2.1,y.2.2.2.2.2.2.1,y.2.2.2.2.2.2.2.1,y.2.2.2.2.2.2.2.2.1,y.2.2.2.2.2.2.2.2.2.1⟩∧sv_ y.2.2.2.1 y.1}) (fun y=>[(0,.slice a6 (List.length p) a8),(1,.int .i64 bu),(4,zp_ b_1 0),(7,zp_ B 0),(8,zp_ A 0),(9,zp_ d 0),(10,.slice aad (List.length (atS p)) acap),(11,zp_ a2 0),(12,.int .i64 (y.1.1:Int))]) (fun y=>((b_1,.cells #[.slice none 0 0,.slice none 0 0] 67 (0,0))::((a2,.cells #[.slice none 0 0,.slice (some ⟨a5,0,none⟩) 6 6,.slice (some ⟨a4,0,none⟩) 4 4,.slice (some ⟨a3,0,none⟩) 2 2] 128 (0,0))::(y.1.2.2.2.2.1++(y.1.2.2.2.2.2.1++(y.1.2.2.2.2.2.2.1++(y.1.2.2.2.2.2.2.2.1++(y.1.2.2.2.2.2.2.2.2.1++(y.1.2.2.2.2.2.2.2.2.2.1++y.1.2.2.2.2.2.2.2.2.2.2))))))))) (fun y=>[V_ (some ⟨a5,0,none⟩) (List.flatMap fvC (rlV g 1)),V_ (some ⟨a4,0,none⟩) (List.flatMap fvC (rlV g 2)),V_ (some ⟨a3,0,none⟩) (List.flatMap fvC (rlV g 3)),V_ aad (List.flatMap ap_ (atS p)),mlF Tryz.prog 208 Ky.val Pc.cells pb (aY_ (uniq [] p)) adr,ck_ g (.cells #[.map (some pb),.slice lad (List.length (aI_ (uniq [] p))) lcap,.map (some kb),.func (.func 73) #[] #[zp_ B 0,zp_ A 0,zp_ d 0],.map (some ab),.map (some ub),.map (some ob),.map (some ib),.map (some rb),.map (some sb),.map (some fb)] 124 (0,0)),ck_ A (.cells #[.int .i64 (m:Int)] 3 (0,0)),ck_ B (.cells #[zp_ g 0] 116 (0,0)),V_ lad (List.flatMap ap_ (aI_ (uniq [] p))),V_ a6 (List.flatMap Pc.cells p),eX_]) (fun y=>m+1 - y.1.1) ⟨((0:Nat),(emits (bD_ m) (fG_ (aI_ (uniq [] p)) (atS p)) []),([]:List Fc),Ix.nil,[(ab,.map #[] 0)],[(ub,.map #[] 0)],[(ob,.map #[] 0)],[(ib,.map #[] 0)],[(rb,.map #[] 0)],[(sb,.map #[] 0)],Hs_1),rj_ L rfl,by exact hS_1,⟨dl_.nil _ _,dl_.nil _ _,dl_.nil _ _,dl_.nil _ _,dl_.nil _ _,dl_.nil _ _⟩,wo_⟩ zl (f_ (c_ (c_ (c_ (c_ (c_ (c_ (c_ d_))))))) (f_ d_ (f_ d_ (f_ d_ (f_ d_ (f_ d_ (f_ d_ (f_ d_ ah_)))))))) zh ?_;rintro ⟨⟨n,q,fm,x,Ha,Hu,Ho,Hi,Hr,Hm,Hs⟩,hL,hS,hI,hz⟩;dsimp only at hL hS hI hz ⊢;obtain⟨K,N,J,H,M,qf_1,I,hHs_1,O,hEk_1,hEf_1,hqf_1⟩:=hS;subst hHs_1;have hqm:=hL.len;have hnq:=hL.le;obtain⟨hxl,hyl⟩:=rn_ hz zr_;refine as_ (u_ (Y_ d_ (Y_ d_ (Y_ (g_ (g_ (g_ (g_ (g_ (g_ d_)))))) (bq_ (g_ (g_ (g_ (g_ (g_ (g_ d_)))))))))) (Zz 4 ?_));refine e_ (dV_ O A_ rfl) rfl ?_;refine Zi 0 (fun hr_4=>?_) fun hr_4=>?_
    ·refine Zz 8 ?_
     refine G_ 0 [0,1,2,3,4,5,6] zk zs (Zz 4 ?_);refine z_ rfl (aD_ (mY_ (E:=(EA m hm (EngB.mk g pb ab ub ob ib rb sb lad lcap (aI_ (uniq [] p))) B A d kb fb)) (nw:=q) (Hs:=((d,.cells #[K] 26 (0,0))::(kb,.map N J)::([(fb,.map H M)]++I))) ⟨K,N,J,H,M,qf_1,I,rfl,O,hEk_1,hEf_1,hqf_1⟩ bw_ rfl zp) (show _=Value.int .i64 (List.length q:Int) from rfl)) rfl (Zi 1 (fun hr_5=>?_) fun hr_5=>?_)
     ·refine Zz 9 ?_
      refine i_ (xD_ O zr_) rfl zp zt rfl fun⟨Hq_2,hq_1⟩=>?_;dsimp only;refine Zz 2 ?_;refine u_ (Y_ (g_ d_) (Y_ (g_ d_) (Y_ (g_ d_) (bq_ (g_ d_))))) (as_ (aN_ hq_1 (c_ (c_ (c_ (c_ t_)))) fun fad fcap hfad hcfad hmfad hzfad=>?_));subst hfad;refine Zz 3 ?_;refine e_ (K_ jJ_ rfl rfl) rfl (x_ 0 cj_ rfl rfl rfl rfl rfl rfl (Zz 4 ?_));exact hi_ ⟨((Cl.mk (atS p) aad acap (fp_ q) fad fcap),0),yX_ Y a0 a1 X ⟨hac,ham,haz,hcfad,hmfad,hzfad⟩ rfl hL zr_ zr_ rfl⟩ (fun aa v C F=>fW_ (us:=Cl.cells (Cl.mk (atS p) aad acap (fp_ q) fad fcap)) 0 iH_ iP_ cj_ rfl rfl rfl rfl aa v C F) l_ zf
     refine Zi 8 (fun hr_6=>?_) fun hr_6=>?_
     ·refine Zz 7 ?_
      refine e_ (K_ jJ_ rfl rfl) rfl (x_ 0 cj_ rfl rfl rfl rfl rfl rfl (Zz 4 ?_));exact hi_ ⟨((Cl.mk [] none 0 [] none 0),2),ju_ Y a0 a1 X (by rw[if_neg zB_]) hL.nd hL.der zr_⟩ (fun aa v C F=>fW_ (us:=Cl.cells (Cl.mk [] none 0 [] none 0)) 0 iH_ iP_ cj_ rfl rfl rfl rfl aa v C F) l_ (fun v _ h=>by exact⟨.inl rfl,.inl rfl,trivial⟩)
     refine Zz 5 ?_;refine e_ (K_ jJ_ rfl rfl) rfl (x_ 0 cj_ rfl rfl rfl rfl rfl rfl (Zz 4 ?_));exact hi_ ⟨((Cl.mk [] none 0 [] none 0),3),ju_ Y a0 a1 X (by rw[if_pos zB_]) hL.nd hL.der zr_⟩ (fun aa v C F=>fW_ (us:=Cl.cells (Cl.mk [] none 0 [] none 0)) 0 iH_ iP_ cj_ rfl rfl rfl rfl aa v C F) l_ (fun v _ h=>by exact⟨.inl rfl,.inl rfl,trivial⟩)
    have hlf:n<List.length q:=by omega
    obtain⟨f,hf⟩:∃ e_1,q[n]? = some e_1:=⟨_,List.getElem?_eq_getElem hlf⟩;have hmf:f∈q:=List.mem_of_getElem? hf;have hfd:=hL.der f hmf;have hform:=hfd.form L;obtain⟨hxl_1,hyl_1⟩:=rn_ (kD_ hz (decide (f∈fm)) f) zr_;refine Zz 11 ?_;refine e_ (bR_ O A_ E_ rfl rfl zr_ zr_) rfl (e_ (fu_ O zp bH_ E_ rfl (Fc.cells_len _) zx_ (p_ Fc.cells_len hf)) rfl (D_ ae_ rfl fun b_6=>x_ 0 E_ rfl rfl rfl rfl rfl rfl (Zz 6 ?_)));refine i_ (yr_ (EngB.mk g pb ab ub ob ib rb sb lad lcap (aI_ (uniq [] p))) (EA m hm (EngB.mk g pb ab ub ob ib rb sb lad lcap (aI_ (uniq [] p))) B A d kb fb) x f q fm ((d,.cells #[K] 26 (0,0))::(kb,.map N J)::([(fb,.map H M)]++I)) ⟨K,N,J,H,M,qf_1,I,rfl,O,hEk_1,hEf_1,hqf_1⟩ Ha Hu Ho Hi Hr Hm hI hxl hyl) rfl (F_ (c_ (c_ (c_ (c_ (c_ t_))))) (F_ (c_ (c_ (c_ (c_ (c_ t_))))) (F_ (c_ (c_ (c_ (c_ (c_ t_))))) (F_ (c_ (c_ (c_ (c_ (c_ t_))))) (F_ (c_ (c_ (c_ (c_ (c_ t_))))) (F_ (c_ (c_ (c_ (c_ (c_ t_))))) (f_ (c_ (c_ (c_ d_))) (f_ (c_ (c_ (c_ d_))) (F_ (c_ (c_ (c_ t_))) (c_ (c_ B_))))))))))) zf rfl fun⟨⟨R,U,Q,S,T,P⟩,hI_1⟩=>?_;dsimp only;refine u_ ya_ (Zz 2 ?_);refine u_ (Y_ (g_ (g_ (g_ (g_ (g_ (g_ d_)))))) (Y_ (g_ (g_ (g_ (g_ (g_ (g_ d_)))))) (Y_ (g_ (g_ (g_ (g_ (g_ (g_ (g_ (g_ d_)))))))) (Y_ (g_ (g_ (g_ (g_ (g_ (g_ (g_ (g_ d_)))))))) (bq_ (g_ (g_ (g_ (g_ (g_ (g_ (g_ bf_)))))))))))) (Zz 4 ?_);rcases jp_ hform with hk|hk|hk
    ·refine e_ (aD_ (em_ tY_ Tryz.sizeOf127 rfl rfl zr_ zr_) (show _=zp_ a2 1 from by rw[hk];rfl)) rfl ?_
     refine Zz 6 ?_;refine dW_ (H':=((b_1,.cells #[.slice none 0 0,.slice none 0 0] 67 (0,0))::((a2,.cells #[.slice none 0 0,.slice (some ⟨a5,0,none⟩) 6 6,.slice (some ⟨a4,0,none⟩) 4 4,.slice (some ⟨a3,0,none⟩) 2 2] 128 (0,0))::((b_6,.cells #[.int .i64 f.kind,str f.a,str f.b,str f.r,.int .i64 f.lo,.int .i64 f.hi] 36 (0,0))::(R++(U++(Q++(S++(T++(P++((d,.cells #[K] 26 (0,0))::(kb,.map N J)::([(fb,.map H M)]++I)))))))))))) (f_ (c_ (c_ (c_ d_))) (f_ (c_ (c_ (c_ d_))) (f_ (c_ (c_ d_)) (F_ (c_ (c_ t_)) (F_ (c_ (c_ t_)) (F_ (c_ (c_ t_)) (F_ (c_ (c_ t_)) (F_ (c_ (c_ t_)) (F_ (c_ (c_ t_)) (f_ d_ (f_ d_ (F_ t_ ah_)))))))))))) (fun v _ h=>h) ?_;refine P_ (ι:={y:Nat×Hp // y.1≤6∧((EA m hm (EngB.mk g pb ab ub ob ib rb sb lad lcap (aI_ (uniq [] p))) B A d kb fb)).St (rls (bD_ m) idk (aY_ (uniq [] p)) (Ix.add x (decide (f∈fm)) f) f y.1 (q,fm)).1 (rls (bD_ m) idk (aY_ (uniq [] p)) (Ix.add x (decide (f∈fm)) f) f y.1 (q,fm)).2 y.2∧(y.1=0∨((rls (bD_ m) idk (aY_ (uniq [] p)) (Ix.add x (decide (f∈fm)) f) f y.1 (q,fm)).1).length≤m)}) (fun y=>[(0,.slice a6 (List.length p) a8),(1,.int .i64 bu),(4,zp_ b_1 0),(7,zp_ B 0),(8,zp_ A 0),(9,zp_ d 0),(10,.slice aad (List.length (atS p)) acap),(11,zp_ a2 0),(12,.int .i64 (n:Int)),(13,zp_ b_6 0),(60,.slice (some ⟨a5,0,none⟩) 6 6),(61,.int .i64 6),(62,.int .i64 (y.1.1:Int))]) (fun y=>((b_1,.cells #[.slice none 0 0,.slice none 0 0] 67 (0,0))::((a2,.cells #[.slice none 0 0,.slice (some ⟨a5,0,none⟩) 6 6,.slice (some ⟨a4,0,none⟩) 4 4,.slice (some ⟨a3,0,none⟩) 2 2] 128 (0,0))::((b_6,.cells #[.int .i64 f.kind,str f.a,str f.b,str f.r,.int .i64 f.lo,.int .i64 f.hi] 36 (0,0))::(R++(U++(Q++(S++(T++(P++y.1.2)))))))))) (fun y=>[V_ (some ⟨a5,0,none⟩) (List.flatMap fvC (rlV g 1)),V_ (some ⟨a4,0,none⟩) (List.flatMap fvC (rlV g 2)),V_ (some ⟨a3,0,none⟩) (List.flatMap fvC (rlV g 3)),V_ aad (List.flatMap ap_ (atS p)),mlF Tryz.prog 208 Ky.val Pc.cells pb (aY_ (uniq [] p)) adr,ck_ g (.cells #[.map (some pb),.slice lad (List.length (aI_ (uniq [] p))) lcap,.map (some kb),.func (.func 73) #[] #[zp_ B 0,zp_ A 0,zp_ d 0],.map (some ab),.map (some ub),.map (some ob),.map (some ib),.map (some rb),.map (some sb),.map (some fb)] 124 (0,0)),ck_ A (.cells #[.int .i64 (m:Int)] 3 (0,0)),ck_ B (.cells #[zp_ g 0] 116 (0,0)),V_ lad (List.flatMap ap_ (aI_ (uniq [] p))),V_ a6 (List.flatMap Pc.cells p),eX_]) (fun y=>6 - y.1.1) ⟨((0:Nat),((d,.cells #[K] 26 (0,0))::(kb,.map N J)::([(fb,.map H M)]++I))),by omega,by exact⟨K,N,J,H,M,qf_1,I,rfl,O,hEk_1,hEf_1,hqf_1⟩,.inl rfl⟩ zl zp zh ?_;rintro ⟨⟨j,Hs⟩,hj,G,hjm⟩;dsimp only at hj G hjm ⊢;refine Zi 2 (fun hr_5=>?_) fun hr_5=>?_
     ·have ej:j=6:=by omega
      have hjl:((rls (bD_ m) idk (aY_ (uniq [] p)) (Ix.add x (decide (f∈fm)) f) f j (q,fm)).1).length≤m:=hjm.resolve_left zr_;rw[ej]at hjl G;refine Zz 12 ?_;exact y_ ⟨(n+1,(rls (bD_ m) idk (aY_ (uniq [] p)) (Ix.add x (decide (f∈fm)) f) f 6 (q,fm)).1,(rls (bD_ m) idk (aY_ (uniq [] p)) (Ix.add x (decide (f∈fm)) f) f 6 (q,fm)).2,(Ix.add x (decide (f∈fm)) f),R,U,Q,S,T,P,Hs),(jR_ L hL hf (by have e:nrl f=6:=(by unfold nrl;simp[hk]);rw[e]) zr_),(by exact G),hI_1,(kD_ hz _ f)⟩ zu_ zl (f_ d_ (f_ d_ (F_ (c_ t_) (F_ (c_ t_) (F_ (c_ t_) (F_ (c_ t_) (F_ (c_ t_) (F_ (c_ t_) B_)))))))) zh
     have a7:j<List.length (rlV g 1):=by show j<6;omega
     obtain⟨fv,Z⟩:∃ e_1,(rlV g 1)[j]? = some e_1:=⟨_,List.getElem?_eq_getElem a7⟩;have hmfv:fv∈(rlV g 1):=List.mem_of_getElem? Z;refine Zz 10 ?_;refine e_ (U_ bm_ fe_ rfl rfl (fun v _ h=>aE_ (n:=1) jo_ zx_ (by exact h.1) Z) zr_ zr_) rfl (e_ (bt_ (ad:=(some ⟨a5,0,none⟩)) Tryz.isAgg120 rfl zf (p_ jo_ Z 0 _ rfl)) rfl (Zz 7 ?_));obtain⟨nr,rfl,hT⟩:=xM_ (EngB.mk g pb ab ub ob ib rb sb lad lcap (aI_ (uniq [] p))) (EA m hm (EngB.mk g pb ab ub ob ib rb sb lad lcap (aI_ (uniq [] p))) B A d kb fb) (EngA.mk adr (fun _=>(none,0)) (fun _=>(none,0)) (fun _=>(none,0)) (fun _=>(none,0)) (fun _=>(none,0)) (fun _=>(none,0))) (aY_ (uniq [] p)) (Ix.add x (decide (f∈fm)) f) f (rls (bD_ m) idk (aY_ (uniq [] p)) (Ix.add x (decide (f∈fm)) f) f j (q,fm)).1 (rls (bD_ m) idk (aY_ (uniq [] p)) (Ix.add x (decide (f∈fm)) f) f j (q,fm)).2 Hs G R U Q S T P hI_1 hpl hxl_1 hyl_1 (fun hk=>(ig_ hform hk).2.2) (fun _ y hy=>(L y (pm9.1 hy).1).num (.inr (pm9.1 hy).2.1)) hk j Z;exact hx_
    ·refine e_ (aD_ (em_ tY_ Tryz.sizeOf127 rfl rfl zr_ zr_) (show _=zp_ a2 2 from by rw[hk];rfl)) rfl ?_
     refine Zz 6 ?_;refine dW_ (H':=((b_1,.cells #[.slice none 0 0,.slice none 0 0] 67 (0,0))::((a2,.cells #[.slice none 0 0,.slice (some ⟨a5,0,none⟩) 6 6,.slice (some ⟨a4,0,none⟩) 4 4,.slice (some ⟨a3,0,none⟩) 2 2] 128 (0,0))::((b_6,.cells #[.int .i64 f.kind,str f.a,str f.b,str f.r,.int .i64 f.lo,.int .i64 f.hi] 36 (0,0))::(R++(U++(Q++(S++(T++(P++((d,.cells #[K] 26 (0,0))::(kb,.map N J)::([(fb,.map H M)]++I)))))))))))) (f_ (c_ (c_ (c_ d_))) (f_ (c_ (c_ (c_ d_))) (f_ (c_ (c_ d_)) (F_ (c_ (c_ t_)) (F_ (c_ (c_ t_)) (F_ (c_ (c_ t_)) (F_ (c_ (c_ t_)) (F_ (c_ (c_ t_)) (F_ (c_ (c_ t_)) (f_ d_ (f_ d_ (F_ t_ ah_)))))))))))) (fun v _ h=>h) ?_;refine P_ (ι:={y:Nat×Hp // y.1≤4∧((EA m hm (EngB.mk g pb ab ub ob ib rb sb lad lcap (aI_ (uniq [] p))) B A d kb fb)).St (rls (bD_ m) idk (aY_ (uniq [] p)) (Ix.add x (decide (f∈fm)) f) f y.1 (q,fm)).1 (rls (bD_ m) idk (aY_ (uniq [] p)) (Ix.add x (decide (f∈fm)) f) f y.1 (q,fm)).2 y.2∧(y.1=0∨((rls (bD_ m) idk (aY_ (uniq [] p)) (Ix.add x (decide (f∈fm)) f) f y.1 (q,fm)).1).length≤m)}) (fun y=>[(0,.slice a6 (List.length p) a8),(1,.int .i64 bu),(4,zp_ b_1 0),(7,zp_ B 0),(8,zp_ A 0),(9,zp_ d 0),(10,.slice aad (List.length (atS p)) acap),(11,zp_ a2 0),(12,.int .i64 (n:Int)),(13,zp_ b_6 0),(60,.slice (some ⟨a4,0,none⟩) 4 4),(61,.int .i64 4),(62,.int .i64 (y.1.1:Int))]) (fun y=>((b_1,.cells #[.slice none 0 0,.slice none 0 0] 67 (0,0))::((a2,.cells #[.slice none 0 0,.slice (some ⟨a5,0,none⟩) 6 6,.slice (some ⟨a4,0,none⟩) 4 4,.slice (some ⟨a3,0,none⟩) 2 2] 128 (0,0))::((b_6,.cells #[.int .i64 f.kind,str f.a,str f.b,str f.r,.int .i64 f.lo,.int .i64 f.hi] 36 (0,0))::(R++(U++(Q++(S++(T++(P++y.1.2)))))))))) (fun y=>[V_ (some ⟨a5,0,none⟩) (List.flatMap fvC (rlV g 1)),V_ (some ⟨a4,0,none⟩) (List.flatMap fvC (rlV g 2)),V_ (some ⟨a3,0,none⟩) (List.flatMap fvC (rlV g 3)),V_ aad (List.flatMap ap_ (atS p)),mlF Tryz.prog 208 Ky.val Pc.cells pb (aY_ (uniq [] p)) adr,ck_ g (.cells #[.map (some pb),.slice lad (List.length (aI_ (uniq [] p))) lcap,.map (some kb),.func (.func 73) #[] #[zp_ B 0,zp_ A 0,zp_ d 0],.map (some ab),.map (some ub),.map (some ob),.map (some ib),.map (some rb),.map (some sb),.map (some fb)] 124 (0,0)),ck_ A (.cells #[.int .i64 (m:Int)] 3 (0,0)),ck_ B (.cells #[zp_ g 0] 116 (0,0)),V_ lad (List.flatMap ap_ (aI_ (uniq [] p))),V_ a6 (List.flatMap Pc.cells p),eX_]) (fun y=>4 - y.1.1) ⟨((0:Nat),((d,.cells #[K] 26 (0,0))::(kb,.map N J)::([(fb,.map H M)]++I))),by omega,by exact⟨K,N,J,H,M,qf_1,I,rfl,O,hEk_1,hEf_1,hqf_1⟩,.inl rfl⟩ zl zp zh ?_;rintro ⟨⟨j,Hs⟩,hj,G,hjm⟩;dsimp only at hj G hjm ⊢;refine Zi 2 (fun hr_5=>?_) fun hr_5=>?_
     ·have ej:j=4:=by omega
      have hjl:((rls (bD_ m) idk (aY_ (uniq [] p)) (Ix.add x (decide (f∈fm)) f) f j (q,fm)).1).length≤m:=hjm.resolve_left zr_;rw[ej]at hjl G;refine Zz 12 ?_;exact y_ ⟨(n+1,(rls (bD_ m) idk (aY_ (uniq [] p)) (Ix.add x (decide (f∈fm)) f) f 4 (q,fm)).1,(rls (bD_ m) idk (aY_ (uniq [] p)) (Ix.add x (decide (f∈fm)) f) f 4 (q,fm)).2,(Ix.add x (decide (f∈fm)) f),R,U,Q,S,T,P,Hs),(jR_ L hL hf (by have e:nrl f=4:=(by unfold nrl;simp[hk]);rw[e]) zr_),(by exact G),hI_1,(kD_ hz _ f)⟩ zu_ zl (f_ d_ (f_ d_ (F_ (c_ t_) (F_ (c_ t_) (F_ (c_ t_) (F_ (c_ t_) (F_ (c_ t_) (F_ (c_ t_) B_)))))))) zh
     have a7:j<List.length (rlV g 2):=by show j<4;omega
     obtain⟨fv,Z⟩:∃ e_1,(rlV g 2)[j]? = some e_1:=⟨_,List.getElem?_eq_getElem a7⟩;have hmfv:fv∈(rlV g 2):=List.mem_of_getElem? Z;refine Zz 10 ?_;refine e_ (U_ bm_ fe_ rfl rfl (fun v _ h=>aE_ (n:=1) jo_ zx_ (by exact h.2.1) Z) zr_ zr_) rfl (e_ (bt_ (ad:=(some ⟨a4,0,none⟩)) Tryz.isAgg120 rfl zf (p_ jo_ Z 0 _ rfl)) rfl (Zz 7 ?_));obtain⟨nr,rfl,hT⟩:=xL_ (EngB.mk g pb ab ub ob ib rb sb lad lcap (aI_ (uniq [] p))) (EA m hm (EngB.mk g pb ab ub ob ib rb sb lad lcap (aI_ (uniq [] p))) B A d kb fb) (EngA.mk adr (fun _=>(none,0)) (fun _=>(none,0)) (fun _=>(none,0)) (fun _=>(none,0)) (fun _=>(none,0)) (fun _=>(none,0))) (aY_ (uniq [] p)) (Ix.add x (decide (f∈fm)) f) f (rls (bD_ m) idk (aY_ (uniq [] p)) (Ix.add x (decide (f∈fm)) f) f j (q,fm)).1 (rls (bD_ m) idk (aY_ (uniq [] p)) (Ix.add x (decide (f∈fm)) f) f j (q,fm)).2 Hs G R U Q S T P hI_1 hpl hxl_1 hyl_1 (fun hk=>(ig_ hform hk).2.2) (fun _ y hy=>(L y (pm9.1 hy).1).num (.inr (pm9.1 hy).2.1)) hk j Z;exact hx_
    refine e_ (aD_ (em_ tY_ Tryz.sizeOf127 rfl rfl zr_ zr_) (show _=zp_ a2 3 from by rw[hk];rfl)) rfl ?_;refine Zz 6 ?_;refine dW_ (H':=((b_1,.cells #[.slice none 0 0,.slice none 0 0] 67 (0,0))::((a2,.cells #[.slice none 0 0,.slice (some ⟨a5,0,none⟩) 6 6,.slice (some ⟨a4,0,none⟩) 4 4,.slice (some ⟨a3,0,none⟩) 2 2] 128 (0,0))::((b_6,.cells #[.int .i64 f.kind,str f.a,str f.b,str f.r,.int .i64 f.lo,.int .i64 f.hi] 36 (0,0))::(R++(U++(Q++(S++(T++(P++((d,.cells #[K] 26 (0,0))::(kb,.map N J)::([(fb,.map H M)]++I)))))))))))) (f_ (c_ (c_ (c_ d_))) (f_ (c_ (c_ (c_ d_))) (f_ (c_ (c_ d_)) (F_ (c_ (c_ t_)) (F_ (c_ (c_ t_)) (F_ (c_ (c_ t_)) (F_ (c_ (c_ t_)) (F_ (c_ (c_ t_)) (F_ (c_ (c_ t_)) (f_ d_ (f_ d_ (F_ t_ ah_)))))))))))) (fun v _ h=>h) ?_;refine P_ (ι:={y:Nat×Hp // y.1≤2∧((EA m hm (EngB.mk g pb ab ub ob ib rb sb lad lcap (aI_ (uniq [] p))) B A d kb fb)).St (rls (bD_ m) idk (aY_ (uniq [] p)) (Ix.add x (decide (f∈fm)) f) f y.1 (q,fm)).1 (rls (bD_ m) idk (aY_ (uniq [] p)) (Ix.add x (decide (f∈fm)) f) f y.1 (q,fm)).2 y.2∧(y.1=0∨((rls (bD_ m) idk (aY_ (uniq [] p)) (Ix.add x (decide (f∈fm)) f) f y.1 (q,fm)).1).length≤m)}) (fun y=>[(0,.slice a6 (List.length p) a8),(1,.int .i64 bu),(4,zp_ b_1 0),(7,zp_ B 0),(8,zp_ A 0),(9,zp_ d 0),(10,.slice aad (List.length (atS p)) acap),(11,zp_ a2 0),(12,.int .i64 (n:Int)),(13,zp_ b_6 0),(60,.slice (some ⟨a3,0,none⟩) 2 2),(61,.int .i64 2),(62,.int .i64 (y.1.1:Int))]) (fun y=>((b_1,.cells #[.slice none 0 0,.slice none 0 0] 67 (0,0))::((a2,.cells #[.slice none 0 0,.slice (some ⟨a5,0,none⟩) 6 6,.slice (some ⟨a4,0,none⟩) 4 4,.slice (some ⟨a3,0,none⟩) 2 2] 128 (0,0))::((b_6,.cells #[.int .i64 f.kind,str f.a,str f.b,str f.r,.int .i64 f.lo,.int .i64 f.hi] 36 (0,0))::(R++(U++(Q++(S++(T++(P++y.1.2)))))))))) (fun y=>[V_ (some ⟨a5,0,none⟩) (List.flatMap fvC (rlV g 1)),V_ (some ⟨a4,0,none⟩) (List.flatMap fvC (rlV g 2)),V_ (some ⟨a3,0,none⟩) (List.flatMap fvC (rlV g 3)),V_ aad (List.flatMap ap_ (atS p)),mlF Tryz.prog 208 Ky.val Pc.cells pb (aY_ (uniq [] p)) adr,ck_ g (.cells #[.map (some pb),.slice lad (List.length (aI_ (uniq [] p))) lcap,.map (some kb),.func (.func 73) #[] #[zp_ B 0,zp_ A 0,zp_ d 0],.map (some ab),.map (some ub),.map (some ob),.map (some ib),.map (some rb),.map (some sb),.map (some fb)] 124 (0,0)),ck_ A (.cells #[.int .i64 (m:Int)] 3 (0,0)),ck_ B (.cells #[zp_ g 0] 116 (0,0)),V_ lad (List.flatMap ap_ (aI_ (uniq [] p))),V_ a6 (List.flatMap Pc.cells p),eX_]) (fun y=>2 - y.1.1) ⟨((0:Nat),((d,.cells #[K] 26 (0,0))::(kb,.map N J)::([(fb,.map H M)]++I))),by omega,by exact⟨K,N,J,H,M,qf_1,I,rfl,O,hEk_1,hEf_1,hqf_1⟩,.inl rfl⟩ zl zp zh ?_;rintro ⟨⟨j,Hs⟩,hj,G,hjm⟩;dsimp only at hj G hjm ⊢;refine Zi 2 (fun hr_5=>?_) fun hr_5=>?_
    ·have ej:j=2:=by omega
     have hjl:((rls (bD_ m) idk (aY_ (uniq [] p)) (Ix.add x (decide (f∈fm)) f) f j (q,fm)).1).length≤m:=hjm.resolve_left zr_;rw[ej]at hjl G;refine Zz 12 ?_;exact y_ ⟨(n+1,(rls (bD_ m) idk (aY_ (uniq [] p)) (Ix.add x (decide (f∈fm)) f) f 2 (q,fm)).1,(rls (bD_ m) idk (aY_ (uniq [] p)) (Ix.add x (decide (f∈fm)) f) f 2 (q,fm)).2,(Ix.add x (decide (f∈fm)) f),R,U,Q,S,T,P,Hs),(jR_ L hL hf (by have e:nrl f=2:=(by unfold nrl;simp[hk]);rw[e]) zr_),(by exact G),hI_1,(kD_ hz _ f)⟩ zu_ zl (f_ d_ (f_ d_ (F_ (c_ t_) (F_ (c_ t_) (F_ (c_ t_) (F_ (c_ t_) (F_ (c_ t_) (F_ (c_ t_) B_)))))))) zh
    have a7:j<List.length (rlV g 3):=by show j<2;omega
    obtain⟨fv,Z⟩:∃ e_1,(rlV g 3)[j]? = some e_1:=⟨_,List.getElem?_eq_getElem a7⟩;have hmfv:fv∈(rlV g 3):=List.mem_of_getElem? Z;refine Zz 10 ?_;refine e_ (U_ bm_ fe_ rfl rfl (fun v _ h=>aE_ (n:=1) jo_ zx_ (by exact h.2.2.1) Z) zr_ zr_) rfl (e_ (bt_ (ad:=(some ⟨a3,0,none⟩)) Tryz.isAgg120 rfl zf (p_ jo_ Z 0 _ rfl)) rfl (Zz 7 ?_));obtain⟨nr,rfl,hT⟩:=xK_ (EngB.mk g pb ab ub ob ib rb sb lad lcap (aI_ (uniq [] p))) (EA m hm (EngB.mk g pb ab ub ob ib rb sb lad lcap (aI_ (uniq [] p))) B A d kb fb) (EngA.mk adr (fun _=>(none,0)) (fun _=>(none,0)) (fun _=>(none,0)) (fun _=>(none,0)) (fun _=>(none,0)) (fun _=>(none,0))) (aY_ (uniq [] p)) (Ix.add x (decide (f∈fm)) f) f (rls (bD_ m) idk (aY_ (uniq [] p)) (Ix.add x (decide (f∈fm)) f) f j (q,fm)).1 (rls (bD_ m) idk (aY_ (uniq [] p)) (Ix.add x (decide (f∈fm)) f) f j (q,fm)).2 Hs G R U Q S T P hI_1 hpl hxl_1 hyl_1 (fun hk=>(ig_ hform hk).2.2) (fun _ y hy=>(L y (pm9.1 hy).1).num (.inr (pm9.1 hy).2.1)) hk j Z;exact hx_
   refine Zz 6 ?_;exact kc_
  refine Zz 9 ?_;exact kc_
 refine Zz 5 ?_;refine e_ (K_ jJ_ rfl rfl) rfl (Zz 1 ?_);refine x_ 0 cj_ rfl rfl rfl rfl rfl rfl (Zz 4 ?_);exact hi_ ⟨((Cl.mk [] none 0 [] none 0),(cE_ p)),xf_ zB_⟩ (fun aa v C F=>fW_ (us:=Cl.cells (Cl.mk [] none 0 [] none 0)) 0 iH_ iP_ cj_ rfl rfl rfl rfl aa v C F) l_ (fun v _ h=>by exact⟨.inl rfl,.inl rfl,trivial⟩)
def wq_ (f:Fc):Bool:=decide (f=ac_ f.a f.b)
def hU_ (A:List Str) (f:Fc):Bool :=
  decide (f.a∈A)&&(if f.kind=1 then decide (f.b∈A)&&wq_ f
    else if f.kind=2 then decide (f.b∈A)&&(decide (f.r≠[])&&decide (f=am_ f.a f.r f.b))
    else if f.kind=3 then decide (f.r≠[])&&(decide (f=ax_ f.a f.r f.lo f.hi)&&(decide (-1099511627776≤f.lo)&&(decide (f.lo≤f.hi)&&decide (f.hi≤1099511627776))))
    else false)
theorem xU_ {α:Type} {lt:α→α→Prop} (q:∀ {x y z},lt x y→lt y z→lt x z) {l:List α} {k:Nat} {a b:α} (h:(l.take (k+1)).Pairwise lt) (A:l[k]? = some a) (v:l[k+1]? = some b) (e:lt a b):(l.take (k+2)).Pairwise lt:=by
 rw[List.take_add_one,v,Option.toList_some,List.pairwise_append];refine⟨h,by simp,fun x d y m=>?_⟩;rw[List.mem_singleton]at m;subst m;rw[List.take_add_one,A,Option.toList_some]at h d;rcases List.mem_append.1 d with d|d
 ·exact q ((List.pairwise_append.1 h).2.2 x d a zC_) e
 rw[List.mem_singleton]at d;subst d;exact e
theorem pw_not {α:Type} {lt:α→α→Prop} {l:List α} {k:Nat} {a b:α} (x:l[k]? = some a) (q:l[k+1]? = some b) (d:¬ lt a b):¬ l.Pairwise lt:=fun h=>by
  obtain⟨e,m⟩:=List.getElem?_eq_some_iff.1 x;obtain⟨v,y⟩:=List.getElem?_eq_some_iff.1 q;have:=List.pairwise_iff_getElem.1 h k (k+1) e v zr_;rw[m,y]at this;exact d this
theorem pw_one {α:Type} {lt:α→α→Prop} (l:List α):(l.take 1).Pairwise lt:=by
  cases l<;>simp
theorem tD_ {x y:Fc}:0≤hW_ x y↔¬ x.lt y:=by rw[← rD_];omega
theorem yG_ {x y:Fc} (h:¬ 0≤hW_ x y):x.lt y:=Decidable.byContradiction fun q=>h (tD_.2 q)
theorem any_no {α:Type} {p:α→Bool} {l:List α} {j:Nat} {x:α} (h:∀ y∈l.take j,p y=false) (k:l[j]? = some x) (e:p x=false):∀ y∈l.take (j+1),p y=false:=fun y d=>by
 rw[List.take_add_one,k]at d;simp only[Option.toList_some,List.mem_append,List.mem_singleton]at d;rcases d with d|rfl
 ·exact h y d
 exact e
theorem uW_ {P:Program} {N:Nf} {fr:Fr} {H:Hp} {Γ:List Fct} {t q ty:TypeId} {x y:Operand} {m n:List UInt8} (h:Fr.ev fr x=some (str m)) (k:Fr.ev fr y=some (str n)):Yld P N fr H Γ (.binOp .geq t x y q) ty (.bool (decide (n≤m))) :=
  fun a v d _ _ _ _ _=>by
    have e:decide (n≤m)=!decide (m<n):=by rw[Bool.eq_iff_iff];simp[List.not_lt]
    rw[e,← kQ_];simp[execOp,d.ev h,d.ev k,str,eqGuard,binOp,Op.stringOp]
theorem nA_:∀ {l:List Fc} {f:Fc} {m:Nat} {x:Fc},Srt l→l[m]? = some x→(x.lt f↔m<cT_ l f)
 | [],_,_,_,_,h=>by simp at h
 | y::l,f,0,x,hs,h=>by
   simp only[List.getElem?_cons_zero,Option.some.injEq]at h;subst h;unfold cT_;rw[List.countP_cons];constructor
   · intro q;rw[if_pos (decide_eq_true q)];omega
   · intro q
     apply Decidable.byContradiction
     intro v;rw[if_neg (by simpa using v)]at q;obtain⟨z,A,e⟩:=List.countP_pos_iff.1 (Nat.lt_of_lt_of_eq q (Nat.add_zero _));exact v (Fc.lt_trans ((List.pairwise_cons.1 hs).1 z A) (of_decide_eq_true e))
 | y::l,f,m+1,x,hs,h=>by
   simp only[List.getElem?_cons_succ]at h;have d:=List.pairwise_cons.1 hs;have k:=nA_ d.2 h (f:=f);unfold cT_ at *;rw[List.countP_cons,k];constructor
   · intro q
     have B:x.lt f:=k.2 q;rw[if_pos (decide_eq_true (Fc.lt_trans (d.1 x (List.mem_of_getElem? h)) B))];omega
   · intro q
     split at q<;>omega
theorem mid2 (lo hi:Nat):Int.tdiv ((lo:Int)+(hi:Int)) 2=(((lo+hi) / 2:Nat):Int):=by
  rw[Int.tdiv_eq_ediv_of_nonneg zr_];omega
theorem kb_ {G:Prop} (h:G:=by
 refine C_ (cv_ rfl rfl) rfl fun m h=>Zz 4 ?_
 exact af_ vI_ () (o_ rfl (by rw[← h,decide_eq_decide];unfold Fc.lt;simp_all [ge_])) l_ zt):G:=h
theorem less_c (x y:Fc):Fn0 Tryz.prog 92 #[Fc.val x,Fc.val y] (.bool (decide (x.lt y))):=by
 refine j_ Tryz.func92 rfl rfl Tryz.ntmps92 rfl fun A=>?_;refine Zz 2 ?_;refine aa_ rfl rfl fun B=>aa_ rfl rfl fun C=>Zi 11 (fun v=>?_) fun v=>?_
 ·refine Zi 10 (fun d=>?_) fun d=>?_
  ·refine Zi 10 (fun q=>?_) fun q=>?_
   ·refine Zi 10 (fun e=>?_) fun e=>?_
    ·refine Zi 10 (fun k=>?_) fun k=>?_
     ·refine Zz 12 ?_
      exact kb_
     refine Zz 10 ?_;exact kb_
    refine Zz 10 ?_;refine C_ (eB_ rfl rfl) rfl fun m k=>Zz 4 ?_
    exact af_ vI_ () (o_ rfl (by rw[← k,decide_eq_decide];unfold Fc.lt;simp_all [ge_])) l_ zt
   refine Zz 10 ?_;refine C_ (eB_ rfl rfl) rfl fun m e=>Zz 4 ?_
   exact af_ vI_ () (o_ rfl (by rw[← e,decide_eq_decide];unfold Fc.lt;simp_all [ge_])) l_ zt
  refine Zz 10 ?_;refine C_ (eB_ rfl rfl) rfl fun m q=>Zz 4 ?_
  exact af_ vI_ () (o_ rfl (by rw[← q,decide_eq_decide];unfold Fc.lt;simp_all [ge_])) l_ zt
 refine Zz 10 ?_;refine C_ (cv_ rfl rfl) rfl fun m d=>Zz 4 ?_
 exact af_ vI_ () (o_ rfl (by rw[← d,decide_eq_decide];unfold Fc.lt;simp_all [ge_])) l_ zt
theorem xY_ (l:List Fc) (ad:Option Addr) (cap:Nat) (f:Fc) (hl:l.length≤1000000000000) (F:Srt l):Tri Tryz.prog 47 #[.slice ad (List.length l) cap,Fc.val f] [] [V_ ad (List.flatMap Fc.cells l)] (fun _:Unit=>.int .i64 (cT_ l f:Int)) (fun _=>[]) (fun _=>[]):=by
 refine j_ Tryz.func47 rfl rfl Tryz.ntmps47 rfl fun G=>?_;refine Zz 2 ?_;refine aa_ rfl rfl fun v=>Zz 17 ?_
 refine P_ (ι:={y:Nat×Nat // y.1≤y.2∧y.1≤cT_ l f∧cT_ l f≤y.2∧y.2≤List.length l}) (fun y=>[(0,.slice ad (List.length l) cap),(3,zp_ v 0),(5,.int .i64 (y.1.1:Int)),(6,.int .i64 (y.1.2:Int))]) (fun y=>((v,.cells #[.int .i64 f.kind,str f.a,str f.b,str f.r,.int .i64 f.lo,.int .i64 f.hi] 36 (0,0))::[])) (fun y=>[V_ ad (List.flatMap Fc.cells l)]) (fun y=>y.1.2 - y.1.1) ⟨((0:Nat),(List.length l)),Nat.zero_le _,Nat.zero_le _,uj_ l f,Nat.le_refl _⟩ zl d_ zh ?_;rintro ⟨⟨lo,hi⟩,B,k,h,m⟩;dsimp only at B k h m ⊢;refine Zi 5 (fun q=>?_) fun q=>?_
 ·refine Zz 12 ?_
  exact af_ Tryz.results47 () (cl_ rfl zr_) l_ zt
 obtain⟨A,E,e,C⟩:=zge (show ((lo+hi) / 2:Nat)<List.length l by omega);refine Zz 11 ?_;refine e_ (aD_ (sW_ rfl rfl zx_ (by rw[mid2];exact ce_ zr_ zr_)) (show Value.int .i64 (Int.tdiv ((lo:Int)+(hi:Int)) 2)=Value.int .i64 (((lo+hi) / 2:Nat):Int) from congrArg _ (mid2 lo hi))) rfl ?_;refine Zz 5 ?_;refine G_ 1 [0,1,2,3,4] zk zs (Zz 6 ?_);refine n_ 5 rfl zk (T_ (less_c E f) rfl l_ zt rfl fun x d=>Zz 2 ?_);refine w_ zs (Zz 2 ?_);cases x
 ·replace d:=zdf d
  refine Zz 6 ?_;exact y_ ⟨(lo,((lo+hi) / 2:Nat)),by omega,k,by have:=(not_congr (nA_ F e (f:=f))).1 d;omega,by omega⟩ zu_ zl d_ zh
 replace d:=zdt d;refine Zz 7 ?_;exact y_ ⟨(((lo+hi) / 2:Nat)+1,hi),by omega,by have:=(nA_ F e (f:=f)).1 d;omega,h,m⟩ zu_ zl d_ zh
theorem has_c (l:List Fc) (ad:Option Addr) (cap:Nat) (f:Fc) (hl:l.length≤1000000000000) (k:Srt l):Tri Tryz.prog 16 #[.slice ad (List.length l) cap,Fc.val f] [] [V_ ad (List.flatMap Fc.cells l)] (fun _:Unit=>.bool (decide (f∈l))) (fun _=>[]) (fun _=>[]):=by
 refine j_ Tryz.func16 rfl rfl Tryz.ntmps16 rfl fun A=>?_;refine Zz 2 ?_;refine aa_ rfl rfl fun B=>Zz 7 ?_
 refine i_ (xY_ l ad cap f zr_ k) rfl l_ zf rfl fun _=>Zz 5 ?_
 refine G_ 8 [0,1,2,3,4] zk zs (Zi 3 (fun e=>?_) fun e=>?_)
 ·refine Zz 2 ?_
  refine G_ 0 [5,6,7,8,9,10,11,12] zk zs (Zz 12 ?_);exact af_ Tryz.results16 () (o_ rfl (by symm;apply decide_eq_false;intro q;have:=(List.getElem?_eq_some_iff.1 ((ph_ k f).1 q)).1;omega)) l_ zt
 obtain⟨m,x,d,v⟩:=zge (show cT_ l f<List.length l by omega);refine Zz 2 ?_;refine G_ 0 [5,6,7,8,9,10,11,12] zk zs (Zz 5 ?_);refine en_ rfl rfl rfl (ew_ (p:=x) (q:=f) rfl rfl) rfl fun y h=>Zz 6 ?_
 exact af_ Tryz.results16 () (o_ rfl (by rw[← h,decide_eq_decide,ph_ k f,d,Option.some.injEq])) l_ zt
theorem xQ_ (a r b:Str):Fn0 Tryz.prog 27 #[str a,str r,str b] (Fc.val (am_ a r b)):=by
  refine j_ Tryz.func27 rfl rfl Tryz.ntmps27 rfl fun k=>?_;refine Zz 2 ?_;refine D_ ae_ rfl fun m=>Zz 7 ?_
  refine e_ (K_ fb_ rfl rfl) rfl (x_ 0 E_ rfl rfl rfl rfl rfl rfl (Zz 3 ?_));exact hi_ () (fun e v d h=>ex_ (us:=Fc.cells (am_ a r b)) 0 Tryz.results27 bH_ E_ rfl rfl rfl e v d h) l_ zt
theorem wb_ (l:List Str) (ad:Option Addr) (cap:Nat) (x:Str) (hl:l.length≤9223372036854775807):Tri Tryz.prog 15 #[.slice ad (List.length l) cap,str x] [] [V_ ad (List.flatMap ap_ l)] (fun _:Unit=>.bool (decide (x∈l))) (fun _=>[]) (fun _=>[]):=by
 refine j_ Tryz.func15 rfl rfl Tryz.ntmps15 rfl fun A=>?_;refine Zz 12 ?_;refine P_ (ι:={y:Nat // y≤l.length∧x ∉ l.take y}) (fun y=>[(0,.slice ad (List.length l) cap),(1,str x),(5,.int .i64 (y.1:Int))]) (fun y=>([])) (fun y=>[V_ ad (List.flatMap ap_ l)]) (fun y=>l.length - y.1) ⟨(0:Nat),by simp,by simp⟩ zl l_ zh ?_;rintro ⟨i,hi,v⟩;dsimp only at hi v ⊢;refine Zi 6 (fun k=>?_) fun k=>?_
 ·refine Zz 11 ?_
  exact af_ Tryz.results15 () (o_ rfl (by symm;apply decide_eq_false;rwa [List.take_of_length_le zr_]at v)) l_ zt
 obtain⟨d,B,h,e⟩:=zge (show i<List.length l by omega);refine Zi 14 (fun m=>?_) fun m=>?_
 ·refine Zz 11 ?_
  exact y_ ⟨i+1,d,fun q=>by rw[List.take_add_one,h]at q;simp only[Option.toList_some,List.mem_append,List.mem_singleton]at q;rcases q with q|rfl;exact v q;simp_all⟩ zu_ zl l_ zh
 refine Zz 9 ?_;exact af_ Tryz.results15 () (o_ rfl (by symm;apply decide_eq_true;have:=e;simp_all)) l_ zt
theorem xH_ (l m:List Str) (ad B:Option Addr) (cap v:Nat) (hl:l.length≤1000000000000) (hm:m.length≤1000000000000):Tri Tryz.prog 45 #[.slice ad (List.length l) cap,.slice B (List.length m) v] [] [V_ ad (List.flatMap ap_ l),V_ B (List.flatMap ap_ m)] (fun _:Unit=>.bool (decide (l=m))) (fun _=>[]) (fun _=>[]):=by
 refine j_ Tryz.func45 rfl rfl Tryz.ntmps45 rfl fun I=>?_;refine Zi 12 (fun q=>?_) fun q=>?_
 ·refine Zz 12 ?_
  refine P_ (ι:={y:Nat // y≤l.length∧l.take y=m.take y}) (fun y=>[(0,.slice ad (List.length l) cap),(1,.slice B (List.length m) v),(5,.int .i64 (y.1:Int))]) (fun y=>([])) (fun y=>[V_ ad (List.flatMap ap_ l),V_ B (List.flatMap ap_ m)]) (fun y=>l.length - y.1) ⟨(0:Nat),by simp,by simp⟩ zl l_ zh ?_;rintro ⟨i,hi,E⟩;dsimp only at hi E ⊢;have J:l.length=m.length:=by omega
  refine Zi 6 (fun x=>?_) fun x=>?_
  ·refine Zz 11 ?_
   exact af_ Tryz.results45 () (o_ rfl (by symm;apply decide_eq_true;rwa [List.take_of_length_le zr_,List.take_of_length_le zr_]at E)) l_ zt
  obtain⟨k,K,d,G⟩:=zge (show i<List.length l by omega);obtain⟨F,H,h,C⟩:=zge (show i<List.length m by omega);refine Zz 9 ?_;refine G_ 0 [0,1,2,3,4,5,6,7,8] zk zs (Zi 8 (fun A=>?_) fun A=>?_)
  ·refine Zz 12 ?_
   exact y_ ⟨i+1,k,by rw[List.take_add_one,d,List.take_add_one,h,E];simp_all⟩ zu_ zl l_ zh
  refine Zz 10 ?_;exact af_ Tryz.results45 () (o_ rfl (by symm;apply decide_eq_false;intro e;subst e;rw[d]at h;simp_all)) l_ zt
 refine Zz 9 ?_;exact af_ Tryz.results45 () (o_ rfl zbf_) l_ zt
theorem ks_ (l m:List Fc) (ad C:Option Addr) (cap A:Nat) (hl:l.length≤1000000000000) (hm:m.length≤1000000000000):Tri Tryz.prog 46 #[.slice ad (List.length l) cap,.slice C (List.length m) A] [] [V_ ad (List.flatMap Fc.cells l),V_ C (List.flatMap Fc.cells m)] (fun _:Unit=>.bool (decide (l=m))) (fun _=>[]) (fun _=>[]):=by
 refine j_ Tryz.func46 rfl rfl Tryz.ntmps46 rfl fun L=>?_;refine Zi 12 (fun x=>?_) fun x=>?_
 ·refine Zz 12 ?_
  refine P_ (ι:={y:Nat // y≤l.length∧l.take y=m.take y}) (fun y=>[(0,.slice ad (List.length l) cap),(1,.slice C (List.length m) A),(5,.int .i64 (y.1:Int))]) (fun y=>([])) (fun y=>[V_ ad (List.flatMap Fc.cells l),V_ C (List.flatMap Fc.cells m)]) (fun y=>l.length - y.1) ⟨(0:Nat),by simp,by simp⟩ zl l_ zh ?_;rintro ⟨i,hi,H⟩;dsimp only at hi H ⊢;have M:l.length=m.length:=by omega
  refine Zi 6 (fun B=>?_) fun B=>?_
  ·refine Zz 11 ?_
   exact af_ Tryz.results46 () (o_ rfl (by symm;apply decide_eq_true;rwa [List.take_of_length_le zr_,List.take_of_length_le zr_]at H)) l_ zt
  obtain⟨v,K,h,J⟩:=zge (show i<List.length l by omega);obtain⟨I,F,k,E⟩:=zge (show i<List.length m by omega);refine Zz 9 ?_;refine G_ 0 [0,1,2,3,4,5,6,7,8] zk zs (Zz 8 ?_);refine fd_ rfl (gk_ (p:=K) (q:=F) rfl rfl) rfl fun G d=>Zz 3 ?_
  cases G
  ·replace d:=zdf d
   refine Zz 9 ?_;exact y_ ⟨i+1,v,by rw[List.take_add_one,h,List.take_add_one,k,H];simp_all⟩ zu_ zl l_ zh
  replace d:=zdt d;refine Zz 7 ?_;exact af_ Tryz.results46 () (o_ rfl (by symm;apply decide_eq_false;intro e;subst e;rw[h]at k;simp_all)) l_ zt
 refine Zz 9 ?_;exact af_ Tryz.results46 () (o_ rfl zbf_) l_ zt
theorem dE {p:Prop} {i:Decidable p}:(@decide p i=true)↔p:=⟨fun h=>of_decide_eq_true h,fun h=>decide_eq_true h⟩
theorem yS_ (p:List Pc):[42]∈atS p:=(hZ_ p _).2 (.inr (.inl rfl))
theorem tG_ (p:List Pc):[33]∈atS p:=(hZ_ p _).2 (.inr (.inr rfl))
theorem zq_ {p:List Pc} {x:Pc} (d:x∈p) {s:Str} (e:s=x.a∨s=x.b∨s=x.c) (h:s≠[]):s∈atS p:=by
  refine (hZ_ p s).2 (.inl ((fH_ p s).2 ?_));refine List.mem_flatMap.2 ⟨x,d,List.mem_filter.2 ⟨?_,by simpa using h⟩⟩;rcases e with rfl|rfl|rfl<;>simp
theorem yR_ {s:Str} (h:bv_ s=true):s≠[]:=fun e=>by subst e;revert h;decide
theorem td_ {p:Pc} (h:p.valid=true) (hk:p.kind=1∨p.kind=2∨p.kind=3∨p.kind=4∨p.kind=9):p.c≠[]:=by
 unfold Pc.valid at h
 split at h
 ·simp at h
 split at h
 ·simp at h
 split at h
 ·simp at h
 simp only[Bool.and_eq_true]at h;obtain⟨⟨⟨⟨_,m⟩,_⟩,_⟩,_⟩:=h
 have e:∀ {b:Bool},cq_ b p.c bv_=true→b=true→p.c≠[]:=fun d k=>by
   subst k;simp[cq_]at d;exact yR_ d
 rcases hk with q|q|q|q|q<;>rw[q]at m<;>exact e m zx_
theorem fo1 {A:List Str} {a b:Str}:hU_ A (ac_ a b)=true↔a∈A∧b∈A:=by
  unfold hU_ ac_ wq_;dsimp only;rw[if_pos rfl,Bool.and_eq_true,Bool.and_eq_true,dE,dE,dE];simp[ac_]
theorem fo2 {A:List Str} {a r b:Str}:hU_ A (am_ a r b)=true↔a∈A∧b∈A∧r≠[]:=by
  unfold hU_ am_;dsimp only;rw[if_neg zx_,if_pos rfl,Bool.and_eq_true,Bool.and_eq_true,Bool.and_eq_true,dE,dE,dE,dE];simp[am_]
theorem fo3 {A:List Str} {a r:Str} {lo hi:Int}:hU_ A (ax_ a r lo hi)=true↔a∈A∧r≠[]∧-1099511627776≤lo∧lo≤hi∧hi≤1099511627776:=by
  unfold hU_ ax_;dsimp only;rw[if_neg zx_,if_neg zx_,if_pos rfl,Bool.and_eq_true,Bool.and_eq_true,Bool.and_eq_true,Bool.and_eq_true,Bool.and_eq_true,dE,dE,dE,dE,dE,dE];simp[ax_]
theorem one_ok {p:List Pc} {S:Fc→Prop} (v:∀ x∈p,x.valid=true) (hS:∀ y,S y→hU_ (atS p) y=true) {y:Fc} (h:ia_ p (atS p) S y):hU_ (atS p) y=true:=by
  have m:∀ {x:Pc},x∈p→(x.kind=1∨x.kind=2∨x.kind=3∨x.kind=4∨x.kind=9)→x.c∈atS p:=fun d hk=>zq_ d (.inr (.inr rfl)) (td_ (v _ d) hk)
  have k:∀ {x:Pc},x∈p→x.vok:=fun d=>jd_ (v _ d)
  cases h with
  | r1 h=>exact fo1.2 ⟨h,h⟩
  | r2 h=>exact fo1.2 ⟨h,yS_ p⟩
  | r10 d hk h=>exact fo2.2 ⟨h,h,(k d).rok.1 zao_⟩
  | r3 d hk h=>exact fo1.2 ⟨(fo1.1 (hS _ h)).1,m d zao_⟩
  | r4 d hk h h'=>exact fo1.2 ⟨(fo1.1 (hS _ h)).1,m d zao_⟩
  | r5 d hk h=>exact fo2.2 ⟨(fo1.1 (hS _ h)).1,m d zao_,(k d).rok.1 zao_⟩
  | r6 d hk h=>exact fo2.2 ⟨(fo2.1 (hS _ h)).1,(fo2.1 (hS _ h)).2.1,(k d).rok.2.2 hk⟩
  | r7 d hk h h'=>exact fo2.2 ⟨(fo2.1 (hS _ h)).1,(fo2.1 (hS _ h')).2.1,((k d).rok.2.1 hk).2⟩
  | r8 d hk h h'=>exact fo1.2 ⟨(fo2.1 (hS _ h)).1,m d zao_⟩
  | r9 h h'=>exact fo1.2 ⟨(fo2.1 (hS _ h)).1,tG_ p⟩
  | r11 d hk h=>exact fo3.2 ⟨(fo1.1 (hS _ h)).1,(k d).rok.1 zao_,(k d).num (.inl hk)⟩
  | r12 h h' hm hl =>
    have e:=fo3.1 (hS _ h);have q:=fo3.1 (hS _ h');exact fo3.2 ⟨e.1,e.2.1,by omega,hl,by omega⟩
  | r13 h h' hm hl=>exact fo1.2 ⟨(fo3.1 (hS _ h)).1,tG_ p⟩
  | r14 d hk h e q=>exact fo1.2 ⟨(fo3.1 (hS _ h)).1,m d zao_⟩
theorem der_ok {p:List Pc} (d:∀ x∈p,x.valid=true) {y:Fc} (h:Der p (atS p) y):hU_ (atS p) y=true:=h _ fun _ e=>one_ok d (fun _ h=>h) e
theorem gW_ {p:List Pc} (h:cE_ p=0):∀ x∈p,x.valid=true:=fun x d=>List.all_eq_true.1 (rI_ h).2 x d
theorem eY_.good {p:List Pc} {e:Int} {c:Cl} (h:eY_ p e c 0):cE_ p=0∧0≤e∧e≤1073741824∧c.ok∧c.atoms=atS p∧eJ_ p (atS p) (min e 65536).toNat (some c.facts):=by
 unfold eY_ at h
 split at h
 ·rename_i d;exact absurd h.2.symm d
 rename_i d
 split at h
 ·exact absurd h.2 zx_
 rename_i k
 rcases h with h|h
 ·exact⟨by simpa using d,by omega,by omega,h.2⟩
 have:=h.2.1;split at this<;>exact absurd this zx_
theorem eY_.bad {p:List Pc} {d:Int} {c:Cl} {e:Int} (h:eY_ p d c e) (k:e≠0):c=Cl.no:=by
 unfold eY_ at h
 split at h
 ·exact h.1
 split at h
 ·exact h.1
 rcases h with h|h
 ·exact absurd h.1 k
 exact h.1
theorem eY_.ok {p:List Pc} {k:Int} {c:Cl} {e:Int} (h:eY_ p k c e):c.ok:=by
 by_cases d:e=0
 ·subst d;exact h.good.2.2.2.1
 rw[h.bad d];exact Cl.no_ok
theorem eY_.len {p:List Pc} {q:Int} {c:Cl} {e:Int} (h:eY_ p q c e):c.atoms.length≤3*p.length+2∧c.facts.length≤65536:=by
 by_cases m:e=0
 ·subst m
  obtain⟨_,_,_,_,k,d⟩:=h.good;refine⟨by rw[k];exact qk_ p,?_⟩;have:=d.2.2;omega
 rw[h.bad m];simp[Cl.no]
theorem mL_ {p:List Pc} {m:Int} {c:Cl} {e:Int} {r:Option (List Fc)} (h:eY_ p m c e) (A:cE_ p=0) (C:0≤m) (B:m≤1073741824) (y:eJ_ p (atS p) (min m 65536).toNat r):(∀ L,r=some L→e=0∧c.facts=L∧c.atoms=atS p)∧(r=none→c=Cl.no∧e=if m<65536 then 3 else 2):=by
 unfold eY_ at h;rw[if_neg (by simp[A]),if_neg zr_]at h;rcases h with⟨k,q,d,v⟩|⟨k,q,d⟩
 ·have e:=eJ_.uniq v y
  subst e;exact⟨fun L x=>⟨k,Option.some.inj x,d⟩,fun h=>(by cases h)⟩
 have e:=eJ_.uniq d y;subst e;exact⟨fun L x=>(by cases x),fun _=>⟨k,q⟩⟩
def ii_ (p q:List Pc):Prop:=∀ x∈p,∃ y∈q,∃ n,{ y with frm:=n }=x
theorem ii_.at' {p q:List Pc} (h:ii_ p q):∀ s∈atS p,s∈atS q:=fun s k=>by
 rw[hZ_,fH_]at k ⊢;rcases k with d|d
 ·obtain⟨x,A,v⟩:=List.mem_flatMap.1 d
  obtain⟨y,m,n,e⟩:=h x A;subst e;exact .inl (List.mem_flatMap.2 ⟨y,m,v⟩)
 exact .inr d
theorem ii_.der {p q:List Pc} (h:ii_ p q) {y:Fc} (d:Der p (atS p) y):Der q (atS q) y:=d.mono h h.at'
theorem ii_.atS_eq {p q:List Pc} (h:ii_ p q) (d:ii_ q p):atS p=atS q :=
  gr_ ge_ List.lt_trans (jX_ p) (jX_ q) fun x=>⟨h.at' x,d.at' x⟩
theorem eJ_.congrP {p q:List Pc} {m:Nat} {r:Option (List Fc)} (h:ii_ p q) (A:ii_ q p) (d:eJ_ p (atS p) m r):eJ_ q (atS q) m r:=by
  cases r with
  | none=>obtain⟨M,k,v,x⟩:=d;exact⟨M,k,fun y e=>h.der (v y e),x⟩
  | some L=>exact⟨d.1,fun y=>(d.2.1 y).trans ⟨h.der,A.der⟩,d.2.2⟩
theorem yY_ {p:List Pc} {d:Int} {c:Cl} {e:Int} (h:eY_ p d c e) (k:cE_ p=0) (y:0≤d) (q:d≤1073741824):(e=0∧c.atoms=atS p∧eJ_ p (atS p) (min d 65536).toNat (some c.facts))∨(c=Cl.no∧e=(if d<65536 then 3 else 2)∧eJ_ p (atS p) (min d 65536).toNat none):=by
 unfold eY_ at h;rw[if_neg zaX_,if_neg zr_]at h;rcases h with⟨m,_,v,x⟩|h
 ·exact .inl ⟨m,v,x⟩
 exact .inr h
theorem uP_ {p q:List Pc} {B:Int} {c d:Cl} {e f:Int} (h:ii_ p q) (F:ii_ q p) (J:eY_ p B c e) (H:eY_ q B d f) (I:cE_ p=0) (G:cE_ q=0) (C:0≤B) (v:B≤1073741824):c.atoms=d.atoms∧c.facts=d.facts∧e=f:=by
 rcases yY_ J I C v with⟨m,A,k⟩|⟨m,A,k⟩
 ·obtain⟨x,y,E⟩:=(mL_ H G C v (eJ_.congrP h F k)).1 _ rfl
  exact⟨by rw[A,E,h.atS_eq F],y.symm,by rw[m,x]⟩
 obtain⟨x,y⟩:=(mL_ H G C v (eJ_.congrP h F k)).2 rfl;subst m x;exact⟨rfl,rfl,by rw[A,y]⟩
theorem ii_.trans {p q r:List Pc} (h:ii_ p q) (k:ii_ q r):ii_ p r:=fun x v=>by
  obtain⟨y,d,n,rfl⟩:=h x v;obtain⟨z,e,m,rfl⟩:=k y d;exact⟨z,e,n,rfl⟩
end Go.Proofs.YtpbnmnfdgckaiaaGreatDoor
namespace Go.Vs
open Go Go.Sx Go.Proofs.YtpbnmnfdgckaiaaGreatDoor
theorem kr_:∀ {l m:List Str},SrS l→SrS m→(∀ x,x∈l↔x∈m)→l=m
 | [],[],_,_,_=>rfl
 | [],y::m,_,_,h=>absurd ((h y).2 List.mem_cons_self) zC_
 | x::l,[],_,_,h=>absurd ((h x).1 List.mem_cons_self) zC_
 | x::l,y::m,h1,h2,h=>by
   unfold SrS at h1 h2;rw[List.pairwise_cons]at h1 h2
   have e:x=y:=by
     rcases List.mem_cons.1 ((h x).1 List.mem_cons_self) with e|e
     · exact e
     · rcases List.mem_cons.1 ((h y).2 List.mem_cons_self) with k|k
       · exact k.symm
       · exact absurd (List.lt_trans (h2.1 x e) (h1.1 y k)) (ni_ _)
   subst e;rw[kr_ h1.2 h2.2 fun z=>?_];constructor
   · intro d
     rcases List.mem_cons.1 ((h z).1 (List.mem_cons_of_mem _ d)) with e|e
     · subst e;exact absurd (h1.1 _ d) (ni_ _)
     · exact e
   · intro d
     rcases List.mem_cons.1 ((h z).2 (List.mem_cons_of_mem _ d)) with e|e
     · subst e;exact absurd (h2.1 _ d) (ni_ _)
     · exact e
abbrev bg_ (l:List Str):List Str:=l.mergeSort fun x y=>decide (x≤y)
inductive Tre where
  | mk (con:Con) (size:Int) (ad:Option Addr) (cap:Nat) (parts:List Tre)
namespace Tre
def con:Tre→Con|mk c _ _ _ _=>c
def size:Tre→Int|mk _ n _ _ _=>n
def ad:Tre→Option Addr|mk _ _ a _ _=>a
def cap:Tre→Nat|mk _ _ _ c _=>c
def parts:Tre→List Tre|mk _ _ _ _ p=>p
end Tre
theorem szs_step {l:List Con} {i:Nat} {x:Con} (h:l[i]? = some x):Con.sz.szs (l.take (i+1))=Con.sz.szs (l.take i)+x.sz:=by
  have d:∀ (a b:List Con),Con.sz.szs (a++b)=Con.sz.szs a+Con.sz.szs b:=fun a b=>by
    induction a with
    | nil=>simp[Con.sz.szs]
    | cons c a ih=>simp[Con.sz.szs,ih];omega
  rw[List.take_add_one,h,Option.toList_some,d];simp[Con.sz.szs]
theorem szs_take_le {l:List Con} (i:Nat):Con.sz.szs (l.take i)≤Con.sz.szs l:=by
  induction l generalizing i with
  | nil=>simp
  | cons c l ih =>
    cases i with
    | zero=>simp[Con.sz.szs]
    | succ i=>have:=ih i;simp[Con.sz.szs];omega
theorem szs_len:∀ l:List Con,l.length≤Con.sz.szs l
  | []=>Nat.le_refl _
  | c::l=>by have:=szs_len l;have:=c.sz_pos;simp only[List.length_cons,Con.sz.szs];omega
theorem wZ_ {x:Ax} {v:Vw} (h:x.memF.p v) {c:Con} (d:c∈[x.left,x.right]):c.memF.p v:=by
 simp only[List.mem_cons,List.not_mem_nil,or_false]at d;rcases d with rfl|rfl
 ·exact h.1
 exact h.2.1
theorem xa_ {x:Ax} (d:x.ok) (h:x.left.sz≤1000000) (k:x.right.sz≤1000000) {c:Con} (e:c∈[x.left,x.right]):c.ok∧c.sz≤1000000:=by
 simp only[List.mem_cons,List.not_mem_nil,or_false]at e;rcases e with rfl|rfl
 ·exact⟨d.left,h⟩
 exact⟨d.right,k⟩
end Go.Vs
namespace Go.Proofs.YtpbnmnfdgckaiaaGreatDoor
open Go Go.Sx Go.Proofs
attribute [local irreducible] Code.wp wpList wpAnyH
open Go.Vs
theorem tz_:Elt Tryz.prog 107 3 1 8:=iV_ Tryz.underlying107 (z:=.int .i64 0) zw_ rfl zx_
theorem pf_as3 {H A B C G:Hp} {b:Nat×Obj} (h:H.Perm ((b::(A++(B++C)))++G)):H.Perm ((b::A)++B++(C++G)):=by simpa [List.append_assoc] using h
theorem ls_ {x:Ax} (h:x.check=0):x.shaped=true:=by
  cases e:x.shaped with
  | true=>rfl
  | false=>unfold Ax.check at h;rw[if_pos e]at h;simp at h
theorem yP_ {x:Ax} (h:x.check=0):1≤x.kind∧x.kind≤9:=by
 have d:=ls_ h;unfold Ax.shaped at d
 by_cases e:x.kind<1∨9<x.kind
 ·rw[if_pos e]at d;simp at d
 omega
theorem rL_ {x:Ax} (h:x.check=0):x.namedU (us x.kind)=true:=by
  cases e:x.namedU (us x.kind) with
  | true=>rfl
  | false=>rw[Ax.check_20 (ls_ h) e]at h;simp at h
theorem qj_ {x:Ax} (h:x.check=0) (d:(us x.kind).left=true):x.left.check=0:=by
 by_cases e:x.left.check=0
 ·exact e
 rw[Ax.check_left (ls_ h) (rL_ h) d e]at h;exact absurd h e
theorem rK_ {x:Ax} (h:x.check=0) (d:(us x.kind).right=true):x.right.check=0:=by
 by_cases e:x.right.check=0
 ·exact e
 rw[Ax.check_right (ls_ h) (rL_ h) (qj_ h) d e]at h;exact absurd h e
theorem ry_ {c:Con} (h:c.empty=true):c.sz=1:=by
  cases c with
  | mk k n l hi ad cp ps =>
    unfold Con.empty at h;simp only[Bool.and_eq_true,beq_iff_eq,Con.parts]at h;have:ps=[]:=List.eq_nil_of_length_eq_zero zr_;subst this;simp[Con.sz,Con.sz.szs]
theorem pt_ {x:Ax} (h:x.check=0):x.left.sz≤64∧x.right.sz≤64:=by
 have k:=ls_ h;have hk:=yP_ h;unfold Ax.shaped at k;rw[if_neg zr_]at k;simp only[Bool.and_eq_true,Bool.or_eq_true]at k;obtain⟨⟨⟨⟨⟨⟨e,d⟩,_⟩,_⟩,_⟩,_⟩,_⟩:=k;constructor
 ·rcases e with e|e
  ·exact (Con.check_zero (qj_ h e)).2
  rw[ry_ e];omega
 rcases d with d|d
 ·exact (Con.check_zero (rK_ h d)).2
 rw[ry_ d];omega
theorem pr_ {x:Ax} (d:x.ok) (e:x.check=0):Tri Tryz.prog 29 #[x.val] [] [x.memF,bV_] (fun _:Unit=>.int .i64 0) (fun _=>[]) (fun _=>[]):=by
  have h:=hX_ x d;rw[e]at h;exact h
theorem pN_ (s:Str):Fn0 Tryz.prog 175 #[str s] (.bool false):=by
  refine j_ Tryz.func175 rfl rfl Tryz.ntmps175 rfl fun d=>?_;refine Zz 9 ?_;refine e_ (aD_ (cZ_ rfl rfl) (show _=Value.bool false from congrArg Value.bool zC_)) rfl (Zz 4 ?_);exact af_ Tryz.results175 () rfl l_ zt
theorem kq_ {a b:Str} (h:str a=str b):a=b:=by
  have d:=congrArg (fun z:ByteArray=>z.data.toList) (Value.string.inj h);simpa using d
def rP_ (P:Program) (gf:FuncId) (caps:List Value) (Hc:Hp) (Rc:List Str→Prop):Prop:=∀ {σ:Type} (l:Nat) (Gj:σ→Hp) (lst:σ→List Str),(∀ s x,(lst s).length<100000000→jw_ P l (str x) (Gj s) [] (fun _:{s':σ // lst s'=lst s++[x]}=>.bool true) (fun s'=>Gj s'.1) (fun _=>[]))→∀ s0,lst s0=[] →
  Tri P gf (.func (.yield l) #[] #[]::caps).toArray (Hc++Gj s0) [] (fun _:{s':σ // Rc (lst s')}=>.tuple #[]) (fun s'=>Hc++Gj s'.1) (fun _=>[])
theorem yb_ {C Q:Hp} {c d e:Nat×Obj}:(C++(c::Q)++[d,e]).Perm (e::(C++(c::(Q++[d])))):=by
  have h:C++(c::Q)++[d,e]=(C++(c::(Q++[d])))++[e]:=by simp
  rw[h];exact List.perm_append_comm
theorem pf_D10 {C Q:Hp} {c d:Nat×Obj}:(C++(c::(Q++[d]))).Perm ((C++Q)++[c,d]):=by
  have e:(C++Q)++[c,d]=C++((Q++[c])++[d]):=by simp
  rw[e];exact List.Perm.append_left C (List.Perm.append_right [d] (show ([c]++Q).Perm _ from List.perm_append_comm))
theorem tS_ {L q:List Str} (h:L.Perm q) (k:q.Nodup):bg_ L=bg_ q:=by
 have strict:∀ l:List Str,l.Nodup→SrS (bg_ l):=fun l hl=>by
   have e:=gs_ l;have d:(bg_ l).Nodup:=(List.mergeSort_perm _ _).nodup_iff.2 hl;unfold List.Nodup at d;refine List.Pairwise.imp (fun {a b} hab=>?_) (e.and d)
   by_cases g:a<b
   · exact g
   · exact absurd (List.le_antisymm hab.1 (List.not_lt.1 g)) hab.2
 exact kr_ (strict L (h.nodup_iff.2 k)) (strict q k) fun x=>by rw[List.mem_mergeSort,List.mem_mergeSort,h.mem_iff]
theorem wj_ {σ:Type} {l:Nat} {I:σ→Hp} {h:σ→List Str} (W:∀ s x,(h s).length<100000000→jw_ Tryz.prog l (str x) (I s) [] (fun _:{A:σ // h A=h s++[x]}=>.bool true) (fun A=>I A.1) (fun _=>[])) (L:σ) (R:h L=[]) (C G c:Nat) (es:Array MapEntry) (q:List Str) (hE:KeyE str es q) (hB:Born es c) (T:q.length≤100000000):Tri Tryz.prog 96 #[.func (.yield l) #[] #[],zp_ G 0] ((G,.cells #[.map (some C)] 33 (0,0))::(C,.map es c)::I L) [] (fun _:{A:σ // (h A).Perm q}=>.tuple #[]) (fun A=>(G,.cells #[.map (some C)] 33 (0,0))::(C,.map es c)::I A.1) (fun _=>[]):=by
 refine j_ Tryz.func96 rfl rfl Tryz.ntmps96 rfl fun V=>?_;refine Zz 3 ?_;refine oW_ 1 Tryz.underlying33 rfl rfl rfl fun K=>Zz 3 ?_
 refine P_ (ι:={y:List Str×Array Nat×Nat×σ // ItS str es y.2.1 y.1∧c≤y.2.2.1∧h y.2.2.2=y.1∧(∀ z∈y.1,z∈q)}) (fun y=>[(0,.func (.yield l) #[] #[]),(1,zp_ G 0),(5,zp_ K 0)]) (fun y=>((K,.mapIter (some C) c y.1.2.1 y.1.2.2.1)::((G,.cells #[.map (some C)] 33 (0,0))::((C,.map es c)::(I y.1.2.2.2))))) (fun y=>[]) (fun y=>List.length q - List.length y.1.1) ⟨([],#[],c,L),ItS.nil,Nat.le_refl _,R,by simp⟩ zl zp zt ?_;rintro ⟨⟨done,F,X,s⟩,N,J,E,v⟩;dsimp only at N J E v ⊢;refine Zz 2 ?_;refine qW_ 0 2 rfl rfl rfl hB.lt J rfl (fun O=>?_) (fun e U=>?_)
 ·refine Zz 7 ?_
  exact cB_ Tryz.results96 ⟨s,by rw[E];exact N.endK (fun _ _=>kq_) hE O⟩ rfl zp zt
 obtain⟨k,H,S,P,Q,B⟩:=N.stepK (fun _ _=>kq_) hE hB U;refine Zz 10 ?_;refine e_ (aD_ (oH_ 0 2 rfl rfl rfl Q hB) (show _=Value.tuple #[str k,e.val] by rw[P])) rfl (Zz 5 ?_);refine kt_ (ι:={A:σ // h A=h s++[k]}) (fun _=>[(0,.func (.yield l) #[] #[]),(1,zp_ G 0),(5,zp_ K 0),(13,.bool false)]) (fun z=>((K,.mapIter (some C) c (F.push e.born) c)::((G,.cells #[.map (some C)] 33 (0,0))::((C,.map es c)::(I z.1))))) (fun _=>[]) ?_ ?_
 ·refine aV_ ?_
  refine X_ dq_ (O_ rfl) rfl rfl ?_;refine X_ dq_ (O_ rfl) rfl rfl ?_;refine hK_ (W s k zW_) rfl rfl (c_ (c_ B_)) zt rfl fun z=>?_;refine X_ dq_ (aJ_ rfl) rfl rfl ?_;refine bF_ ?_;refine dI_ rfl ?_;exact fF_ z zl zp zh
 rintro ⟨A,M⟩;dsimp only;refine Zz 4 ?_;exact y_ ⟨(done++[k],F.push e.born,c,A),B,Nat.le_refl _,by rw[M,E],fun z d=>by rcases List.mem_append.1 d with d|d;exact v z d;rw[List.mem_singleton]at d;exact d▸H⟩ zU_ zl (f_ d_ (f_ d_ (f_ d_ ah_))) zt
theorem jm_ (h e c:Nat) (es:Array MapEntry) (q:List Str) (hE:KeyE str es q) (hB:Born es c) (d:q.length≤100000000):rP_ Tryz.prog 96 [zp_ e 0] [(e,.cells #[.map (some h)] 33 (0,0)),(h,.map es c)] (fun L=>L.Perm q) :=
  fun l y m x v k=>wj_ x v k h e c es q hE hB d
theorem jl_ (e:Nat):Tri Tryz.prog 50 #[.map (some e)] [] [] (fun d:Nat=>.func (.func 96) #[] #[zp_ d 0]) (fun d=>[(d,.cells #[.map (some e)] 33 (0,0))]) (fun _=>[]):=by
  refine j_ Tryz.func50 rfl rfl Tryz.ntmps50 rfl fun k=>?_;refine Zz 2 ?_;refine aa_ rfl rfl fun h=>Zz 5 ?_
  refine e_ (bT_ rfl rfl) rfl (Zz 4 ?_);exact af_ Tryz.results50 h rfl (F:=[]) (.refl _) zt
theorem wi_ {σ:Type} {l:Nat} {I:σ→Hp} {h:σ→List Str} (W:∀ s x,(h s).length<100000000→jw_ Tryz.prog l (str x) (I s) [] (fun _:{A:σ // h A=h s++[x]}=>.bool true) (fun A=>I A.1) (fun _=>[])) (L:σ) (R:h L=[]) (C G c:Nat) (es:Array MapEntry) (q:List Str) (hE:KeyE str es q) (hB:Born es c) (T:q.length≤100000000):Tri Tryz.prog 151 #[.func (.yield l) #[] #[],zp_ G 0] ((G,.cells #[.map (some C)] 105 (0,0))::(C,.map es c)::I L) [] (fun _:{A:σ // (h A).Perm q}=>.tuple #[]) (fun A=>(G,.cells #[.map (some C)] 105 (0,0))::(C,.map es c)::I A.1) (fun _=>[]):=by
 refine j_ Tryz.func151 rfl rfl Tryz.ntmps151 rfl fun V=>?_;refine Zz 3 ?_;refine oW_ 1 Tryz.underlying105 rfl rfl rfl fun K=>Zz 3 ?_
 refine P_ (ι:={y:List Str×Array Nat×Nat×σ // ItS str es y.2.1 y.1∧c≤y.2.2.1∧h y.2.2.2=y.1∧(∀ z∈y.1,z∈q)}) (fun y=>[(0,.func (.yield l) #[] #[]),(1,zp_ G 0),(5,zp_ K 0)]) (fun y=>((K,.mapIter (some C) c y.1.2.1 y.1.2.2.1)::((G,.cells #[.map (some C)] 105 (0,0))::((C,.map es c)::(I y.1.2.2.2))))) (fun y=>[]) (fun y=>List.length q - List.length y.1.1) ⟨([],#[],c,L),ItS.nil,Nat.le_refl _,R,by simp⟩ zl zp zt ?_;rintro ⟨⟨done,F,X,s⟩,N,J,E,v⟩;dsimp only at N J E v ⊢;refine Zz 2 ?_;refine qW_ 0 2 rfl rfl rfl hB.lt J rfl (fun O=>?_) (fun e U=>?_)
 ·refine Zz 7 ?_
  exact cB_ Tryz.results151 ⟨s,by rw[E];exact N.endK (fun _ _=>kq_) hE O⟩ rfl zp zt
 obtain⟨k,H,S,P,Q,B⟩:=N.stepK (fun _ _=>kq_) hE hB U;refine Zz 10 ?_;refine e_ (aD_ (oH_ 0 2 rfl rfl rfl Q hB) (show _=Value.tuple #[str k,e.val] by rw[P])) rfl (Zz 5 ?_);refine kt_ (ι:={A:σ // h A=h s++[k]}) (fun _=>[(0,.func (.yield l) #[] #[]),(1,zp_ G 0),(5,zp_ K 0),(13,.bool false)]) (fun z=>((K,.mapIter (some C) c (F.push e.born) c)::((G,.cells #[.map (some C)] 105 (0,0))::((C,.map es c)::(I z.1))))) (fun _=>[]) ?_ ?_
 ·refine aV_ ?_
  refine X_ dq_ (O_ rfl) rfl rfl ?_;refine X_ dq_ (O_ rfl) rfl rfl ?_;refine hK_ (W s k zW_) rfl rfl (c_ (c_ B_)) zt rfl fun z=>?_;refine X_ dq_ (aJ_ rfl) rfl rfl ?_;refine bF_ ?_;refine dI_ rfl ?_;exact fF_ z zl zp zh
 rintro ⟨A,M⟩;dsimp only;refine Zz 4 ?_;exact y_ ⟨(done++[k],F.push e.born,c,A),B,Nat.le_refl _,by rw[M,E],fun z d=>by rcases List.mem_append.1 d with d|d;exact v z d;rw[List.mem_singleton]at d;exact d▸H⟩ zU_ zl (f_ d_ (f_ d_ (f_ d_ ah_))) zt
theorem yq_ (h e c:Nat) (es:Array MapEntry) (q:List Str) (hE:KeyE str es q) (hB:Born es c) (d:q.length≤100000000):rP_ Tryz.prog 151 [zp_ e 0] [(e,.cells #[.map (some h)] 105 (0,0)),(h,.map es c)] (fun L=>L.Perm q) :=
  fun l y m x v k=>wi_ x v k h e c es q hE hB d
theorem yl_ (e:Nat):Tri Tryz.prog 104 #[.map (some e)] [] [] (fun d:Nat=>.func (.func 151) #[] #[zp_ d 0]) (fun d=>[(d,.cells #[.map (some e)] 105 (0,0))]) (fun _=>[]):=by
  refine j_ Tryz.func104 rfl rfl Tryz.ntmps104 rfl fun k=>?_;refine Zz 2 ?_;refine aa_ rfl rfl fun h=>Zz 5 ?_
  refine e_ (bT_ rfl rfl) rfl (Zz 4 ?_);exact af_ Tryz.results104 h rfl (F:=[]) (.refl _) zt
theorem vS_ {C Q G:Hp} {c:Nat×Obj}:(C++(c::Q)++G).Perm (c::(C++(Q++G))):=by
  have d:C++(c::Q)++G=C++([c]++(Q++G)):=by simp
  rw[d,← List.append_assoc];exact List.Perm.append_right (Q++G) (List.perm_append_comm (l₁:=C) (l₂:=[c])) |>.trans zC_
theorem uN_ (T:FuncId) (caps:List Value) (Hc:Hp) (Rc:List Str→Prop) (N:rP_ Tryz.prog T caps Hc Rc):Tri Tryz.prog 143 #[.slice none 0 0,.func (.func T) #[] caps.toArray] Hc [] (fun y:{y:Value×Hp×List Str // aB_ 9 1 y.1 y.2.2.length (y.2.2.flatMap ap_) y.2.1∧Rc y.2.2}=>y.1.1) (fun y=>Hc++y.1.2.1) (fun _=>[]):=by
 refine hC_ Tryz.func143 rfl rfl Tryz.ntmps143 rfl fun H=>?_;refine Zz 2 ?_;refine aa_ rfl rfl fun d=>Zz 10 ?_
 refine bC_ [(2,zp_ d 0),(6,.func (.func T) #[] caps.toArray)] zl ?_;refine sc_ (σ:={y:Value×Hp×List Str // aB_ 9 1 y.1 y.2.2.length (y.2.2.flatMap ap_) y.2.1}) (α:=Str) (xv:=fun x=>str x) (good:=fun s _=>s.1.2.2.length<100000000) (nx:=fun x s Q=>Q.1.2.2=s.1.2.2++[x]) (Rc:=fun s=>Rc s.1.2.2) (Γi:=[]) (Hj:=fun y=>(d,.cells #[y.1.1] 25 (0,0))::y.1.2.1) (Hc:=Hc) (caps:=caps) ⟨(.slice none 0 0,[],[]),aB_.nil _ _⟩ rfl (@List.perm_append_comm _ [_] _) zt ?_ ?_ ?_
 ·rintro l D a0 P S O W B q ⟨⟨sv,m,L⟩,A⟩ x E
  dsimp only at A E ⊢;refine qo_ (ι:=Unit) (Hj:=fun y:{y:Value×Hp×List Str // aB_ 9 1 y.1 y.2.2.length (y.2.2.flatMap ap_) y.2.1}=>(d,.cells #[y.1.1] 25 (0,0))::y.1.2.1) (s:=⟨(sv,m,L),A⟩) (ok:=fun Q=>Q.1.2.2=L++[x]) (Γ:=[]) (fun _=>[(2,zp_ d 0),(5,str x)]) (fun _=>(d,.cells #[sv] 25 (0,0))::m) P S O W rfl ?_ ?_
  ·intro n H M K
   rw[B];dsimp only;refine ha_.2 (u_ (H':=(d,.cells #[sv] 25 (0,0))::(m++K)) zC_ (ha_.1 ?_));refine aV_ ?_;refine X_ (N_ _) (an_ rfl) rfl rfl ?_;refine bF_ ?_;refine dI_ rfl ?_;exact fF_ () zl (F:=[]) zaq_ zh
  intro n H M K _;rw[q];refine ha_.2 (u_ (H':=(d,.cells #[sv] 25 (0,0))::(m++K)) zC_ (ha_.1 ?_));refine eN_ ?_;refine aV_ ?_;refine X_ (N_ _) (aC_ 0 gE_ rfl rfl rfl) rfl rfl ?_;refine X_ (N_ _) (O_ rfl) rfl rfl ?_;refine us_ (N_ _) m_ H_ aK_ rfl rfl rfl rfl rfl rfl fun Y=>?_;refine rc_ (N_ _) (news:=List.flatMap ap_ [x]) cW_ A rfl rfl zp rfl (be_ 0 rfl) (fun u V=>ak_ cx_ V) zG_ zr_ rfl fun C J I=>?_;have k:=zsa I;refine gz_ (Y_ (g_ d_) (bq_ (g_ d_))) ?_;refine ow_ (N_ _) 1 k bI_ rfl rfl rfl rfl ?_;refine bF_ ?_;refine dI_ rfl ?_;exact se_ ⟨(C,J,(L++[x])),k⟩ rfl (pf_as3 (f_ (c_ d_) (F_ (c_ t_) (F_ B_ d_))))
 ·intro l Z X
  exact N l Z (fun y=>y.1.2.2) (fun s x h=>X s x h) ⟨(.slice none 0 0,[],[]),aB_.nil _ _⟩ rfl
 rintro ⟨⟨sv,m,L⟩,A⟩ U D l r;dsimp only at U A ⊢;refine dg_ (H':=(d,.cells #[sv] 25 (0,0))::(Hc++(m++HLp l D r))) (F:=[]) (by rw[List.append_nil];exact vS_) zh ?_;refine cs_ rfl ?_;refine do_ ?_;refine aV_ ?_;refine X_ dq_ (aC_ 0 gE_ rfl rfl rfl) rfl rfl ?_;refine X_ dq_ (an_ rfl) rfl rfl ?_;refine bF_ ?_;refine cs_ rfl ?_;refine nr_ ?_;exact zg_ (G:=Hc++((d,.cells #[sv] 25 (0,0))::(m++[(l,.loop r)]))) ⟨(sv,m,L),A,U⟩ (fun a v R a1=>by have e:=R.val 4 sv rfl;simp[results,Tryz.results143,e]) (vS_.symm.trans (by unfold HLp;exact yb_)) ⟨_,pf_D10⟩ rfl
theorem sK_ (m:FuncId) (caps:List Value) (Hc:Hp) (Rc:List Str→Prop) (v:rP_ Tryz.prog m caps Hc Rc):Tri Tryz.prog 94 #[.func (.func m) #[] caps.toArray] Hc [] (fun y:{y:Value×Hp×List Str // aB_ 9 1 y.1 y.2.2.length (y.2.2.flatMap ap_) y.2.1∧Rc y.2.2}=>y.1.1) (fun y=>Hc++y.1.2.1) (fun _=>[]):=by
  refine j_ Tryz.func94 rfl rfl Tryz.ntmps94 rfl fun x=>?_;refine Zz 8 ?_;refine i_ (uN_ m caps Hc Rc v) rfl ah_ zt rfl fun⟨⟨k,h,q⟩,e,d⟩=>?_;dsimp only;dsimp only at e d ⊢;simp only[List.append_assoc,List.append_nil];refine Zz 4 ?_;exact af_ Tryz.results94 ⟨(k,h,q),e,d⟩ rfl zp zt
theorem fz_ (H:FuncId) (caps:List Value) (Hc:Hp) (q:List Str) (I:q.Nodup) (M:q.length≤100000000) (J:rP_ Tryz.prog H caps Hc (fun L=>L.Perm q)):Tri Tryz.prog 49 #[.func (.func H) #[] caps.toArray] Hc [] (fun y:{y:Option Addr×Nat // (bg_ q).length≤y.2∧y.2≤maxLen∧(y.1=none→y.2=0)}=>.slice y.1.1 (bg_ q).length y.1.2) (fun _=>Hc) (fun y=>[V_ y.1.1 ((bg_ q).flatMap ap_)]):=by
  refine j_ Tryz.func49 rfl rfl Tryz.ntmps49 rfl fun N=>?_;refine Zz 8 ?_;refine i_ (sK_ H caps Hc (fun L=>L.Perm q) J) rfl ah_ zt rfl fun⟨⟨C,K,G⟩,m,d⟩=>?_;dsimp only;dsimp only at m d ⊢;simp only[List.append_assoc,List.append_nil];refine Zz 6 ?_;refine i_ (mH_ m (by have:=d.length_eq;omega)) rfl bf_ zt rfl fun⟨A,x⟩=>?_;dsimp only;have E:aB_ 9 1 C (List.length (bg_ q)) (List.flatMap ap_ (bg_ q)) A:=by rw[← tS_ d I,show (bg_ G).length=G.length from List.length_mergeSort _];exact x
  refine Zz 9 ?_;refine aN_ E t_ fun F B v k h e=>?_;exact af_ Tryz.results49 ⟨(F,B),k,h,e⟩ (gh_ rfl v) ah_ zf
theorem bG_:KeyT Tryz.prog 9 str:=rm_ aT_
theorem oQ_ (l:List Ax) (ad:Option Addr) (cap:Nat) (A:∀ x∈l,x.ok) (C:∀ x∈l,x.check=0) (G:l.length≤100000):Tri Tryz.prog 65 #[.slice ad (List.length l) cap] [] [cu_ ad l,bV_] (fun _:Unit=>.int .i64 0) (fun _=>[]) (fun _=>[]):=by
 refine j_ Tryz.func65 rfl rfl Tryz.ntmps65 rfl fun E=>?_;refine Zz 14 ?_;refine P_ (ι:={y:Nat // y≤List.length l}) (fun y=>[(2,.int .i64 0),(6,.slice ad (List.length l) cap),(7,.int .i64 (List.length l:Int)),(8,.int .i64 (y.1:Int))]) (fun y=>([])) (fun y=>[cu_ ad l,bV_]) (fun y=>List.length l - y.1) ⟨(0:Nat),by simp⟩ zl l_ zh ?_;rintro ⟨i,q⟩;dsimp only at q ⊢;refine Zi 2 (fun m=>?_) fun m=>?_
 ·refine Zz 12 ?_
  exact af_ Tryz.results65 () rfl l_ zt
 obtain⟨e,k,B,d⟩:=zge (show i<List.length l by omega);refine Zz 12 ?_;refine D_ bc_ rfl fun F=>x_ 0 ar_ rfl rfl rfl rfl rfl rfl (Zz 5 ?_)
 refine i_ (pr_ (A k d) (C k d)) rfl l_ (fun v _ h=>by exact⟨(h.1.2 k d),h.2.1,trivial⟩) rfl fun _=>Zz 6 ?_
 refine e_ (aD_ (cf_ rfl rfl) (show _=Value.bool false from congrArg Value.bool zx_)) rfl (Zz 10 ?_);exact y_ ⟨i+1,e⟩ zu_ zl l_ zh
theorem gH_ {G:Prop} (h:G:=by
 have d:Ax.selfs x=m:=by rw[hm,List.take_of_length_le zr_];rfl
 exact af_ Tryz.results107 () (o_ rfl (by unfold Ax.exm;rw[h,d];rw[Bool.eq_iff_iff];simp only[Bool.and_eq_true,Bool.or_eq_true,Bool.not_eq_true',decide_eq_true_eq,decide_eq_false_iff_not,Option.some.injEq,beq_iff_eq,q,true_and,false_and,true_iff,Bool.false_eq_true,false_iff,reduceCtorEq];omega)) l_ zt):G:=h
theorem wD_ (x:Ax) (i:Nat) (E:x.ok) (hi:i<x.roles.length):Tri Tryz.prog 107 #[Ax.val x,.int .i64 (i:Int)] [] [Ax.memF x] (fun _:Unit=>.bool (x.exm i)) (fun _=>[]) (fun _=>[]):=by
 refine j_ Tryz.func107 rfl rfl Tryz.ntmps107 rfl fun Q=>?_;have O:=E.len;have P:=E.cap;obtain⟨R,h⟩:∃ r,x.roles[i]? = some r:=⟨_,List.getElem?_eq_getElem hi⟩;refine Zz 2 ?_;refine aa_ rfl rfl fun H=>Zz 6 ?_
 refine G_ 0 [0,1,2,3,4,5,6,7] zk zs (Zi 7 (fun A=>?_) fun A=>?_)
 ·have q:R=Ax.role x:=by simpa using A
  refine Zz 29 ?_;refine P_ (ι:={y:Nat×Nat // y.1≤List.length (Ax.roles x)∧y.2=List.countP (fun r=>decide (r=x.role)) (List.take y.1 (Ax.roles x))}) (fun y=>[(1,.int .i64 (i:Int)),(2,zp_ H 0),(4,.bool false),(5,.int .i64 (List.length (Ax.roles x):Int)),(6,.int .i64 (y.1.2:Int)),(21,.slice (Ax.ad x) (List.length (Ax.roles x)) (Ax.cap x)),(22,.int .i64 (List.length (Ax.roles x):Int)),(23,.int .i64 (y.1.1:Int))]) (fun y=>((H,.cells (Ax.cells x).toArray 42 (0,0))::[])) (fun y=>[Ax.memF x]) (fun y=>List.length (Ax.roles x) - y.1.1) ⟨((0:Nat),(0:Nat)),by simp,zC_⟩ zl d_ zh ?_;rintro ⟨⟨j,m⟩,J,hm⟩;dsimp only at J hm ⊢;refine Zi 2 (fun F=>?_) fun F=>?_
  ·refine Zi 9 (fun e=>?_) fun e=>?_
   ·refine Zi 14 (fun B=>?_) fun B=>?_
    ·refine Zz 11 ?_
     exact gH_
    refine Zz 5 ?_;refine C_ (bU_ rfl rfl) rfl fun M C=>Zz 7 ?_
    have d:Ax.selfs x=m:=by rw[hm,List.take_of_length_le zr_];rfl
    exact af_ Tryz.results107 () (o_ rfl (by rw[← C];unfold Ax.exm;rw[h,d];rw[Bool.eq_iff_iff];simp only[Bool.and_eq_true,Bool.or_eq_true,Bool.not_eq_true',decide_eq_true_eq,decide_eq_false_iff_not,Option.some.injEq,beq_iff_eq,q,true_and,false_and,true_iff,Bool.false_eq_true,false_iff,reduceCtorEq];omega)) l_ zt
   refine Zi 4 (fun B=>?_) fun B=>?_
   ·refine Zz 7 ?_
    refine e_ (aD_ (bj_ rfl rfl rfl (ce_ zr_ zr_)) (show _=Value.int .i64 ((List.length (Ax.roles x):Int) - 1) from rfl)) rfl (aQ_ rfl rfl ?_);refine Zi 0 (fun C=>?_) fun C=>?_
    ·refine Zi 7 (fun G=>?_) fun G=>?_
     ·refine Zz 11 ?_
      exact gH_
     refine Zz 5 ?_;refine C_ (bU_ rfl rfl) rfl fun M I=>Zz 7 ?_
     have d:Ax.selfs x=m:=by rw[hm,List.take_of_length_le zr_];rfl
     exact af_ Tryz.results107 () (o_ rfl (by rw[← I];unfold Ax.exm;rw[h,d];rw[Bool.eq_iff_iff];simp only[Bool.and_eq_true,Bool.or_eq_true,Bool.not_eq_true',decide_eq_true_eq,decide_eq_false_iff_not,Option.some.injEq,beq_iff_eq,q,true_and,false_and,true_iff,Bool.false_eq_true,false_iff,reduceCtorEq];omega)) l_ zt
    refine Zz 15 ?_;exact gH_
   refine Zz 21 ?_;exact gH_
  have k:j<List.length (Ax.roles x):=by omega
  obtain⟨N,v⟩:∃ L,(Ax.roles x)[j]? = some L:=⟨_,List.getElem?_eq_getElem k⟩;have K:N∈(Ax.roles x):=List.mem_of_getElem? v;refine Zi 20 (fun e=>?_) fun e=>?_
  ·refine Zz 10 ?_
   exact y_ ⟨(j+1,m),k,zbj_⟩ zu_ zl d_ zh
  refine Zz 5 ?_;refine e_ (aD_ (bj_ rfl rfl rfl (ce_ zad_ zad_)) (show _=Value.int .i64 ((m+1:Nat):Int) from congrArg _ zr_)) rfl ?_;refine Zz 8 ?_;exact y_ ⟨(j+1,(m+1)),k,zbj_⟩ zu_ zl d_ zh
 refine Zz 10 ?_;exact af_ Tryz.results107 () (o_ rfl (by unfold Ax.exm;rw[h];simp[A])) l_ zt
theorem lE_ {G:Prop} (h:G:=by
 refine qV_ (k:=r) (s:=s) (e:=e) bG_ (.inr rfl) S_ E m (by rw[v];simp) rfl rfl rfl ah_ fun x d=>?_;refine u_ eg_ (Zz 2 ?_);exact cB_ Tryz.results106 ⟨(ks,x),d,fun k hk=>.inl hk⟩ rfl ah_ zt):G:=h
theorem lF_ {G:Prop} (h:G:=by
 refine qV_ (k:=r) (s:=s) (e:=e) bG_ (.inr rfl) S_ d q (by rw[v];simp) rfl rfl rfl ah_ fun A B=>?_;refine u_ eg_ (Zz 2 ?_);exact cB_ Tryz.results106 ⟨((ks++[(r,C)]),A),B,fun k hk=>by rw[List.map_append,List.mem_append]at hk;exact hk.imp id zC_⟩ rfl ah_ zt):G:=h
theorem tI_ (r s:Str) (e:Bool) (cb H:Nat) (ks:List (Str×Nat)) (S:List RSt) (Hx:Hp) (E:MmO H ks S Hx):Tri Tryz.prog 106 #[str r,str s,.bool e,zp_ cb 0] Hx [ck_ cb (.cells #[.map (some H)] 105 (0,0))] (fun _:{y:List (Str×Nat)×Hp // MmO H y.1 (S++[(r,s,e)]) y.2∧∀ k∈y.1.map (·.1),k∈ks.map (·.1)∨k=r}=>.tuple #[]) (fun y=>y.1.2) (fun _=>[]):=by
 refine j_ Tryz.func106 rfl rfl Tryz.ntmps106 rfl fun J=>?_;refine Zz 5 ?_;refine e_ (ft_ (k:=r) bG_ dD_ ei_ E rfl rfl ah_) rfl (C_ (uY_ Tryz.underlying33 rfl rfl) rfl fun G h=>Zz 2 ?_);cases G
 ·replace h:=zdf h
  obtain⟨I,m⟩:=Option.ne_none_iff_exists'.1 h;refine Zz 6 ?_;refine e_ (aD_ (ft_ (k:=r) bG_ dD_ ei_ E rfl rfl ah_) (congrArg mw_ m)) rfl (Zz 3 ?_);refine e_ (aD_ (ft_ (k:=r) bG_ dD_ ei_ E rfl rfl ah_) (congrArg mw_ m)) rfl (Zz 1 ?_);refine C_ (jG_ (k:=r) (s:=s) bG_ S_ aM_ E m rfl rfl ah_) rfl fun F v=>Zz 1 ?_
  cases F
  ·refine Zz 3 ?_
   exact lE_
  refine Zz 2 ?_;exact lE_
 replace h:=zdt h;refine Zz 4 ?_;refine bn_ rfl fun C=>vV_ (k:=r) bG_ (.inr rfl) dD_ E h rfl rfl rfl (f_ d_ ah_) fun x d=>u_ eg_ ?_
 have q:hd_ (ks++[(r,C)]) r=some C:=vm_ h;refine Zz 5 ?_;refine e_ (aD_ (ft_ (k:=r) bG_ dD_ ei_ d rfl rfl ah_) (congrArg mw_ q)) rfl (Zz 3 ?_);refine e_ (aD_ (ft_ (k:=r) bG_ dD_ ei_ d rfl rfl ah_) (congrArg mw_ q)) rfl (Zz 1 ?_);refine C_ (jG_ (k:=r) (s:=s) bG_ S_ aM_ d q rfl rfl ah_) rfl fun F v=>Zz 1 ?_
 cases F
 ·refine Zz 3 ?_
  exact lF_
 refine Zz 2 ?_;exact lF_
theorem xB_ (l:List Ax) (ad:Option Addr) (cap:Nat) (a3:∀ x∈l,x.ok) (hC:∀ x∈l,x.check=0) (hll:l.length≤100000):Tri Tryz.prog 67 #[.slice ad (List.length l) cap] [] [cu_ ad l] (fun y:{y:Nat×List (Str×Nat)×Hp // MmO y.1 y.2.1 (di_ l) y.2.2∧Frm y.2.1 (di_ l)}=>.map (some y.1.1)) (fun y=>y.1.2.2) (fun _=>[]):=by
 refine j_ Tryz.func67 rfl rfl Tryz.ntmps67 rfl fun v_1=>?_;refine Zz 7 ?_;refine bn_ rfl fun H=>D_ Tryz.zeroValue105 rfl fun L=>x_ 0 Tryz.sizeOf105 rfl rfl rfl rfl rfl rfl (Zz 4 ?_)
 refine e_ (bT_ rfl rfl) rfl (Zz 12 ?_);refine iM_ 0 rfl ?_;refine P_ (ι:={y:Nat×List (Str×Nat)×Hp // y.1≤List.length l∧MmO H y.2.1 (di_ (List.take y.1 l)) y.2.2∧Frm y.2.1 (di_ (List.take y.1 l))}) (fun y=>[(2,.map none),(3,zp_ L 0),(4,.func (.func 106) #[] #[zp_ L 0]),(11,.slice ad (List.length l) cap),(12,.int .i64 (List.length l:Int)),(13,.int .i64 (y.1.1:Int))]) (fun y=>(y.1.2.2)) (fun y=>[ck_ L (.cells #[.map (some H)] 105 (0,0)),cu_ ad l]) (fun y=>List.length l - y.1.1) ⟨((0:Nat),[],[(H,.map #[] 0)]),by simp,(by rw[List.take_zero];exact MmO.nil H 0),Frm.nil⟩ zl d_ zh ?_;rintro ⟨⟨i,J,I⟩,X,E,F⟩;dsimp only at X E F ⊢;refine Zi 2 (fun Z=>?_) fun Z=>?_
 ·refine Zz 13 ?_
  have a2:List.take i l=l:=List.take_of_length_le zr_;rw[a2]at E F;exact af_ Tryz.results67 ⟨(H,J,I),E,F⟩ rfl ah_ zt
 obtain⟨G,d,B,k⟩:=zge (show i<List.length l by omega);have Y:=Ax.good_of (hC d k);refine Zz 12 ?_;refine D_ bc_ rfl fun W=>x_ 0 ar_ rfl rfl rfl rfl rfl rfl (Zi 11 (fun A=>?_) fun A=>?_)
 ·refine Zi 6 (fun m=>?_) fun m=>?_
  ·refine Zz 11 ?_
   exact y_ ⟨(i+1,J,I),G,(by rw[dS_ B,Ax.steps_no A m,List.append_nil];exact E),(by rw[dS_ B,Ax.steps_no A m,List.append_nil];exact F)⟩ zu_ zl B_ zh
  have hch:=Y.chain m;refine Zz 13 ?_;refine P_ (ι:={y:Nat×List (Str×Nat)×Hp // y.1≤List.length (Ax.roles d)∧MmO H y.2.1 ((di_ (List.take i l))++Ax.chs d y.1) y.2.2∧Frm y.2.1 ((di_ (List.take i l))++Ax.chs d y.1)}) (fun y=>[(2,.map none),(3,zp_ L 0),(4,.func (.func 106) #[] #[zp_ L 0]),(11,.slice ad (List.length l) cap),(12,.int .i64 (List.length l:Int)),(13,.int .i64 (i:Int)),(6,zp_ W 0),(39,.slice (Ax.ad d) (List.length (Ax.roles d)) (Ax.cap d)),(40,.int .i64 (List.length (Ax.roles d):Int)),(41,.int .i64 (y.1.1:Int))]) (fun y=>((W,.cells (Ax.cells d).toArray 42 (0,0))::y.1.2.2)) (fun y=>[ck_ L (.cells #[.map (some H)] 105 (0,0)),cu_ ad l]) (fun y=>List.length (Ax.roles d) - y.1.1) ⟨((0:Nat),J,I),by simp,(by rw[Ax.chs,List.append_nil];exact E),F.more⟩ zl zp zh ?_;rintro ⟨⟨j,S,Q⟩,a0,O,N⟩;dsimp only at a0 O N ⊢;refine Zi 2 (fun a1=>?_) fun a1=>?_
  ·refine Zz 11 ?_
   exact y_ ⟨(i+1,S,Q),G,(by rw[dS_ B,Ax.steps_six m,show List.length (Ax.roles d)=j from zr_];exact O),(by rw[dS_ B,Ax.steps_six m,show List.length (Ax.roles d)=j from zr_];exact N)⟩ zu_ zl B_ zh
  have q:j<List.length (Ax.roles d):=by omega
  obtain⟨R,e⟩:∃ V,(Ax.roles d)[j]? = some V:=⟨_,List.getElem?_eq_getElem q⟩;have U:R∈(Ax.roles d):=List.mem_of_getElem? e;refine Zz 11 ?_;refine e_ (U_ m_ H_ rfl rfl (fun v _ h=>aE_ (n:=1) aw_ zx_ zbh_ e) zr_ zA_) rfl ?_;refine e_ (bt_ (ad:=(Ax.ad d)) ab_ rfl (fun v _ h=>by exact (h.2.1.2 d k).2.2) (p_ aw_ e 0 _ rfl)) rfl (Zz 8 ?_);refine T_ (wD_ d j (a3 d k) q) rfl l_ (fun v _ h=>by exact⟨(h.2.1.2 d k),trivial⟩) rfl fun a4 M=>e_ (aJ_ rfl) rfl (Zz 2 ?_)
  cases a4
  ·refine Zz 6 ?_
   refine aA_ (tI_ R (Ax.role d) true L H S ((di_ (List.take i l))++Ax.chs d j) Q O) rfl rfl B_ zf rfl fun⟨⟨T,P⟩,K,C⟩=>?_;dsimp only;dsimp only at K C;refine Zz 2 ?_;refine u_ (bq_ bf_) (Zz 5 ?_);exact y_ ⟨(j+1,T,P),q,(by rw[Ax.chs_no e M,← List.append_assoc];exact K),(by rw[Ax.chs_no e M,← List.append_assoc];exact N.add C)⟩ zu_ zl zp zh
  refine Zz 8 ?_;exact y_ ⟨(j+1,S,Q),q,(by rw[Ax.chs_yes e M];exact O),(by rw[Ax.chs_yes e M];exact N)⟩ zu_ zl zp zh
 have a5:=Y.one A;have q:0<List.length (Ax.roles d):=by omega
 obtain⟨R,e⟩:∃ V,(Ax.roles d)[0]? = some V:=⟨_,List.getElem?_eq_getElem q⟩;have U:R∈(Ax.roles d):=List.mem_of_getElem? e;refine Zz 6 ?_;refine G_ 0 [0,1,2,3,4,5,6] zk zs (Zz 2 ?_);refine z_ rfl (U_ m_ H_ rfl rfl (fun v _ h=>aE_ (n:=1) aw_ zx_ zbh_ e) zr_ zA_) rfl ?_;refine z_ rfl (bt_ (ad:=(Ax.ad d)) ab_ rfl (fun v _ h=>by exact (h.2.1.2 d k).2.2) (p_ aw_ e 0 _ rfl)) rfl (Zi 2 (fun m=>?_) fun m=>?_)
 ·refine Zz 11 ?_
  exact y_ ⟨(i+1,J,I),G,(by rw[dS_ B,Ax.steps_same A e m,List.append_nil];exact E),(by rw[dS_ B,Ax.steps_same A e m,List.append_nil];exact F)⟩ zu_ zl B_ zh
 refine Zz 4 ?_;refine ao_ ((W,.cells (Ax.cells d).toArray 42 (0,0))::[]) zk ?_;refine G_ 1 [0,1,2,3,4,5,6] zk zs (Zz 3 ?_);refine z_ rfl (U_ m_ H_ rfl rfl (fun v _ h=>aE_ (n:=1) aw_ zx_ zbh_ e) zr_ zA_) rfl ?_;refine z_ rfl (bt_ (ad:=(Ax.ad d)) ab_ rfl (fun v _ h=>by exact (h.2.1.2 d k).2.2) (p_ aw_ e 0 _ rfl)) rfl (Zz 3 ?_);refine n_ 7 rfl zk (aA_ (tI_ R (Ax.role d) false L H J (di_ (List.take i l)) I E) rfl rfl B_ zf rfl fun⟨⟨T,P⟩,K,C⟩=>?_);dsimp only;dsimp only at K C;refine Zz 5 ?_;refine u_ (bq_ bf_) (Zz 5 ?_);exact y_ ⟨(i+1,T,P),G,(by rw[dS_ B,Ax.steps_five A e m];exact K),(by rw[dS_ B,Ax.steps_five A e m];exact F.add C)⟩ zu_ zl B_ zh
def rx_ (e:Nat×Bool):List Value:=[.int .i64 (e.1:Int),.bool e.2]
theorem oi_ (e:Nat×Bool):(rx_ e).length=2:=rfl
theorem wE_ (e:Nat×Bool):(rx_ e).all Value.oneCell'=true:=rfl
structure Grw where
  st:List (Nat×Bool)
  ad:Option Addr
  cap:Nat
def Grw.cells (x:Grw):List Value:=[.slice x.ad x.st.length x.cap]
theorem Grw.cells_len (x:Grw):x.cells.length=1:=rfl
theorem Grw.cells_one (x:Grw):x.cells.all Value.oneCell'=true:=rfl
def if_ (X:List Grw):Fct where
  p v:=∀ y∈X,bz_ v y.ad (y.st.flatMap rx_)
  mono v v' h hp y hy:=(V_ y.ad (y.st.flatMap rx_)).mono v v' h (hp y hy)
theorem sB_ {X:List Grw} {y:Grw} {v:Vw} (h:(if_ X).p v) (e:(V_ y.ad (y.st.flatMap rx_)).p v):(if_ (X++[y])).p v:=fun z d=>by
 rcases List.mem_append.1 d with d|d
 ·exact h z d
 rw[List.mem_singleton]at d;subst d;exact e
def wyC (w:Wy):List Value:=[.int .i64 (w.role:Int),.bool w.strict,.int .i64 (w.before:Int),.int .i64 (w.many:Int)]
theorem mF_ (w:Wy):(wyC w).length=4:=rfl
theorem sZ_ (w:Wy):(wyC w).all Value.oneCell'=true:=rfl
theorem iC_ {l:List Str} (hl:l.Nodup):SrS (bg_ l):=by
 have e:=gs_ l;have d:(bg_ l).Nodup:=(List.mergeSort_perm _ _).nodup_iff.2 hl;unfold List.Nodup at d;refine List.Pairwise.imp (fun {a b} hab=>?_) (e.and d)
 by_cases g:a<b
 ·exact g
 exact absurd (List.le_antisymm hab.1 (List.not_lt.1 g)) hab.2
theorem SrS.nd {l:List Str} (h:SrS l):l.Nodup:=h.imp fun d e=>by subst e;exact List.lt_irrefl _ d
theorem bs_lo {R:List Str} (h:SrS R) {m:Nat} {x t:Str} (e:R[m]? = some x) (hl:x<t):∀ (a:Nat) y,a<m+1→R[a]? = some y→y<t:=fun a y k d=>by
 rcases Nat.lt_or_ge a m with g|g
 ·exact List.lt_trans (sh_ h d e g) hl
 obtain rfl:a=m:=by omega
 rw[e]at d;simp only[Option.some.injEq]at d;subst d;exact hl
theorem bs_hi {R:List Str} (h:SrS R) {m:Nat} {x t:Str} (k:R[m]? = some x) (hl:¬ x<t):∀ (a:Nat) y,m≤a→R[a]? = some y→¬ y<t:=fun a y q e d=>by
 rcases Nat.lt_or_ge m a with g|g
 ·exact hl (List.lt_trans (sh_ h k e g) d)
 obtain rfl:a=m:=by omega
 rw[k]at e;simp only[Option.some.injEq]at e;subst e;exact hl d
theorem zn_ {R:List Str} (h:SrS R) {m:Nat} {t:Str} (e:∀ (a:Nat) y,a<m→R[a]? = some y→y<t) (k:∀ (a:Nat) y,m≤a→R[a]? = some y→¬ y<t) (q:R[m]? ≠ some t):t ∉ R:=fun v=>by
 obtain⟨a,d⟩:=List.getElem?_of_mem v;rcases Nat.lt_trichotomy a m with g|g|g
 ·exact List.lt_irrefl t (e a t g d)
 ·subst g;exact q d
 have hl:=(List.getElem?_eq_some_iff.1 d).1;have hm:=List.getElem?_eq_getElem (show m<R.length by omega);exact k m _ (Nat.le_refl _) hm (sh_ h hm d g)
section
variable {P:Program} {N:Nf} {fr:Fr} {H:Hp} {Γ:List Fct} {ty:TypeId}
theorem uU_ {t k:TypeId} {x y:Operand} {q:IntKind} {m:Nat} (A:Fr.ev fr x=some (.int .u64 (m:Int))) (e:Fr.ev fr y=some (.int q 1)):Yld P N fr H Γ (.binOp .shr t x y k) ty (.int .u64 ((m / 2:Nat):Int)) :=
  fun a v d _ _ _ _ _=>by
    have B:¬ ((1:Int)<0):=by omega
    have h:(m:Int).fdiv 2=(m:Int) / 2:=Int.fdiv_eq_ediv_of_nonneg _ zx_;simp[execOp,d.ev A,d.ev e,eqGuard,binOp,Op.shift,B,IntKind.bits,h]
end
def GrR (S:List RSt) (R:List Str) (r:Str) (ss:List Str) (L:List (Nat×Bool)):Prop:=∀ j c,(j,c)∈L↔∃ s,s∈ss∧R[j]? = some s∧c=flg S r s
theorem GrR.nil {S:List RSt} {R:List Str} {r:Str}:GrR S R r [] []:=fun j c=>by simp
theorem GrR.yes {S:List RSt} {R:List Str} {r s:Str} {ss:List Str} {L:List (Nat×Bool)} {n:Nat} (h:GrR S R r ss L) (q:R.Nodup) (m:R[n]? = some s):GrR S R r (ss++[s]) (L++[(n,flg S r s)]):=fun j c=>by
 rw[List.mem_append,h,List.mem_singleton,Prod.mk.injEq];constructor
 ·rintro (⟨t,d,e,k⟩|⟨rfl,rfl⟩)
  ·exact⟨t,List.mem_append_left _ d,e,k⟩
  exact⟨s,by simp,m,rfl⟩
 rintro ⟨t,d,e,k⟩;rcases List.mem_append.1 d with d|d
 ·exact .inl ⟨t,d,e,k⟩
 rw[List.mem_singleton]at d;subst d;exact .inr ⟨vZ_ q e m,k⟩
theorem GrR.no {S:List RSt} {R:List Str} {r s:Str} {ss:List Str} {L:List (Nat×Bool)} (h:GrR S R r ss L) (m:s ∉ R):GrR S R r (ss++[s]) L:=fun j c=>by
 rw[h];constructor
 ·rintro ⟨t,d,e,k⟩;exact⟨t,List.mem_append_left _ d,e,k⟩
 rintro ⟨t,d,e,k⟩;rcases List.mem_append.1 d with d|d
 ·exact⟨t,d,e,k⟩
 rw[List.mem_singleton]at d;subst d;exact absurd (List.mem_of_getElem? e) m
structure GrI (S:List RSt) (R:List Str) (X:List Grw) (i:Nat):Prop where
  len:X.length=i
  row:∀ (k:Nat) (r:Str) (y:Grw),R[k]? = some r→X[k]? = some y→GrR S R r (bg_ (ik S r)) y.st
  short:∀ y∈X,y.st.length≤S.length
theorem GrI.nil {S:List RSt} {R:List Str}:GrI S R [] 0:=⟨rfl,fun k r y _ h=>by simp at h,by simp⟩
theorem GrI.snoc {S:List RSt} {R:List Str} {X:List Grw} {i:Nat} {r:Str} {y:Grw} (h:GrI S R X i) (A:R[i]? = some r) (x:GrR S R r (bg_ (ik S r)) y.st) (m:y.st.length≤S.length):GrI S R (X++[y]) (i+1):=by
 refine⟨by simp[h.len],fun k q z e d=>?_,fun z d=>by rcases List.mem_append.1 d with d|d;exact h.short z d;rw[List.mem_singleton]at d;subst d;exact m⟩;rcases Nat.lt_or_ge k X.length with g|g
 ·rw[List.getElem?_append_left g]at d;exact h.row k q z e d
 rw[List.getElem?_append_right g]at d
 have hk:k - X.length=0:=by
   have:=(List.getElem?_eq_some_iff.1 d).1;simp only[List.length_singleton]at this;omega
 rw[hk]at d;simp only[List.getElem?_cons_zero,Option.some.injEq]at d;subst d;have v:k=i:=by have:=h.len;omega
 subst v;rw[A]at e;simp only[Option.some.injEq]at e;subst e;exact x
theorem GrI.done {S:List RSt} {ks:List (Str×Nat)} {X:List Grw} (m:Frm ks S) (q:∀ z∈S,z.1∈ks.map (·.1)) (A:(ks.map (·.1)).Nodup) (h:GrI S (bg_ (ks.map (·.1))) X (bg_ (ks.map (·.1))).length):GrO S (bg_ (ks.map (·.1))) (X.map Grw.st):=by
 refine⟨by rw[List.length_map,h.len],SrS.nd (iC_ A),fun r=>?_,fun i r l x hl j c=>?_⟩
 ·rw[List.mem_mergeSort]
  constructor
  ·exact m r
  rintro ⟨s,c,v⟩;exact q _ v
 rw[List.getElem?_map,Option.map_eq_some_iff]at hl;obtain⟨y,B,rfl⟩:=hl;rw[h.row i r y x B j c];constructor
 ·rintro ⟨s,d,k,e⟩;rw[List.mem_mergeSort,nZ_]at d;exact⟨s,k,d,e⟩
 rintro ⟨s,d,k,e⟩;exact⟨s,by rw[List.mem_mergeSort,nZ_];exact k,d,e⟩
theorem xv_:ij_ Tryz.prog 160 [(0,1),(1,1)] [.int .i64 0,.bool false]:=⟨_,Tryz.zeroValue160,cM_,fun w=>by simp[av_,ef_]⟩
theorem py_:ij_ Tryz.prog 164 [(0,1),(1,1),(2,1),(3,1)] [.int .i64 0,.bool false,.int .i64 0,.int .i64 0]:=⟨_,oF_,cL_,fun w=>by simp[av_,ef_]⟩
theorem yC_:Elt Tryz.prog 156 160 2 16:=iV_ Tryz.underlying156 (z:=.agg #[.int .i64 0,.bool false]) zw_ rfl zx_
theorem yB_:Elt Tryz.prog 101 156 1 24:=iV_ Tryz.underlying101 (z:=.slice none 0 0) zw_ rfl zx_
theorem wF_:Elt Tryz.prog 165 164 4 32:=iV_ Tryz.underlying165 (z:=.agg #[.int .i64 0,.bool false,.int .i64 0,.int .i64 0]) zw_ rfl zx_
theorem wr_ (s:Str):Fn0 Tryz.prog 153 #[str s] (.bool false):=by
  refine j_ Tryz.func153 rfl rfl Tryz.ntmps153 rfl fun d=>?_;refine Zz 9 ?_;refine e_ (aD_ (cZ_ rfl rfl) (show _=Value.bool false from congrArg Value.bool zC_)) rfl (Zz 4 ?_);exact af_ Tryz.results153 () rfl l_ zt
theorem uK_ (x y:Str):Fn0 Tryz.prog 152 #[str x,str y] (.bool (decide (x<y))):=by
  refine j_ Tryz.func152 rfl rfl Tryz.ntmps152 rfl fun e=>?_;refine Zz 8 ?_;refine i_ (pN_ x) rfl l_ zt rfl fun _=>Zz 11 ?_
  refine C_ (eB_ rfl rfl) rfl fun h d=>Zz 5 ?_
  exact af_ Tryz.results152 () (o_ rfl (by rw[← d])) l_ zt
theorem binS_c (R:List Str) (ad:Option Addr) (cap:Nat) (t:Str) (hS:SrS R) (hl:R.length≤100000000):Tri Tryz.prog 105 #[.slice ad (List.length R) cap,str t] [] [V_ ad (List.flatMap ap_ R)] (fun y:{y:Nat×Bool // (y.2=true→R[y.1]? = some t)∧(y.2=false→t ∉ R)}=>.tuple #[.int .i64 (y.1.1:Int),.bool y.1.2]) (fun _=>[]) (fun _=>[]):=by
 refine j_ Tryz.func105 rfl rfl Tryz.ntmps105 rfl fun Q=>?_;refine Zz 22 ?_;refine P_ (ι:={y:Nat×Nat // y.1≤y.2∧y.2≤List.length R∧(∀ (a:Nat) (z:Str),a<y.1→R[a]? = some z→z<t)∧(∀ (a:Nat) (z:Str),y.2≤a→R[a]? = some z→¬ z<t)}) (fun y=>[(0,.slice ad (List.length R) cap),(1,str t),(6,.int .i64 (List.length R:Int)),(7,.int .i64 (y.1.1:Int)),(8,.int .i64 (y.1.2:Int))]) (fun y=>([])) (fun y=>[V_ ad (List.flatMap ap_ R)]) (fun y=>y.1.2 - y.1.1) ⟨((0:Nat),(List.length R)),zr_,zr_,(fun a y h=>absurd h zu_),(fun a y h e=>by have:=(List.getElem?_eq_some_iff.1 e).1;dsimp only at h;omega)⟩ zl l_ zh ?_;rintro ⟨⟨lo,hi⟩,F,M,B,hB⟩;dsimp only at F M B hB ⊢;refine Zi 5 (fun A=>?_) fun A=>?_
 ·obtain rfl:lo=hi:=by omega
  refine Zi 10 (fun d=>?_) fun d=>?_
  ·refine Zz 24 ?_
   exact lg_ Tryz.results105 ⟨(lo,false),fun q=>zba_,fun _=>zn_ hS B hB (fun q=>by have:=(List.getElem?_eq_some_iff.1 q).1;omega)⟩ rfl rfl rfl l_ zt
  obtain⟨L,O,x,J⟩:=zge (show lo<List.length R by omega);refine Zi 12 (fun k=>?_) fun k=>?_
  ·refine Zz 11 ?_
   refine i_ (wr_ O) rfl l_ zt rfl fun _=>Zz 14 ?_
   exact lg_ Tryz.results105 ⟨(lo,false),fun q=>zba_,fun _=>zn_ hS B hB (fun q=>by rw[x]at q;exact k (Option.some.inj q))⟩ rfl rfl rfl l_ zt
  refine Zz 19 ?_;exact lg_ Tryz.results105 ⟨(lo,true),fun _=>by rw[x,k],fun q=>by cases q⟩ rfl rfl rfl l_ zt
 have G:(lo+hi) / 2<List.length R:=by omega
 have v:((lo+hi) / 2)<List.length R:=G;obtain⟨K,m⟩:∃ C,R[((lo+hi) / 2)]? = some C:=⟨_,List.getElem?_eq_getElem v⟩;have I:K∈R:=List.mem_of_getElem? m;refine Zz 10 ?_;refine e_ (aD_ (bj_ rfl rfl rfl (ce_ zr_ zr_)) (show _=Value.int .i64 ((lo+hi:Nat):Int) from congrArg _ zr_)) rfl (e_ (kk_ s_ oK_ rfl (vb_ zr_ zr_)) rfl (e_ (uU_ rfl rfl) rfl (e_ (kk_ oK_ s_ rfl (ce_ zr_ zr_)) rfl (Zz 10 ?_))));refine T_ (uK_ K t) rfl l_ zt rfl fun E d=>Zz 2 ?_
 cases E
 ·replace d:=zdf d
  refine Zz 6 ?_;exact y_ ⟨(lo,((lo+hi) / 2)),zr_,zr_,B,bs_hi hS m d⟩ zu_ zl l_ zh
 replace d:=zdt d;refine Zz 3 ?_;refine e_ (aD_ (bj_ rfl rfl rfl (ce_ zr_ zr_)) (show _=Value.int .i64 (((lo+hi) / 2+1:Nat):Int) from congrArg _ zr_)) rfl (Zz 3 ?_);exact y_ ⟨(((lo+hi) / 2+1),hi),zr_,M,bs_lo hS m d,hB⟩ zu_ zl l_ zh
end Go.Proofs.YtpbnmnfdgckaiaaGreatDoor
namespace Go.Proofs.YtpbnmnfdgckaiaaGreatDoor
open Go Go.Sx Go.Proofs
attribute [local irreducible] Code.wp wpList wpAnyH
open Go.Vs
theorem vn_ {ks:List (Str×Nat)} {k:Str} (h:k∈ks.map (·.1)):∃ b,hd_ ks k=some b:=by
  cases e:hd_ ks k with
  | none=>exact absurd h (je_ e)
  | some b=>exact⟨b,rfl⟩
theorem sA_ {S:List RSt} {r:Str}:(ik S r).length≤S.length:=by
  have h:(ik S r) ⊆ S.map (·.2.1):=fun s e=>by
    obtain⟨c,d⟩:=nZ_.1 e;exact List.mem_map.2 ⟨_,d,rfl⟩
  have:=(zl_ S r).length_le_of_subset h;rwa [List.length_map]at this
theorem sq_ (A:Nat) (ks:List (Str×Nat)) (S:List RSt) (Hx:Hp) (hT0:MmO A ks S Hx) (hF:Frm ks S) (hkl:ks.length≤100000) (hSl:S.length≤100000):Tri Tryz.prog 66 #[.map (some A)] Hx [] (fun y:{y:List Grw×Option Addr×Nat×Option Addr×Nat // GrO S (bg_ (List.map (fun p:Str×Nat=>p.1) ks)) (List.map Grw.st y.1)∧(∀ z∈y.1,z.st.length≤S.length)∧List.length y.1=List.length ks∧(List.length (bg_ (List.map (fun p:Str×Nat=>p.1) ks))≤y.2.2.1∧y.2.2.1≤maxLen∧(y.2.1=none→y.2.2.1=0))∧(List.length y.1≤y.2.2.2.2∧y.2.2.2.2≤maxLen∧(y.2.2.2.1=none→y.2.2.2.2=0))}=>.agg #[.slice y.1.2.1 (List.length (bg_ (List.map (fun p:Str×Nat=>p.1) ks))) y.1.2.2.1,.slice y.1.2.2.2.1 (List.length y.1.1) y.1.2.2.2.2]) (fun _=>[]) (fun y=>[V_ y.1.2.1 (List.flatMap ap_ (bg_ (List.map (fun p:Str×Nat=>p.1) ks))),V_ y.1.2.2.2.1 (List.flatMap Grw.cells y.1.1),if_ y.1.1]):=by
 obtain⟨es,Y,E,rfl,hE⟩:=hT0;refine j_ Tryz.func66 rfl rfl Tryz.ntmps66 rfl fun v_1=>?_;refine Zz 2 ?_;refine D_ Tryz.zeroValue103 rfl fun C=>Zz 5 ?_
 refine i_ (yl_ A) rfl l_ zt rfl fun bx=>?_;refine i_ (fz_ 151 [zp_ bx 0] [(bx,.cells #[.map (some A)] 105 (0,0)),(A,.map es Y)] (List.map (fun p:Str×Nat=>p.1) ks) hE.nd zaH_ (yq_ A bx Y es (List.map (fun p:Str×Nat=>p.1) ks) ⟨hE.keys,hE.nd⟩ hE.born zaH_)) rfl zp zt rfl fun⟨⟨rad,e⟩,b0,a7,a5⟩=>?_;dsimp only;have hrl:List.length (bg_ (List.map (fun p:Str×Nat=>p.1) ks))=List.length ks:=by rw[List.length_mergeSort,List.length_map]
 refine Zz 1 ?_;refine x_ 2 bI_ rfl rfl rfl rfl rfl rfl (Zz 12 ?_);refine u_ (f_ d_ (f_ (c_ d_) (f_ d_ ah_))) ?_;try simp only[List.append_nil]
 have hT:MmO A ks S ((A,.map es Y)::List.map (gD_ E) ks):=⟨es,Y,E,rfl,hE⟩;refine u_ (H':=((bx,.cells #[.map (some A)] 105 (0,0))::((C,.cells #[.slice rad (List.length (bg_ (List.map (fun p:Str×Nat=>p.1) ks))) e,.slice none 0 0] 103 (0,0))::(((A,.map es Y)::List.map (gD_ E) ks)++([]:Hp))))) (List.Perm.cons _ (List.Perm.cons _ (List.Perm.of_eq (List.append_nil _).symm))) ?_;refine P_ (ι:={y:Nat×List Grw×Value×Hp // y.1≤List.length (bg_ (List.map (fun p:Str×Nat=>p.1) ks))∧GrI S (bg_ (List.map (fun p:Str×Nat=>p.1) ks)) y.2.1 y.1∧zR 156 1 Grw.cells y.2.2.1 y.2.1 y.2.2.2}) (fun y=>[(0,.map (some A)),(2,zp_ C 0),(15,.slice rad (List.length (bg_ (List.map (fun p:Str×Nat=>p.1) ks))) e),(16,.int .i64 (List.length (bg_ (List.map (fun p:Str×Nat=>p.1) ks)):Int)),(17,.int .i64 (y.1.1:Int))]) (fun y=>((C,.cells #[.slice rad (List.length (bg_ (List.map (fun p:Str×Nat=>p.1) ks))) e,y.1.2.2.1] 103 (0,0))::(((A,.map es Y)::List.map (gD_ E) ks)++y.1.2.2.2))) (fun y=>[V_ rad (List.flatMap ap_ (bg_ (List.map (fun p:Str×Nat=>p.1) ks))),if_ y.1.2.1]) (fun y=>List.length (bg_ (List.map (fun p:Str×Nat=>p.1) ks)) - y.1.1) ⟨((0:Nat),([]:List Grw),(.slice none 0 0),([]:Hp)),by simp,GrI.nil,(aB_.nil _ _)⟩ zl zp (fun v _ h=>by exact⟨h.1,(show (if_ ([]:List Grw)).p v from fun z hz=>by simp at hz),trivial⟩) ?_;rintro ⟨⟨i,X,Q,G⟩,b2,O,K⟩;dsimp only at b2 O K ⊢;refine Zi 2 (fun H=>?_) fun H=>?_
 ·refine Zz 7 ?_
  refine aN_ K (c_ bf_) fun b9 R c0 a1 a8 a3=>?_;subst c0;refine Zz 2 ?_;refine x_ 0 Tryz.sizeOf103 rfl rfl rfl rfl rfl rfl (Zz 3 ?_);exact hi_ ⟨(X,rad,e,b9,R),(by rw[show i=List.length (bg_ (List.map (fun p:Str×Nat=>p.1) ks)) from by omega]at O;exact GrI.done hF hE.all hE.nd O),O.short,O.len.trans zr_,⟨b0,a7,a5⟩,⟨a1,a8,a3⟩⟩ (fun aa v h_1 h_2=>ex_ (us:=[.slice rad (List.length (bg_ (List.map (fun p:Str×Nat=>p.1) ks))) e,.slice b9 (List.length X) R]) 0 Tryz.results66 Tryz.isAgg103 Tryz.sizeOf103 rfl rfl rfl aa v h_1 h_2) l_ zf
 have I:i<List.length (bg_ (List.map (fun p:Str×Nat=>p.1) ks)):=by omega
 obtain⟨d,V⟩:∃ a6,(bg_ (List.map (fun p:Str×Nat=>p.1) ks))[i]? = some a6:=⟨_,List.getElem?_eq_getElem I⟩;have a0:d∈(bg_ (List.map (fun p:Str×Nat=>p.1) ks)):=List.mem_of_getElem? V;refine Zz 22 ?_;have hkm:d∈(List.map (fun p:Str×Nat=>p.1) ks):=List.mem_mergeSort.1 a0;obtain⟨bk,P⟩:=vn_ hkm;refine Zz 3 ?_;refine e_ (aD_ (ft_ (k:=d) bG_ dD_ ei_ hT rfl rfl zp) (congrArg mw_ P)) rfl (i_ (jl_ bk) rfl l_ zt rfl fun by_=>?_);obtain⟨b3,cb,Hr,U,W,b8,_⟩:=hT.at P;refine u_ (f_ d_ (f_ d_ (F_ bf_ ah_))) ?_;try simp only[List.append_nil]
 refine u_ (List.Perm.cons _ (List.Perm.cons _ (List.Perm.append_left G U))) (i_ (fz_ 96 [zp_ by_ 0] [(by_,.cells #[.map (some bk)] 33 (0,0)),(bk,.map b3 cb)] (ik S d) (zl_ S d) (by have:=sA_ (S:=S) (r:=d);omega) (jm_ bk by_ cb b3 (ik S d) ⟨W.keys,W.nd⟩ b8 (by have:=sA_ (S:=S) (r:=d);omega))) rfl (f_ d_ (c_ (g_ d_))) zt rfl fun⟨⟨sad,b1⟩,hss_1,hss_2,hss_3⟩=>?_);dsimp only;have hsl:List.length (bg_ (ik S d))=List.length (ik S d):=List.length_mergeSort _;have hil:=sA_ (S:=S) (r:=d);refine Zz 5 ?_;refine u_ (f_ d_ (f_ (c_ d_) (F_ (c_ t_) (f_ d_ ah_)))) ?_;try simp only[List.append_nil]
 refine u_ (List.Perm.cons _ (List.Perm.cons _ (List.Perm.append_left G U.symm))) (u_ (H':=((by_,.cells #[.map (some bk)] 33 (0,0))::((C,.cells #[.slice rad (List.length (bg_ (List.map (fun p:Str×Nat=>p.1) ks))) e,Q] 103 (0,0))::(G++(((A,.map es Y)::List.map (gD_ E) ks)++([]:Hp)))))) (List.Perm.cons _ (List.Perm.cons _ (List.Perm.append_left G (List.Perm.of_eq (List.append_nil _).symm)))) ?_);refine P_ (ι:={y:Nat×List (Nat×Bool)×Value×Hp // y.1≤List.length (bg_ (ik S d))∧GrR S (bg_ (List.map (fun p:Str×Nat=>p.1) ks)) d (List.take y.1 (bg_ (ik S d))) y.2.1∧List.length y.2.1≤y.1∧zR 160 2 rx_ y.2.2.1 y.2.1 y.2.2.2}) (fun y=>[(0,.map (some A)),(2,zp_ C 0),(15,.slice rad (List.length (bg_ (List.map (fun p:Str×Nat=>p.1) ks))) e),(16,.int .i64 (List.length (bg_ (List.map (fun p:Str×Nat=>p.1) ks)):Int)),(17,.int .i64 (i:Int)),(4,str d),(5,y.1.2.2.1),(25,.slice sad (List.length (bg_ (ik S d))) b1),(26,.int .i64 (List.length (bg_ (ik S d)):Int)),(27,.int .i64 (y.1.1:Int))]) (fun y=>((C,.cells #[.slice rad (List.length (bg_ (List.map (fun p:Str×Nat=>p.1) ks))) e,Q] 103 (0,0))::(G++(((A,.map es Y)::List.map (gD_ E) ks)++y.1.2.2.2)))) (fun y=>[V_ sad (List.flatMap ap_ (bg_ (ik S d))),V_ rad (List.flatMap ap_ (bg_ (List.map (fun p:Str×Nat=>p.1) ks))),if_ X]) (fun y=>List.length (bg_ (ik S d)) - y.1.1) ⟨((0:Nat),([]:List (Nat×Bool)),(.slice none 0 0),([]:Hp)),by simp,(by rw[List.take_zero];exact GrR.nil),zC_,(aB_.nil _ _)⟩ zl zp zh ?_;rintro ⟨⟨j,L,a9,b7⟩,c1,hL,hLl,m⟩;dsimp only at c1 hL hLl m ⊢;refine Zi 2 (fun M=>?_) fun M=>?_
 ·refine Zz 6 ?_
  refine aN_ m (c_ (g_ bf_)) fun lad lcap b5 hclad hmlad hzlad=>?_;subst b5;refine Zz 4 ?_;refine R_ cQ_ Tryz.sizeOf156 Tryz.zeroValue156 rfl rfl rfl rfl rfl rfl fun b_2=>?_;refine ay_ (news:=List.flatMap Grw.cells [(Grw.mk L lad lcap)]) yB_ K rfl rfl (c_ (c_ t_)) rfl (be_ 0 rfl) (fun u hu=>ak_ Grw.cells_one hu) zam_ zax_ rfl fun F N H=>?_;have B:=zsa H;refine Zz 1 ?_;refine u_ (Y_ (g_ d_) (bq_ (g_ d_))) (dF_ 1 B Tryz.sizeOf101 rfl rfl rfl rfl (Zz 7 ?_));exact y_ ⟨(i+1,(X++[(Grw.mk L lad lcap)]),F,N),I,O.snoc V (by have q:=hL;rw[List.take_of_length_le zr_]at q;exact q) zu_,B⟩ zu_ zl (f_ (c_ d_) (F_ (c_ bf_) B_)) (fun v _ h=>by exact⟨h.2.2.1,sB_ h.2.2.2.1 h.1,trivial⟩)
 have x:j<List.length (bg_ (ik S d)):=by omega
 obtain⟨a2,J⟩:∃ a6,(bg_ (ik S d))[j]? = some a6:=⟨_,List.getElem?_eq_getElem x⟩;have hms_1:a2∈(bg_ (ik S d)):=List.mem_of_getElem? J;refine Zz 20 ?_;refine i_ (binS_c (bg_ (List.map (fun p:Str×Nat=>p.1) ks)) rad e a2 (iC_ hE.nd) zr_) rfl l_ zf rfl fun⟨⟨b4,b6⟩,T,Z⟩=>?_;dsimp only;dsimp only at T Z;refine Zz 12 ?_;cases b6
 ·refine Zz 8 ?_
  exact y_ ⟨(j+1,L,a9,b7),x,(by rw[take_snoc J];exact hL.no (Z rfl)),zu_,m⟩ zu_ zl zp zh
 refine Zz 6 ?_;refine e_ (aD_ (ft_ (k:=d) bG_ dD_ ei_ hT rfl rfl zp) (congrArg mw_ P)) rfl (Zz 1 ?_);refine C_ (jG_ (k:=d) (s:=a2) bG_ S_ aM_ hT P rfl rfl zp) rfl fun c2 d0=>e_ (K_ xv_ rfl rfl) rfl (R_ co_ Tryz.sizeOf160 Tryz.zeroValue160 rfl rfl rfl rfl rfl rfl fun b_2=>?_)
 refine ay_ (news:=List.flatMap rx_ [(Prod.mk b4 c2)]) yC_ m rfl rfl (c_ (c_ (g_ bf_))) rfl (be_ 0 rfl) (fun u hu=>ak_ wE_ hu) zam_ zax_ rfl fun F N M=>?_;have B:=zsa M;refine Zz 3 ?_;refine u_ (Y_ (g_ d_) (bq_ (g_ d_))) (Zz 5 ?_);exact y_ ⟨(j+1,(L++[(Prod.mk b4 c2)]),F,N),x,(by rw[take_snoc J,← d0];exact hL.yes (SrS.nd (iC_ hE.nd)) (T rfl)),zaO_,B⟩ zu_ zl zp zh
end Go.Proofs.YtpbnmnfdgckaiaaGreatDoor
