/-
  Part of the proof of the law CanonAsksSpec over this seat: the small logic, the data, the contracts of functions (no condition).
-/
import Derived.Test.YtpbnmnfdgckaiaaGreatDoorQCanonAsksSpec9
import Derived.Test.YtpbnmnfdgckaiaaGreatDoorQCanonAsksSpec8
import Derived.Shelf.SlSortCmp.NoneTotal
import Derived.Test.YtpbnmnfdgckaiaaGreatDoorProg
import Derived.Test.YtpbnmnfdgckaiaaGreatDoorQCanonAsksSpec7
import Derived.Test.YtpbnmnfdgckaiaaGreatDoorQCanonAsksSpec6
import Derived.Test.YtpbnmnfdgckaiaaGreatDoorQCanonAsksSpec2
import Derived.Lib.Bytealg
import Derived.Lib.Small
import Derived.Test.YtpbnmnfdgckaiaaGreatDoorQCanonAsksSpec3
set_option linter.unusedVariables false
set_option linter.unusedSimpArgs false
set_option linter.unusedSectionVars false
set_option maxHeartbeats 1000000
namespace Go.Proofs.YtpbnmnfdgckaiaaGreatDoor
open Go Go.Sx Go.Proofs
attribute [local irreducible] Code.wp wpList wpAnyH
open Go.Vs
theorem lC_ (x:Pc) (ro at':Str) (B:List (Ky×Pc)) (E C:Nat) (g pb kb ab ub ob ib rb sb fb:Nat) (ev:Value) (lv:Value) (L:Hp) (hm:cS_ Ky.val Pc.cells 174 10 B pb L) (I:B.length≤1000000000):Tri Tryz.prog 161 #[str ro,str at',zp_ E 0,zp_ C 0] ((E,.cells #[.int .i64 x.kind,str x.a,str x.b,str x.c,str x.r,str x.s,str x.t,.int .i64 x.lo,.int .i64 x.hi,.int .i64 x.frm] 174 (0,0))::(C,.cells #[zp_ g 0] 116 (0,0))::(g,.cells #[.map (some pb),lv,.map (some kb),ev,.map (some ab),.map (some ub),.map (some ob),.map (some ib),.map (some rb),.map (some sb),.map (some fb)] 124 (0,0))::L) [] (fun _:{H:Hp // cS_ Ky.val Pc.cells 174 10 (B++[((Ky.mk x.kind ro at'),x)]) pb H}=>.tuple #[]) (fun y=>(E,.cells #[.int .i64 x.kind,str x.a,str x.b,str x.c,str x.r,str x.s,str x.t,.int .i64 x.lo,.int .i64 x.hi,.int .i64 x.frm] 174 (0,0))::(C,.cells #[zp_ g 0] 116 (0,0))::(g,.cells #[.map (some pb),lv,.map (some kb),ev,.map (some ab),.map (some ub),.map (some ob),.map (some ib),.map (some rb),.map (some sb),.map (some fb)] 124 (0,0))::y.1) (fun _=>[]):=by
  refine i_ Tryz.func161 rfl rfl Tryz.ntmps161 rfl fun U=>?_;refine Zz 6 ?_;refine e_ (J_ eE_ rfl rfl) rfl (E_ Tryz.zeroValue208 rfl fun F=>z_ 0 Tryz.sizeOf208 rfl rfl rfl rfl rfl rfl (Zz 2 ?_));refine ah_ ((F,.cells #[.int .i64 x.kind,str ro,str at'] 208 (0,0))::((E,.cells #[.int .i64 x.kind,str x.a,str x.b,str x.c,str x.r,str x.s,str x.t,.int .i64 x.lo,.int .i64 x.hi,.int .i64 x.frm] 174 (0,0))::((C,.cells #[zp_ g 0] 116 (0,0))::((g,.cells #[.map (some pb),lv,.map (some kb),ev,.map (some ab),.map (some ub),.map (some ob),.map (some ib),.map (some rb),.map (some sb),.map (some fb)] 124 (0,0))::[])))) zk ?_;refine t_ 6 [0,1,2,3,4,5] zk zs (Zz 7 ?_);refine o_ 6 rfl zk (X_ D_ F_ T_ rfl rfl rfl rfl rfl rfl fun V=>Zz 2 ?_);refine R_ zs (o_ 7 rfl zk ?_);have J:=Nat.le_trans (dB_ B (Ky.mk x.kind ro at')) I;refine fh_ (k:=(Ky.mk x.kind ro at')) hM_ hm bI_ bP_ rfl rfl (c_ (c_ (c_ (c_ H_)))) rfl fun Q S P M N R T h q=>Zz 2 ?_
  refine R_ (fun _ a b=>⟨Vw.sat.sub (a.perm (l_ (c_ (g_ (g_ (c_ d_)))) (l_ (c_ (g_ (g_ (c_ d_)))) (l_ (c_ (g_ (g_ (c_ d_)))) (c_ (g_ (g_ (c_ d_)))))))),b⟩) (t_ 2 [8,10] zk (fun _ a b=>⟨Vw.sat.sub (a.perm (l_ (c_ (g_ (g_ (c_ d_)))) (l_ (c_ (g_ (g_ (c_ d_)))) (l_ (c_ (g_ (g_ (c_ d_)))) (c_ (g_ (g_ (c_ d_)))))))),b⟩) (Zz 3 ?_));refine o_ 9 rfl zk (am_ (news:=List.flatMap Pc.cells [x]) wv_ q rfl rfl zp rfl (fe_ zp) (fun u W=>aE_ Pc.cells_one W) zm_ za_ rfl fun O K A=>?_);have e:=zsa A;refine Zz 2 ?_;refine R_ (fun _ a b=>⟨Vw.sat.sub (a.perm (l_ (g_ (c_ (g_ (c_ d_)))) (l_ (g_ (c_ (g_ (c_ d_)))) (l_ (g_ (c_ (g_ (c_ d_)))) (g_ (c_ (g_ (c_ d_)))))))),b⟩) (o_ 11 rfl zk (cX_ (k:=(Ky.mk x.kind ro at')) (dd:=x) h (by rw[ef_];exact e) rfl rfl rfl (ed_ (l_ (g_ d_) (B_ y_ y_))) fun G d=>?_));refine Zz 2 ?_;refine R_ zs (Zz 2 ?_);exact cp_ Tryz.results161 ⟨G,d⟩ rfl zp zt
theorem hT_ {G:Prop} (h:G:=by
 have q:lps=lps++aw_ [x]:=by simp[aw_, *]
 exact cp_ Tryz.results114 ⟨(lv,e,I),h▸d,q▸hl⟩ rfl zp zt):G:=h
theorem hU_ {G:Prop} (h:G:=by
 have q:lps=lps++aw_ [x]:=by simp[aw_, *]
 exact cp_ Tryz.results114 ⟨(lv,E,I),h▸G,q▸hl⟩ rfl zp zt):G:=h
theorem ll_ {G:Prop} (h:G:=by
 refine ao_ (lC_ x x.r [] A C B g pb kb ab ub ob ib rb sb fb ev lv H hm zs_) rfl rfl zp zt rfl fun⟨e,d⟩=>?_;dsimp only;simp only[List.cons_append];refine Zz 2 ?_;have h:(A++[((Ky.mk x.kind x.r []),x)])=A++da_ x:=by simp[da_, *]
 exact hT_):G:=h
theorem lm_ {G:Prop} (h:G:=by
 refine Zz 2 ?_;refine R_ zs (t_ 1 [9,10] zk zs (Zz 3 ?_));refine o_ 11 rfl zk (C_ (W_ (g_ d_) (W_ (g_ d_) (W_ (g_ d_) (bj_ (g_ d_))))) (dM_ 3 F ck_ rfl rfl rfl rfl (Zz 2 ?_)));refine R_ (fun _ a b=>⟨Vw.sat.sub (a.perm (l_ (c_ d_) (c_ d_))),b⟩) (Zz 2 ?_);have h:A=A++da_ x:=by simp[da_, *]
 have q:(lps++[x.r])=lps++aw_ [x]:=by simp[aw_, *]
 exact cp_ Tryz.results114 ⟨(K,H,J),h▸hm,q▸F⟩ rfl (l_ (c_ (c_ (c_ d_))) (B_ (c_ (c_ (c_ aX_))) (c_ (c_ H_)))) zt):G:=h
theorem hV_ {G:Prop} (h:G:=by
 refine ao_ (lC_ x [] x.a A C B g pb kb ab ub ob ib rb sb fb ev lv H hm zs_) rfl rfl zp zt rfl fun⟨e,d⟩=>?_;dsimp only;simp only[List.cons_append];refine Zz 2 ?_;have h:(A++[((Ky.mk x.kind [] x.a),x)])=A++da_ x:=by simp[da_, *]
 exact hT_):G:=h
theorem uy_ (x:Pc) (A:List (Ky×Pc)) (lps:List Str) (g pb kb ab ub ob ib rb sb fb:Nat) (ev:Value) (lv:Value) (H I:Hp) (hm:cS_ Ky.val Pc.cells 174 10 A pb H) (hl:zR 9 1 ak_ lv lps I) (X:A.length≤900000000) (Y:lps.length≤900000000):Tri Tryz.prog 114 #[zp_ g 0,Pc.val x] ((g,.cells #[.map (some pb),lv,.map (some kb),ev,.map (some ab),.map (some ub),.map (some ob),.map (some ib),.map (some rb),.map (some sb),.map (some fb)] 124 (0,0))::(H++I)) [] (fun _:{y:Value×Hp×Hp // cS_ Ky.val Pc.cells 174 10 (A++da_ x) pb y.2.1∧zR 9 1 ak_ y.1 (lps++aw_ [x]) y.2.2}=>.tuple #[]) (fun y=>(g,.cells #[.map (some pb),y.1.1,.map (some kb),ev,.map (some ab),.map (some ub),.map (some ob),.map (some ib),.map (some rb),.map (some sb),.map (some fb)] 124 (0,0))::(y.1.2.1++y.1.2.2)) (fun _=>[]):=by
 refine i_ Tryz.func114 rfl rfl Tryz.ntmps114 rfl fun W=>?_;refine Zz 2 ?_;refine V_ rfl rfl fun B=>V_ rfl rfl fun C=>Zz 4 ?_
 refine e_ (bF_ rfl rfl) rfl (Zi 13 (fun N=>?_) fun N=>?_)
 ·refine Zi 6 (fun L=>?_) fun L=>?_
  ·refine Zi 5 (fun T=>?_) fun T=>?_
   ·refine Zi 6 (fun Q=>?_) fun Q=>?_
    ·refine Zi 6 (fun M=>?_) fun M=>?_
     ·refine Zi 7 (fun R=>?_) fun R=>?_
      ·refine Zi 5 (fun S=>?_) fun S=>?_
       ·refine Zi 6 (fun P=>?_) fun P=>?_
        ·refine Zi 6 (fun O=>?_) fun O=>?_
         ·refine Zz 6 ?_
          have h:A=A++da_ x:=by simp[da_, *]
          have q:lps=lps++aw_ [x]:=by simp[aw_, *]
          exact cp_ Tryz.results114 ⟨(lv,H,I),h▸hm,q▸hl⟩ rfl zp zt
         refine Zz 4 ?_;refine ah_ ((C,.cells #[.int .i64 x.kind,str x.a,str x.b,str x.c,str x.r,str x.s,str x.t,.int .i64 x.lo,.int .i64 x.hi,.int .i64 x.frm] 174 (0,0))::((B,.cells #[zp_ g 0] 116 (0,0))::[])) zk ?_;refine t_ 6 [0,1,2,3,5,6] zk zs (Zz 7 ?_);refine gC_ 4 7 rfl rfl zk ?_ ?_
         ·refine Zz 3 ?_
          refine R_ zs (o_ 7 rfl zk (X_ n_ I_ az_ rfl rfl rfl rfl rfl rfl fun U=>Zz 2 ?_));refine R_ zs (o_ 8 rfl zk (am_ (news:=List.flatMap ak_ [x.r]) cP_ hl rfl rfl zp rfl (aR_ 0 rfl) (fun u V=>aE_ cm_ V) (by simp only[maxLen];first|omega|(simp;omega)) zs_ rfl fun K J N=>?_));have F:=zsa N;exact lm_
         refine X_ n_ I_ az_ rfl rfl rfl rfl rfl rfl fun U=>Zz 2 ?_
         refine R_ zs (o_ 4 rfl zk (Zz 3 ?_));refine R_ zs (o_ 8 rfl zk (am_ (news:=List.flatMap ak_ [x.r]) cP_ hl rfl rfl zp rfl (aR_ 0 rfl) (fun u V=>aE_ cm_ V) (by simp only[maxLen];first|omega|(simp;omega)) zs_ rfl fun K J L=>?_));have F:=zsa L;exact lm_
        refine Zz 9 ?_;refine ao_ (lC_ x x.r [] A C B g pb kb ab ub ob ib rb sb fb ev lv H hm zs_) rfl rfl zp zt rfl fun⟨e,d⟩=>?_;dsimp only;simp only[List.cons_append];refine Zz 6 ?_;refine ao_ (lC_ x [] x.s (A++[((Ky.mk x.kind x.r []),x)]) C B g pb kb ab ub ob ib rb sb fb ev lv e d zs_) rfl rfl zp zt rfl fun⟨E,G⟩=>?_;dsimp only;simp only[List.cons_append];refine Zz 2 ?_;have h:((A++[((Ky.mk x.kind x.r []),x)])++[((Ky.mk x.kind [] x.s),x)])=A++da_ x:=by simp[da_, *]
        exact hU_
       refine Zz 8 ?_;exact ll_
      refine Zz 11 ?_;exact ll_
     refine Zz 9 ?_;refine ao_ (lC_ x [] x.a A C B g pb kb ab ub ob ib rb sb fb ev lv H hm zs_) rfl rfl zp zt rfl fun⟨e,d⟩=>?_;dsimp only;simp only[List.cons_append];refine Zz 8 ?_;refine ao_ (lC_ x x.r x.a (A++[((Ky.mk x.kind [] x.a),x)]) C B g pb kb ab ub ob ib rb sb fb ev lv e d zs_) rfl rfl zp zt rfl fun⟨E,G⟩=>?_;dsimp only;simp only[List.cons_append];refine Zz 2 ?_;have h:((A++[((Ky.mk x.kind [] x.a),x)])++[((Ky.mk x.kind x.r x.a),x)])=A++da_ x:=by simp[da_, *]
     exact hU_
    refine Zz 9 ?_;refine ao_ (lC_ x [] x.a A C B g pb kb ab ub ob ib rb sb fb ev lv H hm zs_) rfl rfl zp zt rfl fun⟨e,d⟩=>?_;dsimp only;simp only[List.cons_append];refine Zi 8 (fun M=>?_) fun M=>?_
    ·refine Zz 5 ?_
     have h:(A++[((Ky.mk x.kind [] x.a),x)])=A++da_ x:=by simp[da_, *]
     exact hT_
    refine Zz 7 ?_;refine ao_ (lC_ x [] x.b (A++[((Ky.mk x.kind [] x.a),x)]) C B g pb kb ab ub ob ib rb sb fb ev lv e d zs_) rfl rfl zp zt rfl fun⟨E,G⟩=>?_;dsimp only;simp only[List.cons_append];refine Zz 2 ?_;have h:((A++[((Ky.mk x.kind [] x.a),x)])++[((Ky.mk x.kind [] x.b),x)])=A++da_ x:=by simp[da_, *]
    exact hU_
   refine Zz 8 ?_;exact hV_
  refine Zz 11 ?_;exact hV_
 refine Zz 11 ?_;exact hV_
structure NewE where
  g:Nat
  pb:Nat
  kb:Nat
  ab:Nat
  ub:Nat
  ob:Nat
  ib:Nat
  rb:Nat
  sb:Nat
  fb:Nat
  lv:Value
  hm:Hp
  hl:Hp
def NewE.ok (ps:List Pc) (y:NewE):Prop:=cS_ Ky.val Pc.cells 174 10 (aM_ ps) y.pb y.hm∧zR 9 1 ak_ y.lv (aw_ ps) y.hl
def NewE.own (y:NewE):Hp:=(y.g,.cells #[.map (some y.pb),y.lv,.map (some y.kb),.nilFunc,.map (some y.ab),.map (some y.ub),.map (some y.ob),.map (some y.ib),.map (some y.rb),.map (some y.sb),.map (some y.fb)] 124 (0,0))::(y.kb,.map #[] 0)::(y.ab,.map #[] 0)::(y.ub,.map #[] 0)::(y.ob,.map #[] 0)::(y.ib,.map #[] 0)::(y.rb,.map #[] 0)::(y.sb,.map #[] 0)::(y.fb,.map #[] 0)::(y.hm++y.hl)
theorem fK_ {p:List Pc} {i:Nat} {x:Pc} (h:p[i]? = some x):uniq [] (List.take (i+1) p)=if x.zf∈uniq [] (List.take i p) then uniq [] (List.take i p) else uniq [] (List.take i p)++[x.zf]:=by
  have d:∀ (l:List Pc) (r:List Pc),uniq l (r++[x])=if x.zf∈uniq l r then uniq l r else uniq l r++[x.zf]:=by
    intro l r
    induction r generalizing l with
    | nil=>rfl
    | cons y r ih=>exact ih _
  rw[List.take_add_one,h,Option.toList_some];exact d _ _
theorem tU_ (l:List Pc) (x:Pc):aM_ (l++[x])=aM_ l++da_ x:=by simp[aM_]
theorem pn_ (l:List Pc) (x:Pc):aw_ (l++[x])=aw_ l++aw_ [x]:=by simp[aw_]
theorem vA_ (x:Pc):(da_ x).length≤2:=by unfold da_;(repeat' split)<;>simp
theorem mZ_:∀ l:List Pc,(aM_ l).length≤2*l.length
  | []=>by simp[aM_]
  | x::l=>by
    have:=mZ_ l;have d:=vA_ x;simp only[aM_,List.flatMap_cons,List.length_append,List.length_cons]at this ⊢;omega
theorem lG_ (l:List Pc):(aw_ l).length≤l.length:=by
  simp only[aw_,List.length_map];exact List.length_filter_le _ _
theorem qJ_ (p:List Pc) (J:Option Addr) (O:Nat) (hp:p.length≤100000000):Tri Tryz.prog 72 #[.slice J (List.length p) O] [] [ai_ J (List.flatMap Pc.cells p)] (fun y:{y:NewE // y.ok (uniq [] p)}=>zp_ y.1.g 0) (fun y=>y.1.own) (fun _=>[]):=by
 refine i_ Tryz.func72 rfl rfl Tryz.ntmps72 rfl fun v_1=>?_;refine Zz 7 ?_;refine ba_ rfl fun C=>ba_ rfl fun M=>ba_ rfl fun G=>ba_ rfl fun F=>ba_ rfl fun I=>ba_ rfl fun H=>ba_ rfl fun K=>ba_ rfl fun N=>ba_ rfl fun L=>e_ (J_ xk_ rfl rfl) rfl ?_
 refine V_ rfl rfl fun A=>Zz 5 ?_
 refine ba_ rfl fun P=>Zz 12 ?_
 refine K_ (ι:={y:Nat×Array MapEntry×Nat×Hp×Value×Hp // y.1≤List.length p∧SetE Pc.val y.2.1 (uniq [] (List.take y.1 p))∧cS_ Ky.val Pc.cells 174 10 (aM_ (uniq [] (List.take y.1 p))) C y.2.2.2.1∧zR 9 1 ak_ y.2.2.2.2.1 (aw_ (uniq [] (List.take y.1 p))) y.2.2.2.2.2}) (fun y=>[(3,zp_ A 0),(4,.map (some P)),(19,.slice J (List.length p) O),(20,.int .i64 (List.length p:Int)),(21,.int .i64 (y.1.1:Int))]) (fun y=>((A,.cells #[.map (some C),y.1.2.2.2.2.1,.map (some M),.nilFunc,.map (some G),.map (some F),.map (some I),.map (some H),.map (some K),.map (some N),.map (some L)] 124 (0,0))::((P,.map y.1.2.1 y.1.2.2.1)::((M,.map #[] 0)::((G,.map #[] 0)::((F,.map #[] 0)::((I,.map #[] 0)::((H,.map #[] 0)::((K,.map #[] 0)::((N,.map #[] 0)::((L,.map #[] 0)::(y.1.2.2.2.1++y.1.2.2.2.2.2)))))))))))) (fun y=>[ai_ J (List.flatMap Pc.cells p)]) (fun y=>List.length p - y.1.1) ⟨((0:Nat),#[],0,[(C,.map #[] 0)],(.slice none 0 0),[]),by simp,by exact SetE.nil,by exact cS_.nil _ _,(ax_.nil 9 1)⟩ zl zp zh ?_;rintro ⟨⟨i,es,cs,Hm,E,Q⟩,hi,hE,hm,e⟩;dsimp only at hi hE hm e ⊢;have hbu:=jN_ (List.take i p) [];have hbt:=List.length_take_le i p;simp only[List.length_nil]at hbu;have a1:(aM_ (uniq [] (List.take i p))).length≤900000000:=by have:=mZ_ (uniq [] (List.take i p));omega
 have hbl:(aw_ (uniq [] (List.take i p))).length≤900000000:=by have:=lG_ (uniq [] (List.take i p));omega
 refine Zi 2 (fun Z=>?_) fun Z=>?_
 ·refine Zz 13 ?_
  have a0:List.take i p=p:=List.take_of_length_le za_;rw[a0]at hm e;exact Y_ Tryz.results72 ⟨NewE.mk A C M G F I H K N L E Hm Q,hm,e⟩ rfl (l_ d_ (l_ (c_ d_) (l_ (c_ d_) (l_ (c_ d_) (l_ (c_ d_) (l_ (c_ d_) (l_ (c_ d_) (l_ (c_ d_) (l_ (c_ d_) (B_ (c_ y_) H_)))))))))) zt
 obtain⟨B,R,d,hmx_1⟩:=zge (show i<List.length p by omega);refine Zz 12 ?_;refine E_ T_ rfl fun b_12=>z_ 0 F_ rfl rfl rfl rfl rfl rfl (Zz 5 ?_)
 refine z_ 0 au_ rfl rfl rfl rfl rfl rfl (Zz 6 ?_);refine G_ (bt_ (k:=Pc.zf R) (q:=(uniq [] (List.take i p))) wb_ jg_ aA_ rfl rfl hE (fun v h _=>(h.own _ (List.mem_of_getElem? (i:=2) rfl)).1)) rfl fun r_1 x=>e_ (as_ rfl) rfl (Zz 2 ?_)
 cases r_1
 ·replace x:=zdf x
  refine Zz 5 ?_;refine ne_ (k:=Pc.zf R) (q:=(uniq [] (List.take i p))) 2 wb_ (.inr rfl) jg_ rfl rfl rfl rfl hE fun Y c_1 X=>Zz 5 ?_
  refine j_ (uy_ R.zf (aM_ (uniq [] (List.take i p))) (aw_ (uniq [] (List.take i p))) A C M G F I H K N L .nilFunc E Hm Q hm e  a1 hbl) rfl (l_ (c_ d_) (B_ (c_ (c_ (c_ (c_ (c_ (c_ (c_ (c_ (c_ (c_ y_)))))))))) (c_ (c_ (c_ (c_ (c_ (c_ (c_ (c_ (c_ H_))))))))))) zt rfl fun⟨⟨U,S,T⟩,W,V⟩=>?_;dsimp only;simp only[List.cons_append,List.append_assoc];refine Zz 2 ?_;refine C_ (W_ d_ (W_ (g_ (g_ d_)) (W_ (g_ (g_ d_)) (W_ (g_ (g_ d_)) (W_ (g_ (g_ d_)) (W_ (g_ (g_ d_)) (W_ (g_ (g_ d_)) (W_ (g_ (g_ d_)) (W_ (g_ (g_ d_)) (W_ (g_ (g_ d_)) (bj_ (g_ aX_)))))))))))) (Zz 5 ?_);exact x_ ⟨(i+1,Y,c_1,S,U,T),B,by rw[fK_ d];exact X,by rw[fK_ d,if_neg zi_,tU_];exact W,(by rw[fK_ d,if_neg zi_,pn_];exact V)⟩ zb_ zl zp zh
 replace x:=zdt x;refine Zz 8 ?_;exact x_ ⟨(i+1,es,cs,Hm,E,Q),B,by rw[fK_ d,if_pos zi_];exact hE,by rw[fK_ d,if_pos zi_];exact hm,(by rw[fK_ d,if_pos zi_];exact e)⟩ zb_ zl (l_ (c_ d_) (l_ (c_ d_) (l_ (c_ d_) (l_ (c_ d_) (l_ (c_ d_) (l_ (c_ d_) (l_ (c_ d_) (l_ (c_ d_) (l_ (c_ d_) (l_ (c_ d_) (B_ (c_ y_) H_))))))))))) zh
theorem mv_ {P:Program} {N:Nf} {fr:Fr} {H:Hp} {Γ:List Fct} {ty:TypeId} {K:Type} [DecidableEq K] {e:K→Value} {t h B:TypeId} {x:Operand} {d c:Nat} {es:Array MapEntry} {q:List K} (hE:SetE e es q) (A:∀ w,(underlying t).run P w=.ok (.map h B) w) (y:Fr.ev fr x=some (.map (some d))) (hm:∀ v,v.sat H→ac_ Γ v→v.w.heap[d]? = some (.map es c)) :
    Yld P N fr H Γ (.call ⟨.builtin .len,#[x],#[t]⟩) ty (.int .i64 (q.length:Int)):=by
  rw[← hE.size];exact uF_ A y hm
def andF (a b:Fct):Fct where
  p v:=a.p v∧b.p v
  mono:=fun v v' h ⟨h1,h2⟩=>⟨a.mono v v' h h1,b.mono v v' h h2⟩
def StA (b9 kb fb:Nat) (nw fm:List Fc) (H:Hp):Prop:=∃ sv es c es' c' q Hq,H=(b9,.cells #[sv] 26 (0,0))::(kb,.map es c)::([(fb,.map es' c')]++Hq)∧ax_ 36 6 sv nw.length (nw.flatMap Fc.cells) Hq∧SetE Fc.val es nw∧SetE Fc.val es' q∧∀ f,f∈q↔f∈fm
theorem lk_ {G:Prop} (h:G:=by
 have d:bo_ m f nw=nw:=by unfold bo_;rw[if_neg (by rintro ⟨T,E⟩;first|omega|exact absurd zi_ E)]
 exact cp_ Tryz.results73 ⟨_,sv,es,c,A,L,q,K,rfl,by rw[d];exact O,by rw[d];exact hE,S,Q⟩ rfl zp zt):G:=h
theorem yh_ (f:Fc) (nw fm:List Fc) (m:Nat) (hm:m≤65536) (g V U M kb fb:Nat) (W X c3 c4 c5 c6 c7 c8 c9 R sv:Value) (es A:Array MapEntry) (c L:Nat) (q:List Fc) (K:Hp) (O:ax_ 36 6 sv nw.length (nw.flatMap Fc.cells) K) (hE:SetE Fc.val es nw) (S:SetE Fc.val A q) (Q:∀ f,f∈q↔f∈fm):Tri Tryz.prog 73 #[Fc.val f,zp_ V 0,zp_ U 0,zp_ M 0] ((M,.cells #[sv] 26 (0,0))::(kb,.map es c)::([(fb,.map A L)]++K)) [bU_ V (.cells #[zp_ g 0] 116 (0,0)),bU_ U (.cells #[.int .i64 (m:Int)] 3 (0,0)),bU_ g (.cells #[W,X,.map (some kb),c3,c4,c5,c6,c7,c8,c9,R] 124 (0,0))] (fun _:{H:Hp // StA M kb fb (bo_ m f nw) fm H}=>.tuple #[]) (fun y=>y.1) (fun _=>[]):=by
 refine i_ Tryz.func73 rfl rfl Tryz.ntmps73 rfl fun Y=>?_;refine Zz 2 ?_;refine V_ rfl rfl fun N=>Zz 4 ?_
 refine t_ 8 [0,1,2,3,4,5,6,7] zk zs (Zz 4 ?_);refine N_ rfl (mv_ hE bg_ rfl (fun v h _=>(h.own _ (List.mem_of_getElem? (i:=2) rfl)).1)) rfl (Zi 1 (fun x=>?_) fun x=>?_)
 ·refine Zz 2 ?_
  refine t_ 0 [8,9,10,11,12,13,14,15] zk zs (Zz 14 ?_);exact lk_
 refine Zz 2 ?_;refine t_ 0 [8,9,10,11,12,13,14,15] zk zs (Zz 5 ?_);refine bG_ rfl rfl rfl (bt_ (k:=f) kf_ bg_ aA_ rfl rfl hE (fun v h _=>(h.own _ (List.mem_of_getElem? (i:=2) rfl)).1)) rfl fun P e=>aP_ rfl rfl rfl (as_ rfl) rfl (Zz 4 ?_)
 cases P
 ·replace e:=zdf e
  refine Zz 2 ?_;refine ah_ ((N,.cells #[.int .i64 f.kind,str f.a,str f.b,str f.r,.int .i64 f.lo,.int .i64 f.hi] 36 (0,0))::((M,.cells #[sv] 26 (0,0))::[])) zk ?_;refine t_ 1 [0,1,2,3,4] zk zs (Zz 6 ?_);refine o_ 5 rfl zk (ne_ (k:=f) 2 kf_ (.inr rfl) bg_ rfl rfl rfl rfl hE fun G I C=>Zz 8 ?_);refine X_ w_ s_ Q_ rfl rfl rfl rfl rfl rfl fun Z=>?_;refine am_ (news:=List.flatMap Fc.cells [f]) eh_ O rfl rfl (c_ (c_ (c_ (c_ aX_)))) rfl (aR_ 0 rfl) (fun u hu=>aE_ Fc.cells_one hu) zm_ za_ rfl fun J F x=>?_;have B:=zsa x;refine C_ (W_ (g_ d_) (W_ (g_ d_) (W_ (g_ d_) (bj_ (g_ d_))))) (dM_ 2 B bT_ rfl rfl rfl rfl (Zz 2 ?_));have d:bo_ m f nw=nw++[f]:=by unfold bo_;rw[if_pos ⟨by omega,by assumption⟩]
  exact cp_ Tryz.results73 ⟨_,J,G,I,A,L,q,F,rfl,by rw[d];exact B,by rw[d];rw[if_neg zi_]at C;exact C,S,Q⟩ rfl (l_ (c_ (c_ d_)) (l_ (c_ (c_ d_)) (B_ (c_ (c_ aX_)) (c_ H_)))) zt
 replace e:=zdt e;refine Zz 3 ?_;exact lk_
def EA (m:Nat) (hm:m≤65536) (B:EngB) (b7 b8 b9 kb fb:Nat):Emt Tryz.prog 36 where
 stp:=bo_ m
 kof:=idk
 St:=StA b9 kb fb
 fn:=73
 caps:=[zp_ b7 0,zp_ b8 0,zp_ b9 0]
 ef:=andF (bU_ b7 (.cells #[zp_ B.g 0] 116 (0,0))) (andF (bU_ b8 (.cells #[.int .i64 (m:Int)] 3 (0,0))) (bU_ B.g (.cells #[.map (some B.pb),.slice B.lad B.lps.length B.lcap,.map (some kb),.func (.func 73) #[] #[zp_ b7 0,zp_ b8 0,zp_ b9 0],.map (some B.ab),.map (some B.ub),.map (some B.ob),.map (some B.ib),.map (some B.rb),.map (some B.sb),.map (some fb)] 124 (0,0))))
 kb:=kb
 fb:=fb
 grows:=fB_ m
 emit:=fun f nw fm H hS=>by
   obtain⟨sv,es,c,es2,c2,q,Hq,rfl,h1,h2,h3,h4⟩:=hS;exact qe_ [] (yh_ f nw fm m hm B.g b7 b8 b9 kb fb _ _ _ _ _ _ _ _ _ _ sv es es2 c c2 q Hq h1 h2 h3 h4) (fun v _ h=>⟨h.1.1,h.1.2.1,h.1.2.2,trivial⟩)
 known:=fun hS=>by
   obtain⟨sv,es,c,es2,c2,q,Hq,rfl,h1,h2,h3,h4⟩:=hS;exact⟨es,c,by simp,h2⟩
 firm:=fun hS=>by
   obtain⟨sv,es,c,es2,c2,q,Hq,rfl,h1,h2,h3,h4⟩:=hS;exact⟨es2,c2,q,by simp,h3,h4⟩
 setf:=fun {nw fm H} f hS=>by
   obtain⟨sv,es,c,es2,c2,q,Hq,rfl,h1,h2,h3,h4⟩:=hS;refine⟨es2,c2,q,(b9,.cells #[sv] 26 (0,0))::(kb,.map es c)::Hq,bj_ zp,h3,h4,fun es' c' h5=>⟨(b9,.cells #[sv] 26 (0,0))::(kb,.map es c)::([(fb,.map es' c')]++Hq),⟨sv,es,c,es',c',_,Hq,rfl,h1,h2,h5,?_⟩,bj_ zp⟩⟩;intro z
   split
   · rename_i hz;rw[h4,List.mem_cons];constructor
     · exact .inr
     · rintro (rfl|h)
       · exact (h4 _).1 hz
       · exact h
   · rw[List.mem_append,List.mem_singleton,h4,List.mem_cons,or_comm]
def fvC (v:Value):List Value:=[v]
theorem iT_ (v:Value):(fvC v).length=1:=rfl
theorem tA_ {P:Program} {N:Nf} {fr:Fr} {H:Hp} {Γ:List Fct} {ty:TypeId} {t e:TypeId} {n sz:Nat} {parts:List (Nat×Operand)} {vs:List (Nat×Value)} {z cs:List Value} (x:∀ w,(zeroValue t).run P w=.ok (.agg z.toArray) w) (A:∀ w,(underlying t).run P w=.ok (.array n e) w) (B:∀ w,(sizeOf e).run P w=.ok sz w) (y:Fr.evp fr parts=some vs) (h:lK_ (fun i=>some (i*sz,sz)) z vs=some cs) :
    Yld P N fr H Γ (.build t parts.toArray) ty (.agg cs.toArray) :=
  oj_ (fun a q w=>by
    have:=q.evp y;rw[List.map_toArray,this];have d:=ix_ _ _ _ _ h;simp only[Instr.build,Sem.run_bind,x,Result.andThen_ok,A,B,Value.cells,d,Sem.run_pure])
def rlV (g:Nat) (k:Nat):List Value:=if k=1 then [(Value.func (.func 120) #[zp_ g 0] #[]),(Value.func (.func 121) #[zp_ g 0] #[]),(Value.func (.func 122) #[zp_ g 0] #[]),(Value.func (.func 123) #[zp_ g 0] #[]),(Value.func (.func 124) #[zp_ g 0] #[]),(Value.func (.func 125) #[zp_ g 0] #[])] else if k=2 then [(Value.func (.func 126) #[zp_ g 0] #[]),(Value.func (.func 127) #[zp_ g 0] #[]),(Value.func (.func 128) #[zp_ g 0] #[]),(Value.func (.func 129) #[zp_ g 0] #[])] else [(Value.func (.func 130) #[zp_ g 0] #[]),(Value.func (.func 131) #[zp_ g 0] #[])]
theorem xt_ (g:Nat):Tri Tryz.prog 76 #[zp_ g 0] [] [] (fun y:Nat×Nat×Nat=>.agg #[.slice none 0 0,.slice (some ⟨y.1,0,none⟩) 6 6,.slice (some ⟨y.2.1,0,none⟩) 4 4,.slice (some ⟨y.2.2,0,none⟩) 2 2]) (fun _=>[]) (fun y=>[ai_ (some ⟨y.1,0,none⟩) (List.flatMap fvC (rlV g 1)),ai_ (some ⟨y.2.1,0,none⟩) (List.flatMap fvC (rlV g 2)),ai_ (some ⟨y.2.2,0,none⟩) (List.flatMap fvC (rlV g 3))]):=by
  refine i_ Tryz.func76 rfl rfl Tryz.ntmps76 rfl fun A=>?_;refine Zz 2 ?_;refine E_ Tryz.zeroValue128 rfl fun B=>Zz 5 ?_
  refine e_ (bF_ (us:=[zp_ g 0]) (vs:=[]) rfl rfl) rfl (Zz 1 ?_);refine e_ (bF_ (us:=[zp_ g 0]) (vs:=[]) rfl rfl) rfl (Zz 1 ?_);refine e_ (bF_ (us:=[zp_ g 0]) (vs:=[]) rfl rfl) rfl (Zz 1 ?_);refine e_ (bF_ (us:=[zp_ g 0]) (vs:=[]) rfl rfl) rfl (Zz 1 ?_);refine e_ (bF_ (us:=[zp_ g 0]) (vs:=[]) rfl rfl) rfl (Zz 1 ?_);refine e_ (bF_ (us:=[zp_ g 0]) (vs:=[]) rfl rfl) rfl (X_ aW_ eF_ Tryz.zeroValue120 rfl rfl rfl rfl rfl rfl fun h=>?_);refine cL_ (List.flatMap fvC [(Value.func (.func 120) #[zp_ g 0] #[]),(Value.func (.func 121) #[zp_ g 0] #[]),(Value.func (.func 122) #[zp_ g 0] #[]),(Value.func (.func 123) #[zp_ g 0] #[]),(Value.func (.func 124) #[zp_ g 0] #[]),(Value.func (.func 125) #[zp_ g 0] #[])]) d_ rfl ?_;refine Zz 1 ?_;refine e_ (bF_ (us:=[zp_ g 0]) (vs:=[]) rfl rfl) rfl (Zz 1 ?_);refine e_ (bF_ (us:=[zp_ g 0]) (vs:=[]) rfl rfl) rfl (Zz 1 ?_);refine e_ (bF_ (us:=[zp_ g 0]) (vs:=[]) rfl rfl) rfl (Zz 1 ?_);refine e_ (bF_ (us:=[zp_ g 0]) (vs:=[]) rfl rfl) rfl (X_ aW_ eF_ Tryz.zeroValue120 rfl rfl rfl rfl rfl rfl fun e=>?_);refine cL_ (List.flatMap fvC [(Value.func (.func 126) #[zp_ g 0] #[]),(Value.func (.func 127) #[zp_ g 0] #[]),(Value.func (.func 128) #[zp_ g 0] #[]),(Value.func (.func 129) #[zp_ g 0] #[])]) d_ rfl ?_;refine Zz 1 ?_;refine e_ (bF_ (us:=[zp_ g 0]) (vs:=[]) rfl rfl) rfl (Zz 1 ?_);refine e_ (bF_ (us:=[zp_ g 0]) (vs:=[]) rfl rfl) rfl (X_ aW_ eF_ Tryz.zeroValue120 rfl rfl rfl rfl rfl rfl fun d=>?_);refine cL_ (List.flatMap fvC [(Value.func (.func 130) #[zp_ g 0] #[]),(Value.func (.func 131) #[zp_ g 0] #[])]) d_ rfl ?_;refine e_ (tA_ Tryz.zeroValue128 tK_ Tryz.sizeOf127 rfl rfl) rfl (z_ 0 Tryz.sizeOf128 rfl rfl rfl rfl rfl rfl (Zz 3 ?_));exact gb_ (h,e,d) (fun C v q x=>dE_ (us:=[.slice none 0 0,.slice (some ⟨h,0,none⟩) (List.length [(Value.func (.func 120) #[zp_ g 0] #[]),(Value.func (.func 121) #[zp_ g 0] #[]),(Value.func (.func 122) #[zp_ g 0] #[]),(Value.func (.func 123) #[zp_ g 0] #[]),(Value.func (.func 124) #[zp_ g 0] #[]),(Value.func (.func 125) #[zp_ g 0] #[])]) 6,.slice (some ⟨e,0,none⟩) (List.length [(Value.func (.func 126) #[zp_ g 0] #[]),(Value.func (.func 127) #[zp_ g 0] #[]),(Value.func (.func 128) #[zp_ g 0] #[]),(Value.func (.func 129) #[zp_ g 0] #[])]) 4,.slice (some ⟨d,0,none⟩) (List.length [(Value.func (.func 130) #[zp_ g 0] #[]),(Value.func (.func 131) #[zp_ g 0] #[])]) 2]) 0 Tryz.results76 Tryz.isAgg128 Tryz.sizeOf128 rfl rfl rfl C v q x) f_ zf
theorem fy_ (B:EngB) (E:Emt Tryz.prog 36) (Q:EngA) (Y:List (Ky×Pc)) (x:Ix) (f:Fc) (nw fm:List Fc) (Hs:Hp) (hS:E.St nw fm Hs) (T N S q Hr J:Hp) (hI:IxO 9 36 B x ⟨T,N,S,q,Hr,J⟩) {n:FuncId} {args:Array Value} {e:Hp→Prop} (hT:∀ A:EngA,A.p=Q.p→Tri Tryz.prog n args Hs [gF B E,pF B Y A,aF B x A,uF B x A,oF B x A,iF B x A,rF B x A,sF B x A,E.ef] (fun _:{H':Hp // e H'}=>.tuple #[]) (fun y=>y.1) (fun _=>[])) :
    Tri Tryz.prog n args ((T++(N++(S++(q++(Hr++J)))))++Hs) [gF B E,pF B Y Q,E.ef] (fun _:{H':Hp // e H'}=>.tuple #[]) (fun y=>(T++(N++(S++(q++(Hr++J)))))++y.1) (fun _=>[]):=by
  obtain⟨Z,hu,X,hi,W,hm⟩:=hI;dsimp only at Z hu X hi W hm;obtain⟨V,R⟩:=Z.lent (P:=Tryz.prog) lT_;obtain⟨C,O⟩:=hu.lent (P:=Tryz.prog) lT_;obtain⟨U,K⟩:=X.lent (P:=Tryz.prog) dW_;obtain⟨H,F⟩:=hi.lent (P:=Tryz.prog) dW_;obtain⟨G,L⟩:=W.lent (P:=Tryz.prog) dW_;obtain⟨I,M⟩:=hm.lent (P:=Tryz.prog) dW_;refine qe_ _ (hT ⟨Q.p,V,C,U,H,G,I⟩ rfl) fun v hB h=>⟨h.1,h.2.1,R v fun p d=>hB p zS_,O v fun p d=>hB p zS_,K v fun p d=>hB p zS_,F v fun p d=>hB p zS_,L v fun p d=>hB p zS_,M v fun p d=>hB p zS_,h.2.2.1,trivial⟩
theorem rl10_c (B:EngB) (E:Emt Tryz.prog 36) (L:EngA) (d:List (Ky×Pc)) (x:Ix) (f:Fc) (nw fm:List Fc) (Hs:Hp) (hS:E.St nw fm Hs) (G H F q Hr C:Hp) (M:IxO 9 36 B x ⟨G,H,F,q,Hr,C⟩) (J:∀ k,(lat d k).length≤1000000000) (K:∀ k,(lat x.above k).length≤1000000000∧(lat x.under k).length≤1000000000) (I:∀ k,(lat x.frm k).length≤1000000000∧(lat x.into k).length≤1000000000∧(lat x.ranges k).length≤1000000000∧(lat x.firms k).length≤1000000000) (O:f.kind=3→-1099511627776≤f.lo∧f.lo≤f.hi∧f.hi≤1099511627776) (N:f.kind=3→∀ y∈lat d (Ky.mk 9 f.r []),-1099511627776≤y.lo∧y.lo≤y.hi∧y.hi≤1099511627776) (hk:f.kind=1):Tri Tryz.prog 120 #[zp_ B.g 0,f.val] ((G++(H++(F++(q++(Hr++C)))))++Hs) [gF B E,pF B d L,E.ef] (fun _:{H':Hp // E.St (rl E.stp E.kof d x f 0 (nw,fm)).1 (rl E.stp E.kof d x f 0 (nw,fm)).2 H'}=>.tuple #[]) (fun y=>(G++(H++(F++(q++(Hr++C)))))++y.1) (fun _=>[]):=by
  refine fy_ B E L d x f nw fm Hs hS G H F q Hr C M fun A P=>?_;have h:=ut_ B E A d x f nw fm Hs hS J K I;have e:rl E.stp E.kof d x f 0 (nw,fm)=_:=if_pos hk;rw[e];exact h
theorem rl11_c (B:EngB) (E:Emt Tryz.prog 36) (L:EngA) (d:List (Ky×Pc)) (x:Ix) (f:Fc) (nw fm:List Fc) (Hs:Hp) (hS:E.St nw fm Hs) (G H F q Hr C:Hp) (M:IxO 9 36 B x ⟨G,H,F,q,Hr,C⟩) (J:∀ k,(lat d k).length≤1000000000) (K:∀ k,(lat x.above k).length≤1000000000∧(lat x.under k).length≤1000000000) (I:∀ k,(lat x.frm k).length≤1000000000∧(lat x.into k).length≤1000000000∧(lat x.ranges k).length≤1000000000∧(lat x.firms k).length≤1000000000) (O:f.kind=3→-1099511627776≤f.lo∧f.lo≤f.hi∧f.hi≤1099511627776) (N:f.kind=3→∀ y∈lat d (Ky.mk 9 f.r []),-1099511627776≤y.lo∧y.lo≤y.hi∧y.hi≤1099511627776) (hk:f.kind=1):Tri Tryz.prog 121 #[zp_ B.g 0,f.val] ((G++(H++(F++(q++(Hr++C)))))++Hs) [gF B E,pF B d L,E.ef] (fun _:{H':Hp // E.St (rl E.stp E.kof d x f 1 (nw,fm)).1 (rl E.stp E.kof d x f 1 (nw,fm)).2 H'}=>.tuple #[]) (fun y=>(G++(H++(F++(q++(Hr++C)))))++y.1) (fun _=>[]):=by
  refine fy_ B E L d x f nw fm Hs hS G H F q Hr C M fun A P=>?_;have h:=both_c B E A d x f nw fm Hs hS J K I;have e:rl E.stp E.kof d x f 1 (nw,fm)=_:=if_pos hk;rw[e];exact h
theorem rl12_c (B:EngB) (E:Emt Tryz.prog 36) (L:EngA) (d:List (Ky×Pc)) (x:Ix) (f:Fc) (nw fm:List Fc) (Hs:Hp) (hS:E.St nw fm Hs) (G H F q Hr C:Hp) (M:IxO 9 36 B x ⟨G,H,F,q,Hr,C⟩) (J:∀ k,(lat d k).length≤1000000000) (K:∀ k,(lat x.above k).length≤1000000000∧(lat x.under k).length≤1000000000) (I:∀ k,(lat x.frm k).length≤1000000000∧(lat x.into k).length≤1000000000∧(lat x.ranges k).length≤1000000000∧(lat x.firms k).length≤1000000000) (O:f.kind=3→-1099511627776≤f.lo∧f.lo≤f.hi∧f.hi≤1099511627776) (N:f.kind=3→∀ y∈lat d (Ky.mk 9 f.r []),-1099511627776≤y.lo∧y.lo≤y.hi∧y.hi≤1099511627776) (hk:f.kind=1):Tri Tryz.prog 122 #[zp_ B.g 0,f.val] ((G++(H++(F++(q++(Hr++C)))))++Hs) [gF B E,pF B d L,E.ef] (fun _:{H':Hp // E.St (rl E.stp E.kof d x f 2 (nw,fm)).1 (rl E.stp E.kof d x f 2 (nw,fm)).2 H'}=>.tuple #[]) (fun y=>(G++(H++(F++(q++(Hr++C)))))++y.1) (fun _=>[]):=by
  refine fy_ B E L d x f nw fm Hs hS G H F q Hr C M fun A P=>?_;have h:=some_c B E A d x f nw fm Hs hS J K I;have e:rl E.stp E.kof d x f 2 (nw,fm)=_:=if_pos hk;rw[e];exact h
theorem rl13_c (B:EngB) (E:Emt Tryz.prog 36) (L:EngA) (d:List (Ky×Pc)) (x:Ix) (f:Fc) (nw fm:List Fc) (Hs:Hp) (hS:E.St nw fm Hs) (G H F q Hr C:Hp) (M:IxO 9 36 B x ⟨G,H,F,q,Hr,C⟩) (J:∀ k,(lat d k).length≤1000000000) (K:∀ k,(lat x.above k).length≤1000000000∧(lat x.under k).length≤1000000000) (I:∀ k,(lat x.frm k).length≤1000000000∧(lat x.into k).length≤1000000000∧(lat x.ranges k).length≤1000000000∧(lat x.firms k).length≤1000000000) (O:f.kind=3→-1099511627776≤f.lo∧f.lo≤f.hi∧f.hi≤1099511627776) (N:f.kind=3→∀ y∈lat d (Ky.mk 9 f.r []),-1099511627776≤y.lo∧y.lo≤y.hi∧y.hi≤1099511627776) (hk:f.kind=1):Tri Tryz.prog 123 #[zp_ B.g 0,f.val] ((G++(H++(F++(q++(Hr++C)))))++Hs) [gF B E,pF B d L,E.ef] (fun _:{H':Hp // E.St (rl E.stp E.kof d x f 3 (nw,fm)).1 (rl E.stp E.kof d x f 3 (nw,fm)).2 H'}=>.tuple #[]) (fun y=>(G++(H++(F++(q++(Hr++C)))))++y.1) (fun _=>[]):=by
  refine fy_ B E L d x f nw fm Hs hS G H F q Hr C M fun A P=>?_;have h:=sl_ B E A d x f nw fm Hs hS J K I;have e:rl E.stp E.kof d x f 3 (nw,fm)=_:=if_pos hk;rw[e];exact h
theorem rl14_c (B:EngB) (E:Emt Tryz.prog 36) (L:EngA) (d:List (Ky×Pc)) (x:Ix) (f:Fc) (nw fm:List Fc) (Hs:Hp) (hS:E.St nw fm Hs) (G H F q Hr C:Hp) (M:IxO 9 36 B x ⟨G,H,F,q,Hr,C⟩) (J:∀ k,(lat d k).length≤1000000000) (K:∀ k,(lat x.above k).length≤1000000000∧(lat x.under k).length≤1000000000) (I:∀ k,(lat x.frm k).length≤1000000000∧(lat x.into k).length≤1000000000∧(lat x.ranges k).length≤1000000000∧(lat x.firms k).length≤1000000000) (O:f.kind=3→-1099511627776≤f.lo∧f.lo≤f.hi∧f.hi≤1099511627776) (N:f.kind=3→∀ y∈lat d (Ky.mk 9 f.r []),-1099511627776≤y.lo∧y.lo≤y.hi∧y.hi≤1099511627776) (hk:f.kind=1):Tri Tryz.prog 124 #[zp_ B.g 0,f.val] ((G++(H++(F++(q++(Hr++C)))))++Hs) [gF B E,pF B d L,E.ef] (fun _:{H':Hp // E.St (rl E.stp E.kof d x f 4 (nw,fm)).1 (rl E.stp E.kof d x f 4 (nw,fm)).2 H'}=>.tuple #[]) (fun y=>(G++(H++(F++(q++(Hr++C)))))++y.1) (fun _=>[]):=by
  refine fy_ B E L d x f nw fm Hs hS G H F q Hr C M fun A P=>?_;have h:=rg_ B E A d x f nw fm Hs hS J K I;have e:rl E.stp E.kof d x f 4 (nw,fm)=_:=if_pos hk;rw[e];exact h
theorem rl15_c (B:EngB) (E:Emt Tryz.prog 36) (L:EngA) (d:List (Ky×Pc)) (x:Ix) (f:Fc) (nw fm:List Fc) (Hs:Hp) (hS:E.St nw fm Hs) (G H F q Hr C:Hp) (M:IxO 9 36 B x ⟨G,H,F,q,Hr,C⟩) (J:∀ k,(lat d k).length≤1000000000) (K:∀ k,(lat x.above k).length≤1000000000∧(lat x.under k).length≤1000000000) (I:∀ k,(lat x.frm k).length≤1000000000∧(lat x.into k).length≤1000000000∧(lat x.ranges k).length≤1000000000∧(lat x.firms k).length≤1000000000) (O:f.kind=3→-1099511627776≤f.lo∧f.lo≤f.hi∧f.hi≤1099511627776) (N:f.kind=3→∀ y∈lat d (Ky.mk 9 f.r []),-1099511627776≤y.lo∧y.lo≤y.hi∧y.hi≤1099511627776) (hk:f.kind=1):Tri Tryz.prog 125 #[zp_ B.g 0,f.val] ((G++(H++(F++(q++(Hr++C)))))++Hs) [gF B E,pF B d L,E.ef] (fun _:{H':Hp // E.St (rl E.stp E.kof d x f 5 (nw,fm)).1 (rl E.stp E.kof d x f 5 (nw,fm)).2 H'}=>.tuple #[]) (fun y=>(G++(H++(F++(q++(Hr++C)))))++y.1) (fun _=>[]):=by
  refine fy_ B E L d x f nw fm Hs hS G H F q Hr C M fun A P=>?_;have h:=xc_ B E A d x f nw fm Hs hS J K I;have e:rl E.stp E.kof d x f 5 (nw,fm)=_:=if_pos hk;rw[e];exact h
theorem rl20_c (B:EngB) (E:Emt Tryz.prog 36) (L:EngA) (d:List (Ky×Pc)) (x:Ix) (f:Fc) (nw fm:List Fc) (Hs:Hp) (hS:E.St nw fm Hs) (G H F q Hr C:Hp) (M:IxO 9 36 B x ⟨G,H,F,q,Hr,C⟩) (J:∀ k,(lat d k).length≤1000000000) (K:∀ k,(lat x.above k).length≤1000000000∧(lat x.under k).length≤1000000000) (I:∀ k,(lat x.frm k).length≤1000000000∧(lat x.into k).length≤1000000000∧(lat x.ranges k).length≤1000000000∧(lat x.firms k).length≤1000000000) (O:f.kind=3→-1099511627776≤f.lo∧f.lo≤f.hi∧f.hi≤1099511627776) (N:f.kind=3→∀ y∈lat d (Ky.mk 9 f.r []),-1099511627776≤y.lo∧y.lo≤y.hi∧y.hi≤1099511627776) (hk:f.kind=2):Tri Tryz.prog 126 #[zp_ B.g 0,f.val] ((G++(H++(F++(q++(Hr++C)))))++Hs) [gF B E,pF B d L,E.ef] (fun _:{H':Hp // E.St (rl E.stp E.kof d x f 0 (nw,fm)).1 (rl E.stp E.kof d x f 0 (nw,fm)).2 H'}=>.tuple #[]) (fun y=>(G++(H++(F++(q++(Hr++C)))))++y.1) (fun _=>[]):=by
  refine fy_ B E L d x f nw fm Hs hS G H F q Hr C M fun A P=>?_;have h:=un_ B E A d x f nw fm Hs hS J K I;have e:rl E.stp E.kof d x f 0 (nw,fm)=_:=(if_neg zX_).trans (if_pos hk);rw[e];exact h
theorem rl21_c (B:EngB) (E:Emt Tryz.prog 36) (L:EngA) (d:List (Ky×Pc)) (x:Ix) (f:Fc) (nw fm:List Fc) (Hs:Hp) (hS:E.St nw fm Hs) (G H F q Hr C:Hp) (M:IxO 9 36 B x ⟨G,H,F,q,Hr,C⟩) (J:∀ k,(lat d k).length≤1000000000) (K:∀ k,(lat x.above k).length≤1000000000∧(lat x.under k).length≤1000000000) (I:∀ k,(lat x.frm k).length≤1000000000∧(lat x.into k).length≤1000000000∧(lat x.ranges k).length≤1000000000∧(lat x.firms k).length≤1000000000) (O:f.kind=3→-1099511627776≤f.lo∧f.lo≤f.hi∧f.hi≤1099511627776) (N:f.kind=3→∀ y∈lat d (Ky.mk 9 f.r []),-1099511627776≤y.lo∧y.lo≤y.hi∧y.hi≤1099511627776) (hk:f.kind=2):Tri Tryz.prog 127 #[zp_ B.g 0,f.val] ((G++(H++(F++(q++(Hr++C)))))++Hs) [gF B E,pF B d L,E.ef] (fun _:{H':Hp // E.St (rl E.stp E.kof d x f 1 (nw,fm)).1 (rl E.stp E.kof d x f 1 (nw,fm)).2 H'}=>.tuple #[]) (fun y=>(G++(H++(F++(q++(Hr++C)))))++y.1) (fun _=>[]):=by
  refine fy_ B E L d x f nw fm Hs hS G H F q Hr C M fun A P=>?_;have h:=yq_ B E A d x f nw fm Hs hS J K I;have e:rl E.stp E.kof d x f 1 (nw,fm)=_:=(if_neg zX_).trans (if_pos hk);rw[e];exact h
theorem rl22_c (B:EngB) (E:Emt Tryz.prog 36) (L:EngA) (d:List (Ky×Pc)) (x:Ix) (f:Fc) (nw fm:List Fc) (Hs:Hp) (hS:E.St nw fm Hs) (G H F q Hr C:Hp) (M:IxO 9 36 B x ⟨G,H,F,q,Hr,C⟩) (J:∀ k,(lat d k).length≤1000000000) (K:∀ k,(lat x.above k).length≤1000000000∧(lat x.under k).length≤1000000000) (I:∀ k,(lat x.frm k).length≤1000000000∧(lat x.into k).length≤1000000000∧(lat x.ranges k).length≤1000000000∧(lat x.firms k).length≤1000000000) (O:f.kind=3→-1099511627776≤f.lo∧f.lo≤f.hi∧f.hi≤1099511627776) (N:f.kind=3→∀ y∈lat d (Ky.mk 9 f.r []),-1099511627776≤y.lo∧y.lo≤y.hi∧y.hi≤1099511627776) (hk:f.kind=2):Tri Tryz.prog 128 #[zp_ B.g 0,f.val] ((G++(H++(F++(q++(Hr++C)))))++Hs) [gF B E,pF B d L,E.ef] (fun _:{H':Hp // E.St (rl E.stp E.kof d x f 2 (nw,fm)).1 (rl E.stp E.kof d x f 2 (nw,fm)).2 H'}=>.tuple #[]) (fun y=>(G++(H++(F++(q++(Hr++C)))))++y.1) (fun _=>[]):=by
  refine fy_ B E L d x f nw fm Hs hS G H F q Hr C M fun A P=>?_;have h:=sk_ B E A d x f nw fm Hs hS J K I;have e:rl E.stp E.kof d x f 2 (nw,fm)=_:=(if_neg zX_).trans (if_pos hk);rw[e];exact h
theorem rl23_c (B:EngB) (E:Emt Tryz.prog 36) (L:EngA) (d:List (Ky×Pc)) (x:Ix) (f:Fc) (nw fm:List Fc) (Hs:Hp) (hS:E.St nw fm Hs) (G H F q Hr C:Hp) (M:IxO 9 36 B x ⟨G,H,F,q,Hr,C⟩) (J:∀ k,(lat d k).length≤1000000000) (K:∀ k,(lat x.above k).length≤1000000000∧(lat x.under k).length≤1000000000) (I:∀ k,(lat x.frm k).length≤1000000000∧(lat x.into k).length≤1000000000∧(lat x.ranges k).length≤1000000000∧(lat x.firms k).length≤1000000000) (O:f.kind=3→-1099511627776≤f.lo∧f.lo≤f.hi∧f.hi≤1099511627776) (N:f.kind=3→∀ y∈lat d (Ky.mk 9 f.r []),-1099511627776≤y.lo∧y.lo≤y.hi∧y.hi≤1099511627776) (hk:f.kind=2):Tri Tryz.prog 129 #[zp_ B.g 0,f.val] ((G++(H++(F++(q++(Hr++C)))))++Hs) [gF B E,pF B d L,E.ef] (fun _:{H':Hp // E.St (rl E.stp E.kof d x f 3 (nw,fm)).1 (rl E.stp E.kof d x f 3 (nw,fm)).2 H'}=>.tuple #[]) (fun y=>(G++(H++(F++(q++(Hr++C)))))++y.1) (fun _=>[]):=by
  refine fy_ B E L d x f nw fm Hs hS G H F q Hr C M fun A P=>?_;have h:=rf_ B E A d x f nw fm Hs hS J K I;have e:rl E.stp E.kof d x f 3 (nw,fm)=_:=(if_neg zX_).trans (if_pos hk);rw[e];exact h
theorem rl30_c (B:EngB) (E:Emt Tryz.prog 36) (L:EngA) (d:List (Ky×Pc)) (x:Ix) (f:Fc) (nw fm:List Fc) (Hs:Hp) (hS:E.St nw fm Hs) (G H F q Hr C:Hp) (M:IxO 9 36 B x ⟨G,H,F,q,Hr,C⟩) (J:∀ k,(lat d k).length≤1000000000) (K:∀ k,(lat x.above k).length≤1000000000∧(lat x.under k).length≤1000000000) (I:∀ k,(lat x.frm k).length≤1000000000∧(lat x.into k).length≤1000000000∧(lat x.ranges k).length≤1000000000∧(lat x.firms k).length≤1000000000) (O:f.kind=3→-1099511627776≤f.lo∧f.lo≤f.hi∧f.hi≤1099511627776) (N:f.kind=3→∀ y∈lat d (Ky.mk 9 f.r []),-1099511627776≤y.lo∧y.lo≤y.hi∧y.hi≤1099511627776) (hk:f.kind=3):Tri Tryz.prog 130 #[zp_ B.g 0,f.val] ((G++(H++(F++(q++(Hr++C)))))++Hs) [gF B E,pF B d L,E.ef] (fun _:{H':Hp // E.St (rl E.stp E.kof d x f 0 (nw,fm)).1 (rl E.stp E.kof d x f 0 (nw,fm)).2 H'}=>.tuple #[]) (fun y=>(G++(H++(F++(q++(Hr++C)))))++y.1) (fun _=>[]):=by
  refine fy_ B E L d x f nw fm Hs hS G H F q Hr C M fun A P=>?_;have h:=meet_c B E A d x f nw fm Hs hS J K I;have e:rl E.stp E.kof d x f 0 (nw,fm)=_:=(if_neg zX_).trans (if_neg zX_);rw[e];exact h
theorem rl31_c (B:EngB) (E:Emt Tryz.prog 36) (L:EngA) (d:List (Ky×Pc)) (x:Ix) (f:Fc) (nw fm:List Fc) (Hs:Hp) (hS:E.St nw fm Hs) (G H F q Hr C:Hp) (O:IxO 9 36 B x ⟨G,H,F,q,Hr,C⟩) (J:∀ k,(lat d k).length≤1000000000) (K:∀ k,(lat x.above k).length≤1000000000∧(lat x.under k).length≤1000000000) (I:∀ k,(lat x.frm k).length≤1000000000∧(lat x.into k).length≤1000000000∧(lat x.ranges k).length≤1000000000∧(lat x.firms k).length≤1000000000) (N:f.kind=3→-1099511627776≤f.lo∧f.lo≤f.hi∧f.hi≤1099511627776) (M:f.kind=3→∀ y∈lat d (Ky.mk 9 f.r []),-1099511627776≤y.lo∧y.lo≤y.hi∧y.hi≤1099511627776) (hk:f.kind=3):Tri Tryz.prog 131 #[zp_ B.g 0,f.val] ((G++(H++(F++(q++(Hr++C)))))++Hs) [gF B E,pF B d L,E.ef] (fun _:{H':Hp // E.St (rl E.stp E.kof d x f 1 (nw,fm)).1 (rl E.stp E.kof d x f 1 (nw,fm)).2 H'}=>.tuple #[]) (fun y=>(G++(H++(F++(q++(Hr++C)))))++y.1) (fun _=>[]):=by
  refine fy_ B E L d x f nw fm Hs hS G H F q Hr C O fun A P=>?_;have h:=out_c B E A d x f nw fm Hs hS J K I (N hk) (M hk);have e:rl E.stp E.kof d x f 1 (nw,fm)=_:=(if_neg zX_).trans (if_neg zX_);rw[e];exact h
section
variable {N:Nf} {v0:Vw} {H0:Hp} {fr:Fr}
theorem ni_ {k:Act→World→Prop} {F:Hp}:∀ (B:Hp) {H:Hp} {Γ:List Fct},H.Perm (B++F)→Ok N v0 H0 k fr F (B.reverse.map (fun p=>bU_ p.1 p.2)++Γ)→Ok N v0 H0 k fr H Γ
  | [],H,Γ,hH,h=>C_ hH h
  | (b,o)::B,H,Γ,hH,h=>by
    refine eJ_ (bU_ b o) (F:=B++F) hH (fun _ e d _=>⟨e,d⟩) ?_;refine ni_ B (.refl _) ?_;simpa using h
end
end Go.Proofs.YtpbnmnfdgckaiaaGreatDoor
namespace Go.Proofs.YtpbnmnfdgckaiaaGreatDoor
open Go Go.Sx Go.Proofs
attribute [local irreducible] Code.wp wpList wpAnyH
open Go.Vs
theorem uq_ {P:Program} (w:World) (d:Nat) (t e:TypeId) (a:Option Addr) (l c:Nat) (h:P.underlying t=some (.slice e)):(Op.equalIn (d+1) t (.slice a l c) (.slice none 0 0)).run P w=.ok a.isNone w:=by
  cases a<;>simp[Op.equalIn,run_underlying h]
theorem tj_ {P:Program} (w:World) (t e:TypeId) (a:Option Addr) (l c:Nat) (h:P.underlying t=some (.slice e)):(Op.equal t (.slice a l c) (.slice none 0 0)).run P w=.ok a.isNone w:=uq_ w 9999 t e a l c h
theorem ms_ {P:Program} {N:Nf} {fr:Fr} {H:Hp} {Γ:List Fct} {ty t h e:TypeId} {x y:Operand} {ad:Option Addr} {m c:Nat} (C:P.underlying t=some (.slice e)) (B:Fr.ev fr x=some (.slice ad m c)) (A:Fr.ev fr y=some (.slice none 0 0)):Yld P N fr H Γ (.binOp .eql t x y h) ty (.bool (decide (ad=none))) :=
  fun a v d _ _ _ _ _=>by
    have q:decide (ad=none)=ad.isNone:=by cases ad<;>simp
    simp[execOp,d.ev B,d.ev A,eqGuard,binOp,tj_ v.w t e ad m c C,q]
theorem qo_ {v:Vw} {cs:List Value} (h:bu_ v none cs):cs=[]:=by
 rcases h with h|⟨b,off,e,T,fz,d,_⟩
 ·exact h
 cases d
theorem qi_ (b:Nat) (e:TypeId) (sz:Nat):ax_ e sz (.slice (some ⟨b,0,none⟩) 0 0) 0 [] [(b,.cells #[] e (0,0))]:=⟨by simp,.inr ⟨b,0,#[],rfl,rfl,Nat.le_refl _,by simp[maxLen],by simp,by simp⟩⟩
theorem nO_ (l:List Str) (ad:Option Addr) (cap:Nat) (H:l.length≤cap) (hl:l.length≤1000000000):Tri Tryz.prog 115 #[.slice ad (List.length l) cap] [] [ai_ ad (List.flatMap ak_ l)] (fun y:{y:Value×Hp // zR 9 1 ak_ y.1 l y.2}=>y.1.1) (fun y=>y.1.2) (fun _=>[]):=by
 refine i_ Tryz.func115 rfl rfl Tryz.ntmps115 rfl fun F=>?_;refine Zz 9 ?_;refine G_ (ms_ ie_ rfl rfl) rfl fun E d=>Zz 2 ?_
 cases E
 ·replace d:=zdf d
  refine Zz 5 ?_;refine oy_ n_ I_ rfl fun C=>C_ d_ (Zz 1 ?_)
  refine fs_ (news:=List.flatMap ak_ l) cP_ (qi_ C 9 1) rfl rfl (fun q=>absurd q d) H ad_ (by rw[dv_ ak_ 1 at_]) zf (fun u I=>aE_ cm_ I) zm_ za_ rfl fun x e d=>?_;refine C_ List.perm_append_comm ?_;have B:ax_ 9 1 x (List.length (([]:List Str)++l)) (List.flatMap ak_ (([]:List Str)++l)) e:=by rw[List.length_append,List.flatMap_append];exact d
  refine Zz 4 ?_;exact Y_ Tryz.results115 ⟨(x,e),by simpa using B⟩ rfl ad_ zt
 replace d:=zdt d;refine Zz 7 ?_;refine vK_ (p:=List.flatMap ak_ l=[]) (fun v _ h=>by have q:=h.1;subst d;exact qo_ q) fun G=>?_;have A:l=[]:=List.eq_nil_of_length_eq_zero (by have:=congrArg List.length G;rwa [dv_ ak_ 1 at_,Nat.mul_one]at this);exact Y_ Tryz.results115 ⟨(.slice none 0 0,[]),by subst A;exact ax_.nil _ _⟩ rfl f_ zt
def atS (p:List Pc):List Str:=Lib.compact ((eu_ p++[[42],[33]]).mergeSort fun x y=>decide (x≤y))
theorem tt_ (p:List Pc):(atS p).length≤3*p.length+2:=by
  have:=gy_ ((eu_ p++[[42],[33]]).mergeSort fun x y=>decide (x≤y));have d:=fk_ p;rw[List.length_mergeSort,List.length_append]at this;simp only[List.length_cons,List.length_nil]at this;unfold atS;omega
theorem nR_ (p:List Pc):(atS p).Pairwise fun x y=>x<y:=hD_ (fQ_ _)
theorem iZ_ (p:List Pc) (x:Str):x∈atS p↔x∈eu_ p∨x=[42]∨x=[33]:=by
  unfold atS;rw[iA_,List.mem_mergeSort,List.mem_append];simp
theorem atS_c (p:List Pc) (A:Option Addr) (q:Nat) (X:p.length≤100000000):Tri Tryz.prog 74 #[.slice A (List.length p) q] [] [ai_ A (List.flatMap Pc.cells p)] (fun y:{y:Option Addr×Nat // (atS p).length≤y.2∧y.2≤maxLen∧(y.1=none→y.2=0)}=>.slice y.1.1 (atS p).length y.1.2) (fun _=>[]) (fun y=>[ai_ y.1.1 ((atS p).flatMap ak_)]):=by
  refine i_ Tryz.func74 rfl rfl Tryz.ntmps74 rfl fun U=>?_;refine Zz 8 ?_;refine j_ (yw_ p A q za_) rfl f_ zf rfl fun⟨⟨aad,acap⟩,M,S⟩=>?_;dsimp only;refine j_ (nO_ (eu_ p) aad acap M (by have:=fk_ p;omega)) rfl f_ zf rfl fun⟨⟨T,V⟩,O⟩=>?_;dsimp only;refine C_ dV_ (X_ n_ I_ az_ rfl rfl rfl rfl rfl rfl fun R=>?_);refine am_ (news:=List.flatMap ak_ [[42],[33]]) cP_ O rfl rfl H_ rfl (aR_ 0 rfl) (fun u W=>aE_ cm_ W) (by simp only[maxLen];(have:=fk_ p;(try simp only[List.length_append,List.length_cons,List.length_nil]);omega)) zae_ rfl fun K P L=>?_;refine C_ List.perm_append_comm ?_;have G:=zsa L;refine Zz 6 ?_;refine j_ (mf_ G zae_) rfl H_ zt rfl fun⟨B,H⟩=>?_;dsimp only;have C:ax_ 9 1 K (List.length ((((eu_ p)++[[42],[33]])).mergeSort fun x y=>decide (x≤y))) (List.flatMap ak_ ((((eu_ p)++[[42],[33]])).mergeSort fun x y=>decide (x≤y))) B:=by rw[List.length_mergeSort];exact H
  refine Zz 2 ?_;refine C_ (bj_ aX_) (Zz 3 ?_);refine j_ (jB_ C (by rw[List.length_mergeSort];(have:=fk_ p;(try simp only[List.length_append,List.length_cons,List.length_nil]);omega))) rfl H_ zt rfl fun⟨⟨N,Q⟩,J⟩=>?_;dsimp only;refine Zz 4 ?_;refine bn_ J y_ fun F I E e d h=>?_;exact Y_ Tryz.results74 ⟨(F,I),e,d,h⟩ (fG_ rfl E) f_ zf
end Go.Proofs.YtpbnmnfdgckaiaaGreatDoor
namespace Go.Proofs
open Go.Shelf
def Tryz.sortFc_ren:Go.Shelf.Ren:=⟨fun|6=>78|15=>133|14=>132|28=>172|29=>173|20=>164|21=>165|22=>166|23=>167|24=>168|25=>169|26=>170|27=>171|46=>196|47=>197|48=>198|49=>199|50=>200|57=>220|n=>n,fun|22=>26|24=>36|25=>131|3=>3|39=>44|0=>0|53=>219|55=>221|4=>4|46=>213|45=>212|50=>157|5=>5|9=>9|66=>237|70=>150|76=>261|77=>262|n=>n,fun|n=>n⟩
theorem Tryz.sortFc:Go.Proofs.SlLaysF0.n6 Tryz.prog Tryz.sortFc_ren:={
  mixed:=by kernel_rfl
  f6:=⟨Tryz.f78.name,by decide,Tryz.func78.trans (congrArg some zd_)⟩
  f14:=⟨Tryz.f132.name,by decide,Tryz.func132.trans (congrArg some zd_)⟩
  f15:=Tryz.func133.trans (congrArg some zd_)
  f20:=⟨Tryz.f164.name,by decide,Tryz.func164.trans (congrArg some zd_)⟩
  f21:=⟨Tryz.f165.name,by decide,Tryz.func165.trans (congrArg some zd_)⟩
  f22:=⟨Tryz.f166.name,by decide,Tryz.func166.trans (congrArg some zd_)⟩
  f23:=⟨Tryz.f167.name,by decide,Tryz.func167.trans (congrArg some zd_)⟩
  f24:=⟨Tryz.f168.name,by decide,Tryz.func168.trans (congrArg some zd_)⟩
  f25:=⟨Tryz.f169.name,by decide,Tryz.func169.trans (congrArg some zd_)⟩
  f26:=⟨Tryz.f170.name,by decide,Tryz.func170.trans (congrArg some zd_)⟩
  f27:=⟨Tryz.f171.name,by decide,Tryz.func171.trans (congrArg some zd_)⟩
  f28:=Tryz.func172.trans (congrArg some zd_)
  f29:=Tryz.func173.trans (congrArg some zd_)
  f46:=⟨Tryz.f196.name,by decide,Tryz.func196.trans (congrArg some zd_)⟩
  f47:=Tryz.func197.trans (congrArg some zd_)
  f48:=Tryz.func198.trans (congrArg some zd_)
  f49:=⟨Tryz.f199.name,by decide,Tryz.func199.trans (congrArg some zd_)⟩
  f50:=⟨Tryz.f200.name,by decide,Tryz.func200.trans (congrArg some zd_)⟩
  f57:=⟨Tryz.f220.name,by decide,Tryz.func220.trans (congrArg some zd_)⟩
  t0:=Tryz.underlying0
  a0:=Tryz.isAgg0
  z0:=Tryz.sizeOf0
  v0:=Tryz.zeroValue0
  t3:=Tryz.underlying3
  a3:=Tryz.isAgg3
  z3:=Tryz.sizeOf3
  v3:=Tryz.zeroValue3
  t4:=Tryz.underlying4
  a4:=Tryz.isAgg4
  z4:=Tryz.sizeOf4
  v4:=Tryz.zeroValue4
  t5:=Tryz.underlying5
  a5:=Tryz.isAgg5
  z5:=Tryz.sizeOf5
  v5:=Tryz.zeroValue5
  t9:=Tryz.underlying9
  a9:=Tryz.isAgg9
  z9:=Tryz.sizeOf9
  v9:=Tryz.zeroValue9
  t22:=Tryz.underlying26
  a22:=Tryz.isAgg26
  z22:=Tryz.sizeOf26
  v22:=Tryz.zeroValue26
  t25:=Tryz.underlying131
  a25:=Tryz.isAgg131
  z25:=Tryz.sizeOf131
  v25:=Tryz.zeroValue131
  t39:=Tryz.underlying44
  a39:=Tryz.isAgg44
  z39:=Tryz.sizeOf44
  v39:=Tryz.zeroValue44
  t45:=Tryz.underlying212
  a45:=Tryz.isAgg212
  z45:=Tryz.sizeOf212
  v45:=Tryz.zeroValue212
  t46:=Tryz.underlying213
  a46:=Tryz.isAgg213
  z46:=Tryz.sizeOf213
  v46:=Tryz.zeroValue213
  t50:=Tryz.underlying157
  a50:=Tryz.isAgg157
  z50:=Tryz.sizeOf157
  v50:=Tryz.zeroValue157
  t53:=Tryz.underlying219
  a53:=Tryz.isAgg219
  z53:=Tryz.sizeOf219
  v53:=Tryz.zeroValue219
  t55:=Tryz.underlying221
  a55:=Tryz.isAgg221
  z55:=Tryz.sizeOf221
  v55:=Tryz.zeroValue221
  t66:=Tryz.underlying237
  a66:=Tryz.isAgg237
  z66:=Tryz.sizeOf237
  v66:=Tryz.zeroValue237
  t70:=Tryz.underlying150
  a70:=Tryz.isAgg150
  z70:=Tryz.sizeOf150
  v70:=Tryz.zeroValue150
  t76:=Tryz.underlying261
  a76:=Tryz.isAgg261
  z76:=Tryz.sizeOf261
  v76:=Tryz.zeroValue261
  t77:=Tryz.underlying262
  a77:=Tryz.isAgg262
  z77:=Tryz.sizeOf262
  v77:=Tryz.zeroValue262 }
end Go.Proofs
namespace Go.Sx
open Go
section
variable {K:Type} [DecidableEq K] {kv:K→Value}
structure KeyE (kv:K→Value) (es:Array MapEntry) (q:List K):Prop where
  keys:es.toList.map (·.key)=q.map kv
  nd:q.Nodup
theorem SetE.ke {es:Array MapEntry} {q:List K} (h:SetE kv es q):KeyE kv es q:=⟨h.keys,h.nd⟩
theorem KeyE.ofKey {es:Array MapEntry} {q:List K} (hE:KeyE kv es q) {e:MapEntry} (d:e∈es.toList):∃ k∈q,e.key=kv k:=by
  have:e.key∈es.toList.map (·.key):=List.mem_map_of_mem d;rw[hE.keys]at this;obtain⟨k,hk,h⟩:=List.mem_map.1 this;exact⟨k,hk,h.symm⟩
theorem KeyE.entry {es:Array MapEntry} {q:List K} (hE:KeyE kv es q) (hi:∀ x y,kv x=kv y→x=y) {x e:MapEntry} (G:x∈es.toList) (H:e∈es.toList) (h:x.key=e.key):x=e:=by
 obtain⟨i,B,d⟩:=List.getElem_of_mem G;obtain⟨j,E,A⟩:=List.getElem_of_mem H
 have C:(es.toList.map (·.key)).Nodup:=by
   rw[hE.keys];unfold List.Nodup;rw[List.pairwise_map];exact List.Pairwise.imp (fun {a b} hab e=>hab (hi _ _ e)) hE.nd
 have F:i=j:=by
   rcases Nat.lt_trichotomy i j with g|g|g
   · exact ((List.pairwise_iff_getElem.1 C i j zW_ (by simpa using E) g) (by simp only[List.getElem_map,d,A,h])).elim
   · exact g
   · exact ((List.pairwise_iff_getElem.1 C j i (by simpa using E) zW_ g) (by simp only[List.getElem_map,d,A,h])).elim
 subst F;rw[← d,← A]
theorem ItS.stepK {es:Array MapEntry} {q:List K} {c:Nat} {A:Array Nat} {done:List K} {e:MapEntry} (hi:∀ x y,kv x=kv y→x=y) (hE:KeyE kv es q) (hB:Born es c) (h:ItS kv es A done) (O:e∈(leftOf es A).toList) :
    ∃ k,k∈q∧k ∉ done∧e.key=kv k∧e∈es.toList∧ItS kv es (A.push e.born) (done++[k]):=by
  unfold leftOf at O;rw[Array.toList_filter,List.mem_filter]at O;obtain⟨G,Q⟩:=O;obtain⟨k,hk,B⟩:=hE.ofKey G
  have H:k ∉ done:=fun hm=>by
    have:=(h.mem e G).2 ⟨k,hm,B⟩;rw[this]at Q;simp at Q
  have same:∀ x∈es.toList,x.born=e.born→x=e:=fun x J I=>by
    have P:=hB.nd;obtain⟨i,L,F⟩:=List.getElem_of_mem J;obtain⟨j,M,E⟩:=List.getElem_of_mem G
    have N:i=j:=by
      rcases Nat.lt_trichotomy i j with g|g|g
      · exact ((List.pairwise_iff_getElem.1 P i j (by simpa using L) (by simpa using M) g) (by simp only[List.getElem_map,F,E,I])).elim
      · exact g
      · exact ((List.pairwise_iff_getElem.1 P j i (by simpa using M) (by simpa using L) g) (by simp only[List.getElem_map,F,E,I])).elim
    subst N;rw[← F,← E]
  refine⟨k,hk,H,B,G,⟨?_,fun x J=>?_,fun y d=>?_⟩⟩
  · rw[List.nodup_append];exact⟨h.nd,by simp,fun a R b I e=>by simp at I;subst I;subst e;exact H R⟩
  · rw[Array.contains_push,Bool.or_eq_true,h.mem x J,beq_iff_eq]
    constructor
    · rintro (⟨y,d,C⟩|S)
      · exact⟨y,by simp[d],C⟩
      · have:=same x J S
        exact⟨k,by simp,this▸B⟩
    · rintro ⟨y,d,C⟩
      rcases List.mem_append.1 d with d|d
      · exact .inl ⟨y,d,C⟩
      · rw[List.mem_singleton]at d
        subst d;exact .inr (congrArg MapEntry.born (hE.entry hi J G (C.trans B.symm)))
  · rcases List.mem_append.1 d with d|d
    · exact h.sub y d
    · rw[List.mem_singleton]at d
      subst d;exact⟨e,G,B⟩
theorem ItS.endK {es:Array MapEntry} {q:List K} {d:Array Nat} {done:List K} (hi:∀ x y,kv x=kv y→x=y) (hE:KeyE kv es q) (h:ItS kv es d done) (I:(leftOf es d).size=0):done.Perm q:=by
 refine (List.perm_ext_iff_of_nodup h.nd hE.nd).2 fun k=>⟨fun hk=>?_,fun hk=>?_⟩
 ·obtain⟨e,E,B⟩:=h.sub k hk
  obtain⟨G,C,A⟩:=hE.ofKey E;exact hi _ _ (B.symm.trans A)▸C
 have:kv k∈es.toList.map (·.key):=by rw[hE.keys];exact List.mem_map_of_mem hk
 obtain⟨e,E,B⟩:=List.mem_map.1 this
 have H:d.contains e.born=true:=by
   cases hc:d.contains e.born
   · exfalso
     have:e∈(leftOf es d).toList:=by unfold leftOf;rw[Array.toList_filter,List.mem_filter];exact⟨E,by simp only[hc];rfl⟩
     have F:=List.length_pos_of_mem this;simp only[Array.length_toList]at F;omega
   · rfl
 obtain⟨G,C,A⟩:=(h.mem e E).1 H;exact hi _ _ (B.symm.trans A)▸C
end
end Go.Sx
namespace Go.Vs
open Go Go.Sx
structure Thg where
  kind:Int
  name:Str
deriving DecidableEq
def Thg.cells (t:Thg):List Value:=[.int .i64 t.kind,str t.name]
def Thg.val (t:Thg):Value:=.agg t.cells.toArray
section
variable {p:List Pc} {S:List Str} {t:Thg} {us:List Int} {j:Nat} {K W:List Thg} {U:List Bool} {wl:List Int} {i:Nat} {x:Pc} {n:Int}
end
end Go.Vs
namespace Go.Sx
open Go Go.Vs
section
variable {P:Program} {N:Nf} {v0:Vw} {H0:Hp} {R:Exit→Act→World→Prop} {Kk:List Kt} {fr:Fr} {H:Hp} {Γ:List Fct}
variable {ops:Array Oper} {lo:List Oper} {d:Nat} {ty:TypeId} {ps:String} {af:Array Edge}
variable {K:Type} [DecidableEq K] {kv:K→Value}
theorem IntE.at {A:TypeId} {es:Array MapEntry} {ks:List K} {vs:List Int} (C:KeyT P A kv) (h:IntE kv es ks vs) {k:K} {i:Nat} {n:Int} (hi:ks[i]? = some k) (B:vs[i]? = some n):∃ e,es[i]? = some e∧e.key=kv k∧e.val=.int .i64 n∧dq_ P A (kv k) es.toList (some (i,.int .i64 n)):=by
  have y:i<es.toList.length:=by
    have:=(List.getElem?_eq_some_iff.1 hi).1;have e:=congrArg List.length h.keys;simp only[List.length_map]at e;omega
  have q:=List.getElem?_eq_getElem y;have x:=congrArg (fun l=>l[i]?) h.vals;simp only[List.getElem?_map,q,Option.map_some,B,Option.some.injEq]at x;have hk:=congrArg (fun l=>l[i]?) h.keys;simp only[List.getElem?_map,q,Option.map_some,hi,Option.some.injEq]at hk;refine⟨es.toList[i],by rw[← Array.getElem?_toList];exact q,hk,x,?_⟩;have:=C.sf k es.toList ks i _ h.keys h.nd hi q;rwa [x]at this
end
end Go.Sx
namespace Go.Vs
open Go Go.Sx
def Thg.eqb (p q:Thg):Bool:=(p.kind==q.kind)&&((p.name==q.name)&&true)
theorem Thg.eqb_eq (p q:Thg):p.eqb q=decide (p=q):=by
  rw[Bool.eq_iff_iff];cases p;cases q;simp[Thg.eqb]
theorem take_snoc {α:Type} {l:List α} {i:Nat} {x:α} (h:l[i]? = some x):l.take (i+1)=l.take i++[x]:=by
  rw[List.take_add_one,h];rfl
abbrev SrS (l:List Str):Prop:=l.Pairwise fun x y=>x<y
theorem mG_ (a:Str):¬ a<a:=List.lt_irrefl a
theorem tB_ {l:List Str} {s:Str} (d:s≠[]) (e:s ∉ l):uK_ l s=l.take (kS l s)++[s]++l.drop (kS l s):=by
  unfold uK_;rw[if_neg (by rintro (q|q);exact d q;exact e (List.mem_of_getElem? q))]
end Go.Vs
namespace Go.Proofs.YtpbnmnfdgckaiaaGreatDoor
open Go Go.Sx Go.Proofs
attribute [local irreducible] Code.wp wpList wpAnyH
open Go.Vs
theorem sy_ {p:List Pc} {s:Str} (h:s∈atS p):s≠[]:=by
 rcases (iZ_ p s).1 h with h|rfl|rfl
 ·obtain⟨x,_,d⟩:=List.mem_flatMap.1 ((fZ_ p s).1 h)
  simpa using (List.mem_filter.1 d).2
 ·decide
 decide
end Go.Proofs.YtpbnmnfdgckaiaaGreatDoor
namespace Go.Vs
open Go Go.Sx
def orF:List Int→Int
  | []=>0
  | x::l=>if x=0 then orF l else x
theorem vH_:∀ {l:List Int} {i:Nat} {x:Int},(∀ y∈l.take i,y=0)→l[i]? = some x→x≠0→orF l=x
  | [],_,_,_,h,_=>by simp at h
  | y::l,0,x,_,h,hx=>by simp at h;subst h;simp[orF,hx]
  | y::l,i+1,x,h0,h,hx=>by
    have e:y=0:=h0 y zj_;rw[orF,if_pos e];exact vH_ (i:=i) (fun z d=>h0 z (by rw[List.take_succ_cons];exact List.mem_cons_of_mem _ d)) zK_ hx
theorem qz_:∀ {l:List Int},(∀ y∈l,y=0)→orF l=0
  | [],_=>rfl
  | y::l,h=>by rw[orF,if_pos (h y zj_)];exact qz_ fun z d=>h z zS_
theorem cI_neg (x y:Int):Lib.compareInt x y<0↔x<y:=by unfold Lib.compareInt;(repeat' split)<;>omega
theorem yr_ (x y:Int):Lib.compareInt x y=0↔x=y:=by unfold Lib.compareInt;(repeat' split)<;>omega
theorem su_:∀ (x y:Str),Lib.compareBytes x y<0↔x<y
 | [],[]=>by simp[Lib.compareBytes]
 | [],b::y=>by simp[Lib.compareBytes]
 | a::x,[]=>by simp[Lib.compareBytes]
 | a::x,b::y=>by
   rw[Lib.compareBytes,List.cons_lt_cons_iff]
   by_cases d:a<b
   · rw[if_pos d];simp[d]
   · by_cases h:b<a
     · rw[if_neg d,if_pos h]
       have:a≠b:=fun e=>by subst e;exact d h
       simp[d,this]
     · have e:a=b:=UInt8.le_antisymm (UInt8.not_lt.1 h) (UInt8.not_lt.1 d)
       rw[if_neg d,if_neg h,su_ x y];simp[e]
theorem tp_:∀ (x y:Str),Lib.compareBytes x y=0↔x=y
 | [],[]=>by simp[Lib.compareBytes]
 | [],b::y=>by simp[Lib.compareBytes]
 | a::x,[]=>by simp[Lib.compareBytes]
 | a::x,b::y=>by
   rw[Lib.compareBytes]
   by_cases d:a<b
   · rw[if_pos d]
     have:a≠b:=fun e=>by subst e;exact absurd d (UInt8.lt_irrefl a)
     simp[this]
   · by_cases h:b<a
     · rw[if_neg d,if_pos h]
       have:a≠b:=fun e=>by subst e;exact d h
       simp[this]
     · have e:a=b:=UInt8.le_antisymm (UInt8.not_lt.1 h) (UInt8.not_lt.1 d)
       rw[if_neg d,if_neg h,tp_ x y];simp[e]
theorem iL_ (x:Int) (l:List Int):orF (x::l)<0↔x<0∨x=0∧orF l<0:=by
  rw[orF];split<;>omega
theorem pM_:∀ (x y:Str),Lib.compareBytes x y=if x<y then -1 else if y<x then 1 else 0
 | [],[]=>by simp[Lib.compareBytes]
 | [],b::y=>by simp[Lib.compareBytes]
 | a::x,[]=>by simp[Lib.compareBytes]
 | a::x,b::y=>by
   rw[Lib.compareBytes]
   by_cases d:a<b
   · have l:a::x<b::y:=by rw[List.cons_lt_cons_iff];exact .inl d
     rw[if_pos d,if_pos l]
   · by_cases h:b<a
     · have l:b::y<a::x:=by rw[List.cons_lt_cons_iff];exact .inl h
       have A:¬ a::x<b::y:=fun q=>absurd (List.lt_trans q l) (List.lt_irrefl _)
       rw[if_neg d,if_pos h,if_neg A,if_pos l]
     · have e:a=b:=UInt8.le_antisymm (UInt8.not_lt.1 h) (UInt8.not_lt.1 d)
       subst e;rw[if_neg d,if_neg h,pM_ x y];simp only[List.cons_lt_cons_iff,d,false_or,true_and]
namespace Con
end Con
end Go.Vs
namespace Go.Proofs.YtpbnmnfdgckaiaaGreatDoor
open Go Go.Sx Go.Proofs
attribute [local irreducible] Code.wp wpList wpAnyH
open Go.Vs
instance:Inhabited Fc:=⟨⟨0,[],[],[],0,0⟩⟩
theorem gX_ (x y:Int):Fn0 Tryz.prog 135 #[.int .i64 x,.int .i64 y] (.int .i64 (Lib.compareInt x y)) :=
  cO_ (callable Tryz.func135 rfl rfl) fun v _ _=>(Tryz.cmp_Compare_int x y v.w).mono zk_
theorem ks_ (x y:Str):Fn0 Tryz.prog 86 #[str x,str y] (.int .i64 (Lib.compareBytes x y)) :=
  cO_ (callable Tryz.func86 rfl rfl) fun v _ _=>(Tryz.strings_Compare ⟨x.toArray⟩ ⟨y.toArray⟩ v.w).mono zk_
def hE_ (x y:Fc):Int:=orF [Lib.compareInt x.kind y.kind,Lib.compareBytes x.a y.a,Lib.compareBytes x.b y.b,Lib.compareBytes x.r y.r,Lib.compareInt x.lo y.lo,Lib.compareInt x.hi y.hi]
theorem rk_ (x y:Fc):hE_ x y<0↔x.lt y:=by
  unfold hE_ Fc.lt;rw[iL_,iL_,iL_,iL_,iL_,iL_];simp only[cI_neg,yr_,su_,tp_,orF,Int.lt_irrefl,and_false,or_false]
theorem yN_ (l:List Int) (ad:Option Addr) (cap:Nat) (hl:l.length≤1000):Tri Tryz.prog 134 #[.slice ad (List.length l) cap] [] [ai_ ad (List.flatMap fz_ l)] (fun _:Unit=>.int .i64 (orF l)) (fun _=>[]) (fun _=>[]):=by
 refine i_ Tryz.func134 rfl rfl Tryz.ntmps134 rfl fun C=>?_;refine Zz 19 ?_;refine K_ (ι:={y:Nat // y≤l.length∧∀ z∈l.take y,z=0}) (fun y=>[(3,.int .i64 0),(6,.slice ad (List.length l) cap),(7,.int .i64 (List.length l:Int)),(8,.int .i64 (y.1:Int))]) (fun y=>([])) (fun y=>[ai_ ad (List.flatMap fz_ l)]) (fun y=>l.length - y.1) ⟨(0:Nat),by simp,by simp⟩ zl f_ zh ?_;rintro ⟨i,hi,d⟩;dsimp only at hi d ⊢;refine Zi 2 (fun A=>?_) fun A=>?_
 ·refine Zz 13 ?_
  exact Y_ Tryz.results134 () (cd_ rfl (qz_ fun y q=>d y (by rw[List.take_of_length_le za_];exact q)).symm) f_ zt
 obtain⟨h,E,e,B⟩:=zge (show i<List.length l by omega);refine Zi 19 (fun x=>?_) fun x=>?_
 ·refine Zz 10 ?_
  exact x_ ⟨i+1,h,fun y q=>by rw[List.take_add_one,e]at q;simp only[Option.toList_some,List.mem_append,List.mem_singleton]at q;rcases q with q|rfl;exact d y q;omega⟩ zb_ zl f_ zh
 refine Zz 10 ?_;exact Y_ Tryz.results134 () (cd_ rfl (vH_ d e zi_).symm) f_ zt
theorem cmpF_c (x y:Fc):Fn0 Tryz.prog 79 #[Fc.val x,Fc.val y] (.int .i64 (hE_ x y)):=by
  refine i_ Tryz.func79 rfl rfl Tryz.ntmps79 rfl fun h=>?_;refine Zz 2 ?_;refine V_ rfl rfl fun q=>V_ rfl rfl fun e=>Zz 5 ?_
  refine t_ 9 [0,1,2,3,5,6,7,8,10,11,12,13,15,16,17,18,20,21,22,23,25,26,27,28] zk zs (Zz 25 ?_);refine o_ 4 rfl zk (j_ (gX_ x.kind y.kind) rfl f_ zt rfl fun _=>Zz 3 ?_);refine o_ 9 rfl zk (j_ (ks_ x.a y.a) rfl f_ zt rfl fun _=>Zz 3 ?_);refine o_ 14 rfl zk (j_ (ks_ x.b y.b) rfl f_ zt rfl fun _=>Zz 3 ?_);refine o_ 19 rfl zk (j_ (ks_ x.r y.r) rfl f_ zt rfl fun _=>Zz 3 ?_);refine o_ 24 rfl zk (j_ (gX_ x.lo y.lo) rfl f_ zt rfl fun _=>Zz 3 ?_);refine o_ 29 rfl zk (j_ (gX_ x.hi y.hi) rfl f_ zt rfl fun _=>Zz 3 ?_);refine o_ 30 rfl zk (X_ av_ au_ kA_ rfl rfl rfl rfl rfl rfl fun d=>?_);refine cL_ (List.flatMap fz_ [(Lib.compareInt x.kind y.kind),(Lib.compareBytes x.a y.a),(Lib.compareBytes x.b y.b),(Lib.compareBytes x.r y.r),(Lib.compareInt x.lo y.lo),(Lib.compareInt x.hi y.hi)]) d_ rfl ?_;refine Zz 3 ?_;refine o_ 31 rfl zk (j_ (yN_ [(Lib.compareInt x.kind y.kind),(Lib.compareBytes x.a y.a),(Lib.compareBytes x.b y.b),(Lib.compareBytes x.r y.r),(Lib.compareInt x.lo y.lo),(Lib.compareInt x.hi y.hi)] (some ⟨d,0,none⟩) 6 zj_) rfl f_ zf rfl fun _=>Zz 3 ?_);refine t_ 0 [32] zk zs (Zz 5 ?_);exact Y_ Tryz.results79 () (cd_ rfl (by rfl)) f_ zt
structure Cl where
  atoms:List Str
  aad:Option Addr
  acap:Nat
  facts:List Fc
  fad:Option Addr
  fcap:Nat
def Cl.cells (c:Cl):List Value:=[.slice c.aad c.atoms.length c.acap,.slice c.fad c.facts.length c.fcap]
def Cl.val (c:Cl):Value:=.agg c.cells.toArray
def Cl.row (c:Cl):List Fct:=[ai_ c.aad (List.flatMap ak_ c.atoms),ai_ c.fad (List.flatMap Fc.cells c.facts)]
def Cl.no:Cl:=Cl.mk [] none 0 [] none 0
structure Cl.ok (c:Cl):Prop where
  al:c.atoms.length≤c.acap
  am:c.acap≤maxLen
  az:c.aad=none→c.acap=0
  fl:c.facts.length≤c.fcap
  fm:c.fcap≤maxLen
  fz:c.fad=none→c.fcap=0
theorem Cl.no_ok:Cl.no.ok:=⟨Nat.le_refl _,by simp[Cl.no],fun _=>rfl,Nat.le_refl _,by simp[Cl.no],fun _=>rfl⟩
theorem xy_ {s:Str} (h:cB_ s=true):s≠[]:=fun e=>by subst e;revert h;decide
theorem tX_ {s:Str} (h:aO_ s=true):s≠[]:=fun e=>by subst e;revert h;decide
theorem iG_ {p:Pc} (h:p.valid=true):p.vok:=by
 unfold Pc.valid at h
 split at h
 ·simp at h
 rename_i d
 split at h
 ·simp at h
 rename_i e
 split at h
 ·simp at h
 have hk:p.kind=1∨p.kind=2∨p.kind=3∨p.kind=4∨p.kind=5∨p.kind=6∨p.kind=7∨p.kind=8∨p.kind=9:=by omega
 have y:∀ {b:Bool} {s:Str},bZ_ b s cB_=true→b=true→s≠[]:=fun d e=>by
   subst e;simp[bZ_]at d;exact xy_ d
 have A:∀ {b:Bool} {s:Str},bZ_ b s aO_=true→b=true→s≠[]:=fun d e=>by
   subst e;simp[bZ_]at d;exact tX_ d
 simp only[Bool.and_eq_true]at h;obtain⟨⟨⟨⟨⟨_,_⟩,_⟩,x⟩,C⟩,B⟩:=h;unfold Pc.rok at *;refine⟨⟨fun q=>?_,fun q=>?_,fun q=>?_⟩,fun q=>?_⟩
 ·rcases q with q|q|q|q|q|q|q<;>rw[q]at x
  ·exact y x ze_
  ·exact y x ze_
  ·exact y x ze_
  ·exact A x ze_
  ·exact y x ze_
  ·exact y x ze_
  exact A x ze_
 ·rw[q]at C B;exact⟨y C ze_,y B ze_⟩
 ·rw[q]at B;exact y B ze_
 rcases q with q|q<;>rw[q]at e<;>have:(nus 8).numbers=true∧(nus 9).numbers=true:=by decide
 all_goals simp only[this.1,this.2,true_and]at e;omega
theorem ro_ {p:List Pc} (h:db_ p=0):p.length≤16384∧p.all Pc.valid=true:=by
 unfold db_ at h
 split at h
 ·simp at h
 split at h
 ·exact⟨by omega,by assumption⟩
 simp at h
theorem oS_ {p:List Pc} (h:db_ p=0):∀ x∈p,x.vok:=fun x d=>iG_ (List.all_eq_true.1 (ro_ h).2 x d)
section
variable {P:Program} {N:Nf} {v0:Vw} {H0:Hp} {fr:Fr} {H F Ha Hu Ho Hi Hr Hm Hs:Hp} {Γ:List Fct}
theorem fx_ {fn:Func} {t s b n:Nat} {ty T:TypeId} {us:List Value} {u:Value} (i:Nat) (x:fn.results=#[.cell t ty,.tmp s]) (A:∀ w,(isAgg ty).run P w=.ok true w) (I:∀ w,(sizeOf ty).run P w=.ok n w) (B:us.length=n) (E:Fr.get fr t=some (zp_ b 0)) (G:Fr.get fr s=some u)
    (hi:H[i]? = some (b,.cells us.toArray T (0,0))) (a:Act) (v:Vw) (d:Fr.sat N fr a) (h:v.sat H):(results fn a.tmps).run P v.w=.ok (.tuple #[.agg us.toArray,u]) v.w:=by
  have e:=d.val t _ E;have C:=d.val s _ G;have hl:=dP_ (t:=ty) (w:=v.w) (b:=b) (off:=0) A I B (fun j y q=>by rw[Nat.zero_add,fT_ h hi];simpa using q);simp[results,x,e,C,asAddr,hl]
theorem pf_six (h:H.Perm ((Ha++(Hu++(Ho++(Hi++(Hr++(Hm++Hs))))))++F)):H.Perm (((Ha++(Hu++(Ho++(Hi++(Hr++Hm)))))++Hs)++F):=by simpa [List.append_assoc] using h
theorem xF_:(((Ha++(Hu++(Ho++(Hi++(Hr++Hm)))))++Hs)++F).Perm (Ha++(Hu++(Ho++(Hi++(Hr++(Hm++(Hs++F))))))):=by simp[List.append_assoc]
theorem xG_ {a b c:Nat×Obj} {d:Hp}:((Ha++(Hu++(Ho++(Hi++(Hr++(Hm++(a::b::([c]++d))))))))++F).Perm (Ha++(Hu++(Ho++(Hi++(Hr++(Hm++(a::b::([c]++(d++F))))))))):=by simp[List.append_assoc]
end
theorem jq_:iC_ Tryz.prog 67 [(0,1),(1,1)] [.slice none 0 0,.slice none 0 0]:=⟨_,Tryz.zeroValue67,cG_,fun w=>by simp[ck_,bT_]⟩
end Go.Proofs.YtpbnmnfdgckaiaaGreatDoor
namespace Go.Proofs.YtpbnmnfdgckaiaaGreatDoor
open Go Go.Sx Go.Proofs
attribute [local irreducible] Code.wp wpList wpAnyH
open Go.Vs Go.Shelf Go.RowKit
theorem ic_ {v d:Vw} (h:v.to [] d []) (H:¬ v.sl):∃ q os,d.w=Sort.grow (v.w.drewN q) os:=by
 have C:v.w.drawn≤d.w.drawn:=h.dr.resolve_left H;refine⟨d.w.drawn - v.w.drawn,d.w.heap.extract v.w.heap.size d.w.heap.size,?_⟩
 have A:d.w.heap=v.w.heap++d.w.heap.extract v.w.heap.size d.w.heap.size:=by
   apply Array.ext_getElem?
   intro i;have E:=h.size;rw[Array.getElem?_append]
   split
   · rename_i hi;exact h.block i hi zj_
   · rename_i hi
     rw[Array.getElem?_extract]
     split
     · congr 1;omega
     · rw[Array.getElem?_eq_none za_]
 have e:=h.os;have y:=h.tape;have x:=h.output;obtain⟨G,⟨I,K,dn,F,J⟩,B⟩:=d;simp only at e y x A C;simp only[Sort.grow,World.drewN,World.mk.injEq];exact⟨A,y,by omega,e,x⟩
theorem ym_ (d off size:Nat) (w:World):CmpLays Tryz.prog 79 #[] Fc.cells 6 hE_ d off size w:=fun m os B _ x y=>by
  have h:=(cmpF_c x y).run ⟨fun _=>False,sortWorldK Fc.cells 6 w d off m B os,False⟩ ⟨by simp,by simp,fun _ h=>h.elim⟩ trivial;refine h.mono ?_;rintro e w' ⟨_,F,rfl,rfl,_,_,C⟩;obtain⟨q,A,E⟩:=ic_ C (fun h=>h);exact⟨rfl,q,A,E⟩
theorem ltF (x y:Fc):ltOf hE_ x y=decide (x.lt y):=by unfold ltOf;rw[decide_eq_decide];exact rk_ x y
theorem xg_:Sort.SWO (ltOf hE_) where
 irrefl x:=by rw[ltF];exact decide_eq_false x.lt_irr
 trans x y z h1 h2:=by rw[ltF,decide_eq_true_eq]at *;exact Fc.lt_trans h1 h2
 ntrans x y z h1 h2:=by
   rw[ltF,decide_eq_false_iff_not]at *;intro h;rcases Fc.lt_tri x y with g|g|g
   · exact h1 g
   · subst g;exact h2 h
   · exact h2 (Fc.lt_trans g h)
theorem totF (x y:Fc) (e:ltOf hE_ x y=false) (d:ltOf hE_ y x=false):x=y:=by
 rw[ltF,decide_eq_false_iff_not]at e d;rcases Fc.lt_tri x y with g|g|g
 ·exact absurd g e
 ·exact g
 exact absurd g d
theorem hz_ (d:List Fc):Sort.flatK Fc.cells 6 d.toArray=(d.flatMap Fc.cells).toArray:=by
 apply Array.ext_getElem?
 intro t;have e:(d.flatMap Fc.cells).toArray[t]? = (d.flatMap Fc.cells)[t]? := by simp
 rw[e]
 by_cases q:t<d.length*6
 ·have h:t / 6<d.length:=by omega
  have:=kT_ Fc.cells 6 Fc.cells_len d (t / 6) (t%6) d[t / 6] (List.getElem?_eq_getElem h) (Nat.mod_lt _ ze_);rw[show t / 6*6+t%6=t by omega]at this;rw[this];simp only[Sort.flatK,Array.getElem?_map,List.size_toArray];rw[Array.getElem?_eq_getElem zah_];simp only[Array.getElem_range,Option.map_some];rw[getElem!_pos d.toArray (t / 6) zK_];have hl:t%6<(Fc.cells d[t / 6]).length:=by rw[Fc.cells_len];omega
  rw[List.getElem?_eq_getElem hl];simp only[List.getElem_toArray];rw[getElem!_pos (Fc.cells d[t / 6]) (t%6) hl]
 rw[List.getElem?_eq_none (by rw[dv_ Fc.cells 6 Fc.cells_len];omega),Array.getElem?_eq_none (by simp[Sort.flatK];omega)]
theorem lz_ {P:Program} {Γ:List Fct} {f:FuncId} {args:Array Value} {r:Value} {g:Nat} {cur:Array Value} {T:TypeId} {d:Array Value} (J:hc_ P f)
    (h:∀ v:Vw,v.sat [(g,.cells cur T (0,0))]→Calls P f args v.w fun e w'=>e=.returned r∧∃ n os,w'=Sort.grow (Sort.putRow id (Sort.ahead v.w n) g 0 d) os) :
    Tri P f args [(g,.cells cur T (0,0))] Γ (fun _:Unit=>r) (fun _=>[(g,.cells (Sort.putCells id 0 d cur) T (0,0))]) (fun _=>[]) :=
  ⟨J,fun v F _=>(h v F).mono fun e w' ⟨K,n,os,y⟩=>by
    have G:=(F.own _ List.mem_cons_self);have E:g<v.w.heap.size:=(Array.getElem?_eq_some_iff.1 G.1).1
    have B:∀ b,b<v.w.heap.size→w'.heap[b]? = if b=g then some (.cells (Sort.putCells id 0 d cur) T (0,0)) else v.w.heap[b]? := fun b B=>by
      rw[y];simp only[Sort.grow,Sort.putRow,Sort.mapBlock,Sort.ahead];rw[Array.getElem?_append_left zW_,Array.getElem?_modify]
      by_cases e:b=g
      · subst e
        simp only[if_true,G.1,Option.map_some,Sort.onCells]
      · rw[if_neg (fun q=>e q.symm),if_neg e]
    have A:v.w.heap.size≤w'.heap.size:=by rw[y];simp[Sort.grow,Sort.putRow,Sort.mapBlock,Sort.ahead]
    refine⟨(),⟨v.im,w',v.sl⟩,K,rfl,⟨fun p H=>?_,by simp,fun b x=>Nat.lt_of_lt_of_le (F.lt b x) A⟩,trivial,⟨by rw[y];rfl,by rw[y];rfl,by rw[y];rfl,A,fun b x I=>?_,fun _ h=>h,fun _ h=>.inl h,fun b hm=>.inl (by simpa using hm),rfl,.inr (by rw[y];exact Nat.le_add_right _ _)⟩⟩
    · simp only[List.mem_singleton]at H
      subst H;exact⟨by show w'.heap[g]? = _;rw[B g E,if_pos rfl],G.2⟩
    · have C:b≠g:=by simpa using I
      show w'.heap[b]? = _
      rw[B b x,if_neg C]⟩
theorem ot_ {cur:Array Value} {d:List Value} (h:d.length≤cur.size):(Sort.putCells id 0 d.toArray cur).toList.take d.length=d:=by
 apply List.ext_getElem?
 intro j;rw[List.getElem?_take]
 split
 ·rename_i e
  simp only[Sort.putCells,Array.getElem?_toList,Array.getElem?_mapIdx];rw[Array.getElem?_eq_getElem za_];simp only[Option.map_some,Nat.zero_le,true_and,Nat.zero_add,List.size_toArray,e,if_true,Nat.sub_zero];rw[List.getElem?_eq_getElem e,getElem!_pos d.toArray j zag_];rfl
 rename_i e
 rw[List.getElem?_eq_none za_]
theorem ou_ {cur d:Array Value}:(Sort.putCells id 0 d cur).size=cur.size:=by simp[Sort.putCells]
theorem wp_ {g:Nat} {cur:Array Value} {T:TypeId} {d:List Value} {v:Vw} (x:v.sat [(g,.cells cur T (0,0))]) (y:cur.toList.take d.length=d):Sort.Holds id v.w g 0 d.toArray:=by
 intro j e;have h:=(x.own _ List.mem_cons_self).1;simp only[List.size_toArray]at e
 have q:cur[j]? = some d[j]:=by
   have:=congrArg (fun l=>l[j]?) y;simp only[List.getElem?_take,e,if_true,Array.getElem?_toList]at this;rw[this,List.getElem?_eq_getElem e]
 refine⟨?_,?_⟩
 ·simp only[World.cell?,Nat.zero_add,h,Option.isSome_none,Bool.false_eq_true,if_false]
  rw[q,getElem!_pos d.toArray j zag_];rfl
 simp[World.frozen?,h]
def eP_ (xs:List Fc):List Fc:=xs.mergeSort fun x y=>!(ltOf hE_) y x
theorem dO_ (d:List Fc):(eP_ d).length=d.length:=List.length_mergeSort _
theorem qh_ (d:List Fc) (x:Fc):x∈eP_ d↔x∈d:=List.mem_mergeSort
theorem uY_ {A:List Fc} (h:A.Nodup):Srt (eP_ A):=by
 have d:(eP_ A).Pairwise fun x y=>(!(ltOf hE_) y x)=true:=List.pairwise_mergeSort
   (fun a b c d e=>by simp only[Bool.not_eq_true']at *;exact xg_.ntrans c b a e d)
   (fun a b=>by
     simp only[Bool.or_eq_true,Bool.not_eq_true'];rw[ltF,ltF,decide_eq_false_iff_not,decide_eq_false_iff_not];rcases Fc.lt_tri a b with g|g|g
     · exact .inl fun q=>Fc.lt_irr a (Fc.lt_trans g q)
     · subst g;exact .inl a.lt_irr
     · exact .inr fun q=>Fc.lt_irr a (Fc.lt_trans q g)) A
 have e:(eP_ A).Nodup:=(List.mergeSort_perm A _).nodup_iff.2 h;refine (d.and e).imp ?_;rintro x y ⟨a,b⟩;simp only[Bool.not_eq_true',ltF,decide_eq_false_iff_not]at a;rcases Fc.lt_tri x y with g|g|g
 ·exact g
 ·exact absurd g b
 exact absurd g a
theorem xp_ {sv:Value} {q:List Fc} {Hr:Hp} (h:ax_ 36 6 sv q.length (q.flatMap Fc.cells) Hr) (hl:q.length≤1000000000000) :
    Tri Tryz.prog 78 #[sv,.func (.func 79) #[] #[]] Hr [] (fun _:{y:Hp // ax_ 36 6 sv (eP_ q).length ((eP_ q).flatMap Fc.cells) y}=>.tuple #[]) (fun y=>y.1) (fun _=>[]):=by
  rcases h.2 with⟨rfl,I,rfl⟩|⟨g,cap,cur,rfl,rfl,N,M,G,J⟩
  · obtain rfl:q=[]:=List.eq_nil_of_length_eq_zero I
    have T:=cO_ (P:=Tryz.prog) (H:=[]) (Γ:=[]) (callable Tryz.func78 rfl rfl) (fun v _ _=>(AnyF.slices_SortFunc_none Tryz.sortFc none 0 (.func (.func 79) #[] #[]) v.w).mono zk_);exact⟨T.callable,fun v a b=>(T.run v a b).mono zY_⟩
  · have Q:(q.flatMap Fc.cells).length=q.length*6:=dv_ Fc.cells 6 Fc.cells_len q
    have T:=lz_ (P:=Tryz.prog) (Γ:=[]) (r:=.tuple #[]) (g:=g) (cur:=cur) (T:=36) (d:=((eP_ q).flatMap Fc.cells).toArray) (f:=78) (args:=#[.slice (some ⟨g,0,none⟩) q.length cap,.func (.func 79) #[] #[]]) (callable Tryz.func78 rfl rfl) (fun v O=>by
      have R:=AnyQ.slices_SortFunc_total Tryz.sortFc 6 aB_ s_ Fc.cells Fc.cells_len (fun x u S=>List.all_eq_true.1 x.cells_one u S) hE_ xg_ 79 #[] g 0 cap q.toArray v.w (fun args w=>(callable Tryz.func79 rfl rfl) args w) (ym_ g 0 _ v.w) zaD_ (Array.getElem?_eq_some_iff.1 (O.own _ List.mem_cons_self).1).1 zn_ totF;refine R.mono ?_;rintro e w' ⟨rfl,n,os,rfl⟩;refine⟨rfl,n,os,?_⟩;unfold sortWorldK Sort.putRowK;rw[show ((q.toArray.toList.mergeSort fun x y=>!(ltOf hE_) y x))=eP_ q from rfl,hz_])
    refine⟨T.callable,fun v a b=>(T.run v a b).mono ?_⟩;rintro e w' ⟨x,L,A,F,C,E,B⟩;have K:((eP_ q).flatMap Fc.cells).length=q.length*6:=by rw[dv_ Fc.cells 6 Fc.cells_len,dO_]
    refine⟨⟨_,by rw[K,dO_],.inr ⟨g,cap,_,by rw[dO_],rfl,by rw[dO_];exact N,M,by rw[ou_];exact G,?_⟩⟩,L,A,F,C,E,B⟩;have:=ot_ (cur:=cur) (d:=(eP_ q).flatMap Fc.cells) (by rw[K,G];omega);rw[K]at this;rw[dO_];exact this
section
variable {P:Program} {N:Nf} {v0:Vw} {H0:Hp} {fr:Fr} {H F:Hp} {Γ:List Fct} {K D:Type} [DecidableEq K]
theorem jA_:∀ (B:Hp) {v:Vw},ac_ (B.map fun p=>bU_ p.1 p.2) v→∀ p∈B,v.im p.1∧v.w.heap[p.1]? = some p.2
 | [],_,_,_,h=>by simp at h
 | q::B,v,h,p,d=>by
   rcases List.mem_cons.1 d with rfl|d
   · exact h.1
   · exact jA_ B h.2 p d
theorem nh_ {k:Act→World→Prop} {x:K→Value} {cells:D→List Value} {A e:TypeId} {sz y:Nat} {l:List (K×D)} {d:Hp} (E:KeyT P A x) (hm:cS_ x cells e sz l y d) (B:H.Perm (d++F))
    (h:∀ adr,Ok N v0 H0 k fr F (mlF P A x cells y l adr::Γ)):Ok N v0 H0 k fr H Γ:=by
  obtain⟨adr,C⟩:=hm.lent E;refine ni_ d B (nj_ (fun v _ q=>?_) (h adr));rw[eM_]at q;refine⟨C v fun p G=>?_,q.2⟩;have:=q.1;exact jA_ d.reverse (by rw[List.map_reverse]at *;exact this) p (List.mem_reverse.2 G)
theorem mw_ {d:TypeId} {E:Emt P d} {nw fm:List Fc} {Hs:Hp} {ty t q G:TypeId} {x:Operand} (hS:E.St nw fm Hs) (B:∀ w,(underlying t).run P w=.ok (.map q G) w) (A:Fr.ev fr x=some (.map (some E.kb))) (y:H.Perm (Hs++F)) :
    Yld P N fr H Γ (.call ⟨.builtin .len,#[x],#[t]⟩) ty (.int .i64 ((E.kof nw).length:Int)):=by
  obtain⟨es,c,C,e⟩:=E.known hS;exact mv_ e B A fun v h _=>na_ y C h
end
def sc_ (x:Ix) (n:Nat):Prop:=x.above.length≤n∧x.under.length≤n∧x.frm.length≤n∧x.into.length≤n∧x.ranges.length≤n∧x.firms.length≤n
theorem wd_:sc_ Ix.nil 0:=by simp[sc_,Ix.nil]
theorem kh_ {x:Ix} {n:Nat} (h:sc_ x n) (b:Bool) (f:Fc):sc_ (x.add b f) (n+1):=by
 obtain⟨d,y,e,B,A,q⟩:=h;unfold Ix.add sc_
 split
 ·simp;omega
 split
 ·simp;omega
 split
 ·cases b<;>simp<;>omega
 omega
theorem qR_ {x:Ix} {n:Nat} (h:sc_ x n) (C:n≤1000000000):(∀ k,(lat x.above k).length≤1000000000∧(lat x.under k).length≤1000000000)∧(∀ k,(lat x.frm k).length≤1000000000∧(lat x.into k).length≤1000000000∧(lat x.ranges k).length≤1000000000∧(lat x.firms k).length≤1000000000):=by
 obtain⟨d,y,e,B,A,q⟩:=h;refine⟨fun k=>⟨?_,?_⟩,fun k=>⟨?_,?_,?_,?_⟩⟩
 ·have:=dB_ x.above k;omega
 ·have:=dB_ x.under k;omega
 ·have:=dB_ x.frm k;omega
 ·have:=dB_ x.into k;omega
 ·have:=dB_ x.ranges k;omega
 have:=dB_ x.firms k;omega
theorem xw_ (B:EngB) (E:Emt Tryz.prog 36) (M:EngA) (A:List (Ky×Pc)) (x:Ix) (f:Fc) (nw fm:List Fc) (Hs:Hp) (hS:E.St nw fm Hs) (J L I C Hr G:Hp) (R:IxO 9 36 B x ⟨J,L,I,C,Hr,G⟩) (e:∀ k,(lat A k).length≤1000000000) (q:∀ k,(lat x.above k).length≤1000000000∧(lat x.under k).length≤1000000000) (d:∀ k,(lat x.frm k).length≤1000000000∧(lat x.into k).length≤1000000000∧(lat x.ranges k).length≤1000000000∧(lat x.firms k).length≤1000000000) (Q:f.kind=3→-1099511627776≤f.lo∧f.lo≤f.hi∧f.hi≤1099511627776) (O:f.kind=3→∀ y∈lat A (Ky.mk 9 f.r []),-1099511627776≤y.lo∧y.lo≤y.hi∧y.hi≤1099511627776) (hk:f.kind=1):∀ (j:Nat) {fv:Value},(rlV B.g 1)[j]? = some fv→∃ n:Nat,fv=.func (.func n) #[zp_ B.g 0] #[]∧Tri Tryz.prog n #[zp_ B.g 0,f.val] ((J++(L++(I++(C++(Hr++G)))))++Hs) [gF B E,pF B A M,E.ef] (fun _:{H':Hp // E.St (rl E.stp E.kof A x f j (nw,fm)).1 (rl E.stp E.kof A x f j (nw,fm)).2 H'}=>.tuple #[]) (fun y=>(J++(L++(I++(C++(Hr++G)))))++y.1) (fun _=>[])
  | 0,_,h=>⟨120,(Option.some.inj h).symm,rl10_c B E M A x f nw fm Hs hS J L I C Hr G R e q d Q O hk⟩
  | 1,_,h=>⟨121,(Option.some.inj h).symm,rl11_c B E M A x f nw fm Hs hS J L I C Hr G R e q d Q O hk⟩
  | 2,_,h=>⟨122,(Option.some.inj h).symm,rl12_c B E M A x f nw fm Hs hS J L I C Hr G R e q d Q O hk⟩
  | 3,_,h=>⟨123,(Option.some.inj h).symm,rl13_c B E M A x f nw fm Hs hS J L I C Hr G R e q d Q O hk⟩
  | 4,_,h=>⟨124,(Option.some.inj h).symm,rl14_c B E M A x f nw fm Hs hS J L I C Hr G R e q d Q O hk⟩
  | 5,_,h=>⟨125,(Option.some.inj h).symm,rl15_c B E M A x f nw fm Hs hS J L I C Hr G R e q d Q O hk⟩
  | j+6,_,h=>by simp[rlV]at h
theorem xv_ (B:EngB) (E:Emt Tryz.prog 36) (M:EngA) (e:List (Ky×Pc)) (x:Ix) (f:Fc) (nw fm:List Fc) (Hs:Hp) (hS:E.St nw fm Hs) (J L I C Hr G:Hp) (R:IxO 9 36 B x ⟨J,L,I,C,Hr,G⟩) (q:∀ k,(lat e k).length≤1000000000) (A:∀ k,(lat x.above k).length≤1000000000∧(lat x.under k).length≤1000000000) (d:∀ k,(lat x.frm k).length≤1000000000∧(lat x.into k).length≤1000000000∧(lat x.ranges k).length≤1000000000∧(lat x.firms k).length≤1000000000) (Q:f.kind=3→-1099511627776≤f.lo∧f.lo≤f.hi∧f.hi≤1099511627776) (O:f.kind=3→∀ y∈lat e (Ky.mk 9 f.r []),-1099511627776≤y.lo∧y.lo≤y.hi∧y.hi≤1099511627776) (hk:f.kind=2):∀ (j:Nat) {fv:Value},(rlV B.g 2)[j]? = some fv→∃ n:Nat,fv=.func (.func n) #[zp_ B.g 0] #[]∧Tri Tryz.prog n #[zp_ B.g 0,f.val] ((J++(L++(I++(C++(Hr++G)))))++Hs) [gF B E,pF B e M,E.ef] (fun _:{H':Hp // E.St (rl E.stp E.kof e x f j (nw,fm)).1 (rl E.stp E.kof e x f j (nw,fm)).2 H'}=>.tuple #[]) (fun y=>(J++(L++(I++(C++(Hr++G)))))++y.1) (fun _=>[])
  | 0,_,h=>⟨126,(Option.some.inj h).symm,rl20_c B E M e x f nw fm Hs hS J L I C Hr G R q A d Q O hk⟩
  | 1,_,h=>⟨127,(Option.some.inj h).symm,rl21_c B E M e x f nw fm Hs hS J L I C Hr G R q A d Q O hk⟩
  | 2,_,h=>⟨128,(Option.some.inj h).symm,rl22_c B E M e x f nw fm Hs hS J L I C Hr G R q A d Q O hk⟩
  | 3,_,h=>⟨129,(Option.some.inj h).symm,rl23_c B E M e x f nw fm Hs hS J L I C Hr G R q A d Q O hk⟩
  | j+4,_,h=>by simp[rlV]at h
theorem xu_ (B:EngB) (E:Emt Tryz.prog 36) (M:EngA) (d:List (Ky×Pc)) (x:Ix) (f:Fc) (nw fm:List Fc) (Hs:Hp) (hS:E.St nw fm Hs) (I L G e Hr A:Hp) (R:IxO 9 36 B x ⟨I,L,G,e,Hr,A⟩) (C:∀ k,(lat d k).length≤1000000000) (J:∀ k,(lat x.above k).length≤1000000000∧(lat x.under k).length≤1000000000) (q:∀ k,(lat x.frm k).length≤1000000000∧(lat x.into k).length≤1000000000∧(lat x.ranges k).length≤1000000000∧(lat x.firms k).length≤1000000000) (Q:f.kind=3→-1099511627776≤f.lo∧f.lo≤f.hi∧f.hi≤1099511627776) (O:f.kind=3→∀ y∈lat d (Ky.mk 9 f.r []),-1099511627776≤y.lo∧y.lo≤y.hi∧y.hi≤1099511627776) (hk:f.kind=3):∀ (j:Nat) {fv:Value},(rlV B.g 3)[j]? = some fv→∃ n:Nat,fv=.func (.func n) #[zp_ B.g 0] #[]∧Tri Tryz.prog n #[zp_ B.g 0,f.val] ((I++(L++(G++(e++(Hr++A)))))++Hs) [gF B E,pF B d M,E.ef] (fun _:{H':Hp // E.St (rl E.stp E.kof d x f j (nw,fm)).1 (rl E.stp E.kof d x f j (nw,fm)).2 H'}=>.tuple #[]) (fun y=>(I++(L++(G++(e++(Hr++A)))))++y.1) (fun _=>[])
  | 0,_,h=>⟨130,(Option.some.inj h).symm,rl30_c B E M d x f nw fm Hs hS I L G e Hr A R C J q Q O hk⟩
  | 1,_,h=>⟨131,(Option.some.inj h).symm,rl31_c B E M d x f nw fm Hs hS I L G e Hr A R C J q Q O hk⟩
  | j+2,_,h=>by simp[rlV]at h
def fv_ (p:List Pc) (bu:Int) (c:Cl) (e:Int):Prop :=
  if db_ p≠0 then c=Cl.no∧e=db_ p
  else if bu<0∨1073741824<bu then c=Cl.no∧e=1
  else (e=0∧c.ok∧c.atoms=atS p∧gD_ p (atS p) (min bu 65536).toNat (some c.facts))∨(c=Cl.no∧e=(if bu<65536 then 3 else 2)∧gD_ p (atS p) (min bu 65536).toNat none)
theorem wR_ {p:List Pc} {d:Int} (h:db_ p≠0):fv_ p d Cl.no (db_ p):=by unfold fv_;rw[if_pos h];exact⟨rfl,rfl⟩
theorem wS_ {p:List Pc} {d:Int} (h:db_ p=0) (e:d<0∨1073741824<d):fv_ p d Cl.no 1:=by unfold fv_;rw[if_neg (by simp[h]),if_pos e];exact⟨rfl,rfl⟩
theorem yD_ {p:List Pc} {d:Int} {m n:Nat} {c:Cl} {q fm:List Fc} {x:Ix} (E:db_ p=0) (G:¬ d<0) (I:¬ 1073741824<d) (hm:min d 65536=(m:Int)) (hk:c.ok) (B:c.atoms=atS p) (h:LoopA (uniq [] p) (atS p) m n q fm x) (C:q.length≤n) (hl:q.length≤m) (A:c.facts=eP_ q):fv_ p d c 0:=by
  unfold fv_;rw[if_neg (by simp[E]),if_neg za_];have e:n=q.length:=Nat.le_antisymm h.le C;subst e;refine .inl ⟨rfl,hk,B,?_⟩;rw[hm,A];exact⟨uY_ h.nd,fun y=>by rw[qh_,← sa_ h hl,qd_],by rw[dO_];simpa using hl⟩
theorem ja_ {p:List Pc} {d:Int} {m:Nat} {e:Int} {M:List Fc} (h:db_ p=0) (C:¬ d<0) (B:¬ 1073741824<d) (hm:min d 65536=(m:Int)) (x:e=if d<65536 then 3 else 2) (nd:M.Nodup) (q:∀ y∈M,Der (uniq [] p) (atS p) y) (hl:m<M.length):fv_ p d Cl.no e:=by
  unfold fv_;rw[if_neg (by simp[h]),if_neg za_];exact .inr ⟨rfl,x,M,nd,fun y A=>qd_.1 (q y A),by rw[hm];simpa using hl⟩
end Go.Proofs.YtpbnmnfdgckaiaaGreatDoor
