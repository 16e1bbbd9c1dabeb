/-
  Part of the proof of the law CanonRoles over this seat: the small logic, the data, the contracts of functions (no condition).
-/
import Derived.Test.YtpbnmnfdgckaiaaGreatDoorQCanonRoles9
import Derived.Test.YtpbnmnfdgckaiaaGreatDoorQCanonRoles8
import Derived.Shelf.SlSortCmp.NoneTotal
import Derived.Test.YtpbnmnfdgckaiaaGreatDoorProg
import Derived.Test.YtpbnmnfdgckaiaaGreatDoorQCanonRoles7
import Derived.Test.YtpbnmnfdgckaiaaGreatDoorQCanonRoles6
import Derived.Test.YtpbnmnfdgckaiaaGreatDoorQCanonRoles2
import Derived.Lib.Bytealg
import Derived.Lib.Small
import Derived.Test.YtpbnmnfdgckaiaaGreatDoorQCanonRoles3
set_option linter.unusedVariables false
set_option linter.unusedSimpArgs false
set_option linter.unusedSectionVars false
set_option maxHeartbeats 1000000
namespace Go.Proofs.YtpbnmnfdgckaiaaGreatDoor
open Go Go.Sx Go.Proofs
attribute [local irreducible] Code.wp wpList wpAnyH
open Go.Vs
theorem lm_ (x:Pc) (ro at':Str) (v:List (Ky×Pc)) (A B:Nat) (g pb kb ab ub ob ib rb sb fb:Nat) (ev:Value) (lv:Value) (R:Hp) (hm:cS_ Ky.val Pc.cells 174 10 v pb R) (C:v.length≤1000000000):Tri Tryz.prog 161 #[str ro,str at',zp_ A 0,zp_ B 0] ((A,.cells #[.int .i64 x.kind,str x.a,str x.b,str x.c,str x.r,str x.s,str x.t,.int .i64 x.lo,.int .i64 x.hi,.int .i64 x.frm] 174 (0,0))::(B,.cells #[zp_ g 0] 116 (0,0))::(g,.cells #[.map (some pb),lv,.map (some kb),ev,.map (some ab),.map (some ub),.map (some ob),.map (some ib),.map (some rb),.map (some sb),.map (some fb)] 124 (0,0))::R) [] (fun _:{H:Hp // cS_ Ky.val Pc.cells 174 10 (v++[((Ky.mk x.kind ro at'),x)]) pb H}=>.tuple #[]) (fun y=>(A,.cells #[.int .i64 x.kind,str x.a,str x.b,str x.c,str x.r,str x.s,str x.t,.int .i64 x.lo,.int .i64 x.hi,.int .i64 x.frm] 174 (0,0))::(B,.cells #[zp_ g 0] 116 (0,0))::(g,.cells #[.map (some pb),lv,.map (some kb),ev,.map (some ab),.map (some ub),.map (some ob),.map (some ib),.map (some rb),.map (some sb),.map (some fb)] 124 (0,0))::y.1) (fun _=>[]):=by
  refine i_ Tryz.func161 rfl rfl Tryz.ntmps161 rfl fun S=>?_;refine Zz 6 ?_;refine e_ (H_ eD_ rfl rfl) rfl (G_ Tryz.zeroValue208 rfl fun G=>u_ 0 Tryz.sizeOf208 rfl rfl rfl rfl rfl rfl (Zz 2 ?_));refine ag_ ((G,.cells #[.int .i64 x.kind,str ro,str at'] 208 (0,0))::((A,.cells #[.int .i64 x.kind,str x.a,str x.b,str x.c,str x.r,str x.s,str x.t,.int .i64 x.lo,.int .i64 x.hi,.int .i64 x.frm] 174 (0,0))::((B,.cells #[zp_ g 0] 116 (0,0))::((g,.cells #[.map (some pb),lv,.map (some kb),ev,.map (some ab),.map (some ub),.map (some ob),.map (some ib),.map (some rb),.map (some sb),.map (some fb)] 124 (0,0))::[])))) zk ?_;refine J_ 6 [0,1,2,3,4,5] zk zs (Zz 7 ?_);refine s_ 6 rfl zk (U_ D_ F_ P_ rfl rfl rfl rfl rfl rfl fun U=>Zz 2 ?_);refine O_ zs (s_ 7 rfl zk ?_);have E:=Nat.le_trans (dx_ v (Ky.mk x.kind ro at')) C;refine ff_ (k:=(Ky.mk x.kind ro at')) hJ_ hm bK_ bS_ rfl rfl (c_ (c_ (c_ (c_ C_)))) rfl fun O N L K M P Q m q=>Zz 2 ?_
  refine O_ (fun _ a b=>⟨Vw.sat.sub (a.perm (j_ (c_ (f_ (f_ (c_ d_)))) (j_ (c_ (f_ (f_ (c_ d_)))) (j_ (c_ (f_ (f_ (c_ d_)))) (c_ (f_ (f_ (c_ d_)))))))),b⟩) (J_ 2 [8,10] zk (fun _ a b=>⟨Vw.sat.sub (a.perm (j_ (c_ (f_ (f_ (c_ d_)))) (j_ (c_ (f_ (f_ (c_ d_)))) (j_ (c_ (f_ (f_ (c_ d_)))) (c_ (f_ (f_ (c_ d_)))))))),b⟩) (Zz 3 ?_));refine s_ 9 rfl zk (an_ (news:=List.flatMap Pc.cells [x]) vO_ q rfl rfl zp rfl (fc_ zp) (fun u T=>aA_ Pc.cells_one T) zm_ za_ rfl fun I J h=>?_);have e:=zsa h;refine Zz 2 ?_;refine O_ (fun _ a b=>⟨Vw.sat.sub (a.perm (j_ (f_ (c_ (f_ (c_ d_)))) (j_ (f_ (c_ (f_ (c_ d_)))) (j_ (f_ (c_ (f_ (c_ d_)))) (f_ (c_ (f_ (c_ d_)))))))),b⟩) (s_ 11 rfl zk (cW_ (k:=(Ky.mk x.kind ro at')) (dd:=x) m (by rw[dZ_];exact e) rfl rfl rfl (dX_ (j_ (f_ d_) (A_ t_ t_))) fun F d=>?_));refine Zz 2 ?_;refine O_ zs (Zz 2 ?_);exact cl_ Tryz.results161 ⟨F,d⟩ rfl zp zt
theorem hS_ {G:Prop} (h:G:=by
 have k:lps=lps++au_ [x]:=by simp[au_, *]
 exact cl_ Tryz.results114 ⟨(lv,d,F),h▸e,k▸hl⟩ rfl zp zt):G:=h
theorem hT_ {G:Prop} (h:G:=by
 have k:lps=lps++au_ [x]:=by simp[au_, *]
 exact cl_ Tryz.results114 ⟨(lv,C,F),h▸B,k▸hl⟩ rfl zp zt):G:=h
theorem kV_ {G:Prop} (h:G:=by
 refine ap_ (lm_ x x.r [] m v q g pb kb ab ub ob ib rb sb fb ev lv E hm zt_) rfl rfl zp zt rfl fun⟨d,e⟩=>?_;dsimp only;simp only[List.cons_append];refine Zz 2 ?_;have h:(m++[((Ky.mk x.kind x.r []),x)])=m++cZ_ x:=by simp[cZ_, *]
 exact hS_):G:=h
theorem kW_ {G:Prop} (h:G:=by
 refine Zz 2 ?_;refine O_ zs (J_ 1 [9,10] zk zs (Zz 3 ?_));refine s_ 11 rfl zk (z_ (S_ (f_ d_) (S_ (f_ d_) (S_ (f_ d_) (bb_ (f_ d_))))) (dm_ 3 A bO_ rfl rfl rfl rfl (Zz 2 ?_)));refine O_ (fun _ a b=>⟨Vw.sat.sub (a.perm (j_ (c_ d_) (c_ d_))),b⟩) (Zz 2 ?_);have h:m=m++cZ_ x:=by simp[cZ_, *]
 have k:(lps++[x.r])=lps++au_ [x]:=by simp[au_, *]
 exact cl_ Tryz.results114 ⟨(H,E,J),h▸hm,k▸A⟩ rfl (j_ (c_ (c_ (c_ d_))) (A_ (c_ (c_ (c_ aP_))) (c_ (c_ C_)))) zt):G:=h
theorem hU_ {G:Prop} (h:G:=by
 refine ap_ (lm_ x [] x.a m v q g pb kb ab ub ob ib rb sb fb ev lv E hm zt_) rfl rfl zp zt rfl fun⟨d,e⟩=>?_;dsimp only;simp only[List.cons_append];refine Zz 2 ?_;have h:(m++[((Ky.mk x.kind [] x.a),x)])=m++cZ_ x:=by simp[cZ_, *]
 exact hS_):G:=h
theorem tZ_ (x:Pc) (m:List (Ky×Pc)) (lps:List Str) (g pb kb ab ub ob ib rb sb fb:Nat) (ev:Value) (lv:Value) (E F:Hp) (hm:cS_ Ky.val Pc.cells 174 10 m pb E) (hl:zR 9 1 af_ lv lps F) (U:m.length≤900000000) (V:lps.length≤900000000):Tri Tryz.prog 114 #[zp_ g 0,Pc.val x] ((g,.cells #[.map (some pb),lv,.map (some kb),ev,.map (some ab),.map (some ub),.map (some ob),.map (some ib),.map (some rb),.map (some sb),.map (some fb)] 124 (0,0))::(E++F)) [] (fun _:{y:Value×Hp×Hp // cS_ Ky.val Pc.cells 174 10 (m++cZ_ x) pb y.2.1∧zR 9 1 af_ y.1 (lps++au_ [x]) y.2.2}=>.tuple #[]) (fun y=>(g,.cells #[.map (some pb),y.1.1,.map (some kb),ev,.map (some ab),.map (some ub),.map (some ob),.map (some ib),.map (some rb),.map (some sb),.map (some fb)] 124 (0,0))::(y.1.2.1++y.1.2.2)) (fun _=>[]):=by
 refine i_ Tryz.func114 rfl rfl Tryz.ntmps114 rfl fun T=>?_;refine Zz 2 ?_;refine aa_ rfl rfl fun q=>aa_ rfl rfl fun v=>Zz 4 ?_
 refine e_ (bI_ rfl rfl) rfl (Zi 13 (fun K=>?_) fun K=>?_)
 ·refine Zi 6 (fun I=>?_) fun I=>?_
  ·refine Zi 5 (fun L=>?_) fun L=>?_
   ·refine Zi 6 (fun O=>?_) fun O=>?_
    ·refine Zi 6 (fun G=>?_) fun G=>?_
     ·refine Zi 7 (fun P=>?_) fun P=>?_
      ·refine Zi 5 (fun N=>?_) fun N=>?_
       ·refine Zi 6 (fun M=>?_) fun M=>?_
        ·refine Zi 6 (fun Q=>?_) fun Q=>?_
         ·refine Zz 6 ?_
          have h:m=m++cZ_ x:=by simp[cZ_, *]
          have k:lps=lps++au_ [x]:=by simp[au_, *]
          exact cl_ Tryz.results114 ⟨(lv,E,F),h▸hm,k▸hl⟩ rfl zp zt
         refine Zz 4 ?_;refine ag_ ((v,.cells #[.int .i64 x.kind,str x.a,str x.b,str x.c,str x.r,str x.s,str x.t,.int .i64 x.lo,.int .i64 x.hi,.int .i64 x.frm] 174 (0,0))::((q,.cells #[zp_ g 0] 116 (0,0))::[])) zk ?_;refine J_ 6 [0,1,2,3,5,6] zk zs (Zz 7 ?_);refine gx_ 4 7 rfl rfl zk ?_ ?_
         ·refine Zz 3 ?_
          refine O_ zs (s_ 7 rfl zk (U_ l_ E_ av_ rfl rfl rfl rfl rfl rfl fun R=>Zz 2 ?_));refine O_ zs (s_ 8 rfl zk (an_ (news:=List.flatMap af_ [x.r]) cB_ hl rfl rfl zp rfl (aO_ 0 rfl) (fun u S=>aA_ ch_ S) (by simp only[maxLen];first|omega|(simp;omega)) zt_ rfl fun H J K=>?_));have A:=zsa K;exact kW_
         refine U_ l_ E_ av_ rfl rfl rfl rfl rfl rfl fun R=>Zz 2 ?_
         refine O_ zs (s_ 4 rfl zk (Zz 3 ?_));refine O_ zs (s_ 8 rfl zk (an_ (news:=List.flatMap af_ [x.r]) cB_ hl rfl rfl zp rfl (aO_ 0 rfl) (fun u S=>aA_ ch_ S) (by simp only[maxLen];first|omega|(simp;omega)) zt_ rfl fun H J I=>?_));have A:=zsa I;exact kW_
        refine Zz 9 ?_;refine ap_ (lm_ x x.r [] m v q g pb kb ab ub ob ib rb sb fb ev lv E hm zt_) rfl rfl zp zt rfl fun⟨d,e⟩=>?_;dsimp only;simp only[List.cons_append];refine Zz 6 ?_;refine ap_ (lm_ x [] x.s (m++[((Ky.mk x.kind x.r []),x)]) v q g pb kb ab ub ob ib rb sb fb ev lv d e zt_) rfl rfl zp zt rfl fun⟨C,B⟩=>?_;dsimp only;simp only[List.cons_append];refine Zz 2 ?_;have h:((m++[((Ky.mk x.kind x.r []),x)])++[((Ky.mk x.kind [] x.s),x)])=m++cZ_ x:=by simp[cZ_, *]
        exact hT_
       refine Zz 8 ?_;exact kV_
      refine Zz 11 ?_;exact kV_
     refine Zz 9 ?_;refine ap_ (lm_ x [] x.a m v q g pb kb ab ub ob ib rb sb fb ev lv E hm zt_) rfl rfl zp zt rfl fun⟨d,e⟩=>?_;dsimp only;simp only[List.cons_append];refine Zz 8 ?_;refine ap_ (lm_ x x.r x.a (m++[((Ky.mk x.kind [] x.a),x)]) v q g pb kb ab ub ob ib rb sb fb ev lv d e zt_) rfl rfl zp zt rfl fun⟨C,B⟩=>?_;dsimp only;simp only[List.cons_append];refine Zz 2 ?_;have h:((m++[((Ky.mk x.kind [] x.a),x)])++[((Ky.mk x.kind x.r x.a),x)])=m++cZ_ x:=by simp[cZ_, *]
     exact hT_
    refine Zz 9 ?_;refine ap_ (lm_ x [] x.a m v q g pb kb ab ub ob ib rb sb fb ev lv E hm zt_) rfl rfl zp zt rfl fun⟨d,e⟩=>?_;dsimp only;simp only[List.cons_append];refine Zi 8 (fun G=>?_) fun G=>?_
    ·refine Zz 5 ?_
     have h:(m++[((Ky.mk x.kind [] x.a),x)])=m++cZ_ x:=by simp[cZ_, *]
     exact hS_
    refine Zz 7 ?_;refine ap_ (lm_ x [] x.b (m++[((Ky.mk x.kind [] x.a),x)]) v q g pb kb ab ub ob ib rb sb fb ev lv d e zt_) rfl rfl zp zt rfl fun⟨C,B⟩=>?_;dsimp only;simp only[List.cons_append];refine Zz 2 ?_;have h:((m++[((Ky.mk x.kind [] x.a),x)])++[((Ky.mk x.kind [] x.b),x)])=m++cZ_ x:=by simp[cZ_, *]
    exact hT_
   refine Zz 8 ?_;exact hU_
  refine Zz 11 ?_;exact hU_
 refine Zz 11 ?_;exact hU_
structure NewE where
  g:Nat
  pb:Nat
  kb:Nat
  ab:Nat
  ub:Nat
  ob:Nat
  ib:Nat
  rb:Nat
  sb:Nat
  fb:Nat
  lv:Value
  hm:Hp
  hl:Hp
def NewE.ok (ps:List Pc) (y:NewE):Prop:=cS_ Ky.val Pc.cells 174 10 (aL_ ps) y.pb y.hm∧zR 9 1 af_ y.lv (au_ ps) y.hl
def NewE.own (y:NewE):Hp:=(y.g,.cells #[.map (some y.pb),y.lv,.map (some y.kb),.nilFunc,.map (some y.ab),.map (some y.ub),.map (some y.ob),.map (some y.ib),.map (some y.rb),.map (some y.sb),.map (some y.fb)] 124 (0,0))::(y.kb,.map #[] 0)::(y.ab,.map #[] 0)::(y.ub,.map #[] 0)::(y.ob,.map #[] 0)::(y.ib,.map #[] 0)::(y.rb,.map #[] 0)::(y.sb,.map #[] 0)::(y.fb,.map #[] 0)::(y.hm++y.hl)
theorem fK_ {p:List Pc} {i:Nat} {x:Pc} (h:p[i]? = some x):uniq [] (List.take (i+1) p)=if x.zf∈uniq [] (List.take i p) then uniq [] (List.take i p) else uniq [] (List.take i p)++[x.zf]:=by
  have d:∀ (l:List Pc) (r:List Pc),uniq l (r++[x])=if x.zf∈uniq l r then uniq l r else uniq l r++[x.zf]:=by
    intro l r
    induction r generalizing l with
    | nil=>rfl
    | cons y r ih=>exact ih _
  rw[List.take_add_one,h,Option.toList_some];exact d _ _
theorem tv_ (l:List Pc) (x:Pc):aL_ (l++[x])=aL_ l++cZ_ x:=by simp[aL_]
theorem oN_ (l:List Pc) (x:Pc):au_ (l++[x])=au_ l++au_ [x]:=by simp[au_]
theorem uT_ (x:Pc):(cZ_ x).length≤2:=by unfold cZ_;(repeat' split)<;>simp
theorem mF_:∀ l:List Pc,(aL_ l).length≤2*l.length
  | []=>by simp[aL_]
  | x::l=>by
    have:=mF_ l;have d:=uT_ x;simp only[aL_,List.flatMap_cons,List.length_append,List.length_cons]at this ⊢;omega
theorem lq_ (l:List Pc):(au_ l).length≤l.length:=by
  simp only[au_,List.length_map];exact List.length_filter_le _ _
theorem qn_ (p:List Pc) (J:Option Addr) (O:Nat) (hp:p.length≤100000000):Tri Tryz.prog 72 #[.slice J (List.length p) O] [] [ah_ J (List.flatMap Pc.cells p)] (fun y:{y:NewE // y.ok (uniq [] p)}=>zp_ y.1.g 0) (fun y=>y.1.own) (fun _=>[]):=by
 refine i_ Tryz.func72 rfl rfl Tryz.ntmps72 rfl fun v_1=>?_;refine Zz 7 ?_;refine aY_ rfl fun B=>aY_ rfl fun M=>aY_ rfl fun G=>aY_ rfl fun E=>aY_ rfl fun L=>aY_ rfl fun I=>aY_ rfl fun K=>aY_ rfl fun H=>aY_ rfl fun F=>e_ (H_ wG_ rfl rfl) rfl ?_
 refine aa_ rfl rfl fun x=>Zz 5 ?_
 refine aY_ rfl fun N=>Zz 12 ?_
 refine L_ (ι:={y:Nat×Array MapEntry×Nat×Hp×Value×Hp // y.1≤List.length p∧SetE Pc.val y.2.1 (uniq [] (List.take y.1 p))∧cS_ Ky.val Pc.cells 174 10 (aL_ (uniq [] (List.take y.1 p))) B y.2.2.2.1∧zR 9 1 af_ y.2.2.2.2.1 (au_ (uniq [] (List.take y.1 p))) y.2.2.2.2.2}) (fun y=>[(3,zp_ x 0),(4,.map (some N)),(19,.slice J (List.length p) O),(20,.int .i64 (List.length p:Int)),(21,.int .i64 (y.1.1:Int))]) (fun y=>((x,.cells #[.map (some B),y.1.2.2.2.2.1,.map (some M),.nilFunc,.map (some G),.map (some E),.map (some L),.map (some I),.map (some K),.map (some H),.map (some F)] 124 (0,0))::((N,.map y.1.2.1 y.1.2.2.1)::((M,.map #[] 0)::((G,.map #[] 0)::((E,.map #[] 0)::((L,.map #[] 0)::((I,.map #[] 0)::((K,.map #[] 0)::((H,.map #[] 0)::((F,.map #[] 0)::(y.1.2.2.2.1++y.1.2.2.2.2.2)))))))))))) (fun y=>[ah_ J (List.flatMap Pc.cells p)]) (fun y=>List.length p - y.1.1) ⟨((0:Nat),#[],0,[(B,.map #[] 0)],(.slice none 0 0),[]),by simp,by exact SetE.nil,by exact cS_.nil _ _,(aw_.nil 9 1)⟩ zl zp zh ?_;rintro ⟨⟨i,es,cs,Hm,C,P⟩,hi,hE,hm,e⟩;dsimp only at hi hE hm e ⊢;have a3:=jD_ (List.take i p) [];have hbt:=List.length_take_le i p;simp only[List.length_nil]at a3;have a0:(aL_ (uniq [] (List.take i p))).length≤900000000:=by have:=mF_ (uniq [] (List.take i p));omega
 have a1:(au_ (uniq [] (List.take i p))).length≤900000000:=by have:=lq_ (uniq [] (List.take i p));omega
 refine Zi 2 (fun T=>?_) fun T=>?_
 ·refine Zz 13 ?_
  have Z:List.take i p=p:=List.take_of_length_le za_;rw[Z]at hm e;exact ae_ Tryz.results72 ⟨NewE.mk x B M G E L I K H F C Hm P,hm,e⟩ rfl (j_ d_ (j_ (c_ d_) (j_ (c_ d_) (j_ (c_ d_) (j_ (c_ d_) (j_ (c_ d_) (j_ (c_ d_) (j_ (c_ d_) (j_ (c_ d_) (A_ (c_ t_) C_)))))))))) zt
 obtain⟨A,Q,d,a2⟩:=zge (show i<List.length p by omega);refine Zz 12 ?_;refine G_ P_ rfl fun b_12=>u_ 0 F_ rfl rfl rfl rfl rfl rfl (Zz 5 ?_)
 refine u_ 0 ak_ rfl rfl rfl rfl rfl rfl (Zz 6 ?_);refine B_ (bs_ (k:=Pc.zf Q) (q:=(uniq [] (List.take i p))) vu_ iX_ az_ rfl rfl hE (fun v h _=>(h.own _ (List.mem_of_getElem? (i:=2) rfl)).1)) rfl fun a4 m=>e_ (ax_ rfl) rfl (Zz 2 ?_)
 cases a4
 ·replace m:=zdf m
  refine Zz 5 ?_;refine mK_ (k:=Pc.zf Q) (q:=(uniq [] (List.take i p))) 2 vu_ (.inr rfl) iX_ rfl rfl rfl rfl hE fun S c_1 X=>Zz 5 ?_
  refine g_ (tZ_ Q.zf (aL_ (uniq [] (List.take i p))) (au_ (uniq [] (List.take i p))) x B M G E L I K H F .nilFunc C Hm P hm e  a0 a1) rfl (j_ (c_ d_) (A_ (c_ (c_ (c_ (c_ (c_ (c_ (c_ (c_ (c_ (c_ t_)))))))))) (c_ (c_ (c_ (c_ (c_ (c_ (c_ (c_ (c_ C_))))))))))) zt rfl fun⟨⟨R,Y,V⟩,W,U⟩=>?_;dsimp only;simp only[List.cons_append,List.append_assoc];refine Zz 2 ?_;refine z_ (S_ d_ (S_ (f_ (f_ d_)) (S_ (f_ (f_ d_)) (S_ (f_ (f_ d_)) (S_ (f_ (f_ d_)) (S_ (f_ (f_ d_)) (S_ (f_ (f_ d_)) (S_ (f_ (f_ d_)) (S_ (f_ (f_ d_)) (S_ (f_ (f_ d_)) (bb_ (f_ aP_)))))))))))) (Zz 5 ?_);exact x_ ⟨(i+1,S,c_1,Y,R,V),A,by rw[fK_ d];exact X,by rw[fK_ d,if_neg zi_,tv_];exact W,(by rw[fK_ d,if_neg zi_,oN_];exact U)⟩ zb_ zl zp zh
 replace m:=zdt m;refine Zz 8 ?_;exact x_ ⟨(i+1,es,cs,Hm,C,P),A,by rw[fK_ d,if_pos zi_];exact hE,by rw[fK_ d,if_pos zi_];exact hm,(by rw[fK_ d,if_pos zi_];exact e)⟩ zb_ zl (j_ (c_ d_) (j_ (c_ d_) (j_ (c_ d_) (j_ (c_ d_) (j_ (c_ d_) (j_ (c_ d_) (j_ (c_ d_) (j_ (c_ d_) (j_ (c_ d_) (j_ (c_ d_) (A_ (c_ t_) C_))))))))))) zh
theorem me_ {P:Program} {N:Nf} {fr:Fr} {H:Hp} {Γ:List Fct} {ty:TypeId} {K:Type} [DecidableEq K] {y:K→Value} {t h m:TypeId} {x:Operand} {d c:Nat} {es:Array MapEntry} {q:List K} (hE:SetE y es q) (e:∀ w,(underlying t).run P w=.ok (.map h m) w) (k:Fr.ev fr x=some (.map (some d))) (hm:∀ v,v.sat H→Z_ Γ v→v.w.heap[d]? = some (.map es c)) :
    Yld P N fr H Γ (.call ⟨.builtin .len,#[x],#[t]⟩) ty (.int .i64 (q.length:Int)):=by
  rw[← hE.size];exact ui_ e k hm
def andF (a b:Fct):Fct where
  p v:=a.p v∧b.p v
  mono:=fun v v' h ⟨h1,h2⟩=>⟨a.mono v v' h h1,b.mono v v' h h2⟩
def StA (b9 kb fb:Nat) (nw fm:List Fc) (H:Hp):Prop:=∃ sv es c es' c' q Hq,H=(b9,.cells #[sv] 26 (0,0))::(kb,.map es c)::([(fb,.map es' c')]++Hq)∧aw_ 36 6 sv nw.length (nw.flatMap Fc.cells) Hq∧SetE Fc.val es nw∧SetE Fc.val es' q∧∀ f,f∈q↔f∈fm
theorem kU_ {G:Prop} (h:G:=by
 have d:bm_ m f nw=nw:=by unfold bm_;rw[if_neg (by rintro ⟨P,E⟩;first|omega|exact absurd zi_ E)]
 exact cl_ Tryz.results73 ⟨_,sv,es,c,A,K,q,L,rfl,by rw[d];exact Q,by rw[d];exact hE,N,R⟩ rfl zp zt):G:=h
theorem xF_ (f:Fc) (nw fm:List Fc) (m:Nat) (hm:m≤65536) (g U V M kb fb:Nat) (Z X c3 c4 c5 c6 c7 c8 c9 O sv:Value) (es A:Array MapEntry) (c K:Nat) (q:List Fc) (L:Hp) (Q:aw_ 36 6 sv nw.length (nw.flatMap Fc.cells) L) (hE:SetE Fc.val es nw) (N:SetE Fc.val A q) (R:∀ f,f∈q↔f∈fm):Tri Tryz.prog 73 #[Fc.val f,zp_ U 0,zp_ V 0,zp_ M 0] ((M,.cells #[sv] 26 (0,0))::(kb,.map es c)::([(fb,.map A K)]++L)) [bW_ U (.cells #[zp_ g 0] 116 (0,0)),bW_ V (.cells #[.int .i64 (m:Int)] 3 (0,0)),bW_ g (.cells #[Z,X,.map (some kb),c3,c4,c5,c6,c7,c8,c9,O] 124 (0,0))] (fun _:{H:Hp // StA M kb fb (bm_ m f nw) fm H}=>.tuple #[]) (fun y=>y.1) (fun _=>[]):=by
 refine i_ Tryz.func73 rfl rfl Tryz.ntmps73 rfl fun W=>?_;refine Zz 2 ?_;refine aa_ rfl rfl fun S=>Zz 4 ?_
 refine J_ 8 [0,1,2,3,4,5,6,7] zk zs (Zz 4 ?_);refine N_ rfl (me_ hE bf_ rfl (fun v h _=>(h.own _ (List.mem_of_getElem? (i:=2) rfl)).1)) rfl (Zi 1 (fun x=>?_) fun x=>?_)
 ·refine Zz 2 ?_
  refine J_ 0 [8,9,10,11,12,13,14,15] zk zs (Zz 14 ?_);exact kU_
 refine Zz 2 ?_;refine J_ 0 [8,9,10,11,12,13,14,15] zk zs (Zz 5 ?_);refine eh_ rfl rfl rfl (bs_ (k:=f) jQ_ bf_ az_ rfl rfl hE (fun v h _=>(h.own _ (List.mem_of_getElem? (i:=2) rfl)).1)) rfl fun T e=>bu_ rfl rfl rfl (ax_ rfl) rfl (Zz 4 ?_)
 cases T
 ·replace e:=zdf e
  refine Zz 2 ?_;refine ag_ ((S,.cells #[.int .i64 f.kind,str f.a,str f.b,str f.r,.int .i64 f.lo,.int .i64 f.hi] 36 (0,0))::((M,.cells #[sv] 26 (0,0))::[])) zk ?_;refine J_ 1 [0,1,2,3,4] zk zs (Zz 6 ?_);refine s_ 5 rfl zk (mK_ (k:=f) 2 jQ_ (.inr rfl) bf_ rfl rfl rfl rfl hE fun J I C=>Zz 8 ?_);refine U_ w_ y_ X_ rfl rfl rfl rfl rfl rfl fun a0=>?_;refine an_ (news:=List.flatMap Fc.cells [f]) eb_ Q rfl rfl (c_ (c_ (c_ (c_ aP_)))) rfl (aO_ 0 rfl) (fun u Y=>aA_ Fc.cells_one Y) zm_ za_ rfl fun F G x=>?_;have B:=zsa x;refine z_ (S_ (f_ d_) (S_ (f_ d_) (S_ (f_ d_) (bb_ (f_ d_))))) (dm_ 2 B ci_ rfl rfl rfl rfl (Zz 2 ?_));have d:bm_ m f nw=nw++[f]:=by unfold bm_;rw[if_pos ⟨by omega,by assumption⟩]
  exact cl_ Tryz.results73 ⟨_,F,J,I,A,K,q,G,rfl,by rw[d];exact B,by rw[d];rw[if_neg zi_]at C;exact C,N,R⟩ rfl (j_ (c_ (c_ d_)) (j_ (c_ (c_ d_)) (A_ (c_ (c_ aP_)) (c_ C_)))) zt
 replace e:=zdt e;refine Zz 3 ?_;exact kU_
def EA (m:Nat) (hm:m≤65536) (B:EngB) (b7 b8 b9 kb fb:Nat):Emt Tryz.prog 36 where
 stp:=bm_ m
 kof:=idk
 St:=StA b9 kb fb
 fn:=73
 caps:=[zp_ b7 0,zp_ b8 0,zp_ b9 0]
 ef:=andF (bW_ b7 (.cells #[zp_ B.g 0] 116 (0,0))) (andF (bW_ b8 (.cells #[.int .i64 (m:Int)] 3 (0,0))) (bW_ B.g (.cells #[.map (some B.pb),.slice B.lad B.lps.length B.lcap,.map (some kb),.func (.func 73) #[] #[zp_ b7 0,zp_ b8 0,zp_ b9 0],.map (some B.ab),.map (some B.ub),.map (some B.ob),.map (some B.ib),.map (some B.rb),.map (some B.sb),.map (some fb)] 124 (0,0))))
 kb:=kb
 fb:=fb
 grows:=fB_ m
 emit:=fun f nw fm H hS=>by
   obtain⟨sv,es,c,es2,c2,q,Hq,rfl,h1,h2,h3,h4⟩:=hS;exact pH_ [] (xF_ f nw fm m hm B.g b7 b8 b9 kb fb _ _ _ _ _ _ _ _ _ _ sv es es2 c c2 q Hq h1 h2 h3 h4) (fun v _ h=>⟨h.1.1,h.1.2.1,h.1.2.2,trivial⟩)
 known:=fun hS=>by
   obtain⟨sv,es,c,es2,c2,q,Hq,rfl,h1,h2,h3,h4⟩:=hS;exact⟨es,c,by simp,h2⟩
 firm:=fun hS=>by
   obtain⟨sv,es,c,es2,c2,q,Hq,rfl,h1,h2,h3,h4⟩:=hS;exact⟨es2,c2,q,by simp,h3,h4⟩
 setf:=fun {nw fm H} f hS=>by
   obtain⟨sv,es,c,es2,c2,q,Hq,rfl,h1,h2,h3,h4⟩:=hS;refine⟨es2,c2,q,(b9,.cells #[sv] 26 (0,0))::(kb,.map es c)::Hq,bb_ zp,h3,h4,fun es' c' h5=>⟨(b9,.cells #[sv] 26 (0,0))::(kb,.map es c)::([(fb,.map es' c')]++Hq),⟨sv,es,c,es',c',_,Hq,rfl,h1,h2,h5,?_⟩,bb_ zp⟩⟩;intro z
   split
   · rename_i hz;rw[h4,List.mem_cons];constructor
     · exact .inr
     · rintro (rfl|h)
       · exact (h4 _).1 hz
       · exact h
   · rw[List.mem_append,List.mem_singleton,h4,List.mem_cons,or_comm]
def fvC (v:Value):List Value:=[v]
theorem iK_ (v:Value):(fvC v).length=1:=rfl
theorem tc_ {P:Program} {N:Nf} {fr:Fr} {H:Hp} {Γ:List Fct} {ty:TypeId} {t e:TypeId} {n sz:Nat} {parts:List (Nat×Operand)} {vs:List (Nat×Value)} {z cs:List Value} (h:∀ w,(zeroValue t).run P w=.ok (.agg z.toArray) w) (k:∀ w,(underlying t).run P w=.ok (.array n e) w) (m:∀ w,(sizeOf e).run P w=.ok sz w) (v:Fr.evp fr parts=some vs) (q:lu_ (fun i=>some (i*sz,sz)) z vs=some cs) :
    Yld P N fr H Γ (.build t parts.toArray) ty (.agg cs.toArray) :=
  nL_ (fun a x w=>by
    have:=x.evp v;rw[List.map_toArray,this];have d:=is_ _ _ _ _ q;simp only[Instr.build,Sem.run_bind,h,Result.andThen_ok,k,m,Value.cells,d,Sem.run_pure])
def rlV (g:Nat) (k:Nat):List Value:=if k=1 then [(Value.func (.func 120) #[zp_ g 0] #[]),(Value.func (.func 121) #[zp_ g 0] #[]),(Value.func (.func 122) #[zp_ g 0] #[]),(Value.func (.func 123) #[zp_ g 0] #[]),(Value.func (.func 124) #[zp_ g 0] #[]),(Value.func (.func 125) #[zp_ g 0] #[])] else if k=2 then [(Value.func (.func 126) #[zp_ g 0] #[]),(Value.func (.func 127) #[zp_ g 0] #[]),(Value.func (.func 128) #[zp_ g 0] #[]),(Value.func (.func 129) #[zp_ g 0] #[])] else [(Value.func (.func 130) #[zp_ g 0] #[]),(Value.func (.func 131) #[zp_ g 0] #[])]
theorem wP_ (g:Nat):Tri Tryz.prog 76 #[zp_ g 0] [] [] (fun y:Nat×Nat×Nat=>.agg #[.slice none 0 0,.slice (some ⟨y.1,0,none⟩) 6 6,.slice (some ⟨y.2.1,0,none⟩) 4 4,.slice (some ⟨y.2.2,0,none⟩) 2 2]) (fun _=>[]) (fun y=>[ah_ (some ⟨y.1,0,none⟩) (List.flatMap fvC (rlV g 1)),ah_ (some ⟨y.2.1,0,none⟩) (List.flatMap fvC (rlV g 2)),ah_ (some ⟨y.2.2,0,none⟩) (List.flatMap fvC (rlV g 3))]):=by
  refine i_ Tryz.func76 rfl rfl Tryz.ntmps76 rfl fun A=>?_;refine Zz 2 ?_;refine G_ Tryz.zeroValue128 rfl fun x=>Zz 5 ?_
  refine e_ (bI_ (us:=[zp_ g 0]) (vs:=[]) rfl rfl) rfl (Zz 1 ?_);refine e_ (bI_ (us:=[zp_ g 0]) (vs:=[]) rfl rfl) rfl (Zz 1 ?_);refine e_ (bI_ (us:=[zp_ g 0]) (vs:=[]) rfl rfl) rfl (Zz 1 ?_);refine e_ (bI_ (us:=[zp_ g 0]) (vs:=[]) rfl rfl) rfl (Zz 1 ?_);refine e_ (bI_ (us:=[zp_ g 0]) (vs:=[]) rfl rfl) rfl (Zz 1 ?_);refine e_ (bI_ (us:=[zp_ g 0]) (vs:=[]) rfl rfl) rfl (U_ aW_ eE_ Tryz.zeroValue120 rfl rfl rfl rfl rfl rfl fun e=>?_);refine cM_ (List.flatMap fvC [(Value.func (.func 120) #[zp_ g 0] #[]),(Value.func (.func 121) #[zp_ g 0] #[]),(Value.func (.func 122) #[zp_ g 0] #[]),(Value.func (.func 123) #[zp_ g 0] #[]),(Value.func (.func 124) #[zp_ g 0] #[]),(Value.func (.func 125) #[zp_ g 0] #[])]) d_ rfl ?_;refine Zz 1 ?_;refine e_ (bI_ (us:=[zp_ g 0]) (vs:=[]) rfl rfl) rfl (Zz 1 ?_);refine e_ (bI_ (us:=[zp_ g 0]) (vs:=[]) rfl rfl) rfl (Zz 1 ?_);refine e_ (bI_ (us:=[zp_ g 0]) (vs:=[]) rfl rfl) rfl (Zz 1 ?_);refine e_ (bI_ (us:=[zp_ g 0]) (vs:=[]) rfl rfl) rfl (U_ aW_ eE_ Tryz.zeroValue120 rfl rfl rfl rfl rfl rfl fun h=>?_);refine cM_ (List.flatMap fvC [(Value.func (.func 126) #[zp_ g 0] #[]),(Value.func (.func 127) #[zp_ g 0] #[]),(Value.func (.func 128) #[zp_ g 0] #[]),(Value.func (.func 129) #[zp_ g 0] #[])]) d_ rfl ?_;refine Zz 1 ?_;refine e_ (bI_ (us:=[zp_ g 0]) (vs:=[]) rfl rfl) rfl (Zz 1 ?_);refine e_ (bI_ (us:=[zp_ g 0]) (vs:=[]) rfl rfl) rfl (U_ aW_ eE_ Tryz.zeroValue120 rfl rfl rfl rfl rfl rfl fun d=>?_);refine cM_ (List.flatMap fvC [(Value.func (.func 130) #[zp_ g 0] #[]),(Value.func (.func 131) #[zp_ g 0] #[])]) d_ rfl ?_;refine e_ (tc_ Tryz.zeroValue128 tm_ Tryz.sizeOf127 rfl rfl) rfl (u_ 0 Tryz.sizeOf128 rfl rfl rfl rfl rfl rfl (Zz 3 ?_));exact gN_ (e,h,d) (fun q v m k=>ed_ (us:=[.slice none 0 0,.slice (some ⟨e,0,none⟩) (List.length [(Value.func (.func 120) #[zp_ g 0] #[]),(Value.func (.func 121) #[zp_ g 0] #[]),(Value.func (.func 122) #[zp_ g 0] #[]),(Value.func (.func 123) #[zp_ g 0] #[]),(Value.func (.func 124) #[zp_ g 0] #[]),(Value.func (.func 125) #[zp_ g 0] #[])]) 6,.slice (some ⟨h,0,none⟩) (List.length [(Value.func (.func 126) #[zp_ g 0] #[]),(Value.func (.func 127) #[zp_ g 0] #[]),(Value.func (.func 128) #[zp_ g 0] #[]),(Value.func (.func 129) #[zp_ g 0] #[])]) 4,.slice (some ⟨d,0,none⟩) (List.length [(Value.func (.func 130) #[zp_ g 0] #[]),(Value.func (.func 131) #[zp_ g 0] #[])]) 2]) 0 Tryz.results76 Tryz.isAgg128 Tryz.sizeOf128 rfl rfl rfl q v m k) m_ zf
theorem fy_ (B:EngB) (E:Emt Tryz.prog 36) (q:EngA) (U:List (Ky×Pc)) (x:Ix) (f:Fc) (nw fm:List Fc) (Hs:Hp) (hS:E.St nw fm Hs) (H m k J Hr S:Hp) (hI:IxO 9 36 B x ⟨H,m,k,J,Hr,S⟩) {n:FuncId} {args:Array Value} {e:Hp→Prop} (Z:∀ A:EngA,A.p=q.p→Tri Tryz.prog n args Hs [gF B E,pF B U A,aF B x A,uF B x A,oF B x A,iF B x A,rF B x A,sF B x A,E.ef] (fun _:{H':Hp // e H'}=>.tuple #[]) (fun y=>y.1) (fun _=>[])) :
    Tri Tryz.prog n args ((H++(m++(k++(J++(Hr++S)))))++Hs) [gF B E,pF B U q,E.ef] (fun _:{H':Hp // e H'}=>.tuple #[]) (fun y=>(H++(m++(k++(J++(Hr++S)))))++y.1) (fun _=>[]):=by
  obtain⟨Y,X,V,hi,W,hm⟩:=hI;dsimp only at Y X V hi W hm;obtain⟨L,Q⟩:=Y.lent (P:=Tryz.prog) lD_;obtain⟨R,N⟩:=X.lent (P:=Tryz.prog) lD_;obtain⟨T,G⟩:=V.lent (P:=Tryz.prog) dP_;obtain⟨I,M⟩:=hi.lent (P:=Tryz.prog) dP_;obtain⟨F,K⟩:=W.lent (P:=Tryz.prog) dP_;obtain⟨O,C⟩:=hm.lent (P:=Tryz.prog) dP_;refine pH_ _ (Z ⟨q.p,L,R,T,I,F,O⟩ rfl) fun v hB h=>⟨h.1,h.2.1,Q v fun p d=>hB p zL_,N v fun p d=>hB p zL_,G v fun p d=>hB p zL_,M v fun p d=>hB p zL_,K v fun p d=>hB p zL_,C v fun p d=>hB p zL_,h.2.2.1,trivial⟩
theorem rl10_c (B:EngB) (E:Emt Tryz.prog 36) (J:EngA) (d:List (Ky×Pc)) (x:Ix) (f:Fc) (nw fm:List Fc) (Hs:Hp) (hS:E.St nw fm Hs) (v q m C Hr F:Hp) (K:IxO 9 36 B x ⟨v,q,m,C,Hr,F⟩) (I:∀ k,(lat d k).length≤1000000000) (G:∀ k,(lat x.above k).length≤1000000000∧(lat x.under k).length≤1000000000) (H:∀ k,(lat x.frm k).length≤1000000000∧(lat x.into k).length≤1000000000∧(lat x.ranges k).length≤1000000000∧(lat x.firms k).length≤1000000000) (L:f.kind=3→-1099511627776≤f.lo∧f.lo≤f.hi∧f.hi≤1099511627776) (M:f.kind=3→∀ y∈lat d (Ky.mk 9 f.r []),-1099511627776≤y.lo∧y.lo≤y.hi∧y.hi≤1099511627776) (hk:f.kind=1):Tri Tryz.prog 120 #[zp_ B.g 0,f.val] ((v++(q++(m++(C++(Hr++F)))))++Hs) [gF B E,pF B d J,E.ef] (fun _:{H':Hp // E.St (rl E.stp E.kof d x f 0 (nw,fm)).1 (rl E.stp E.kof d x f 0 (nw,fm)).2 H'}=>.tuple #[]) (fun y=>(v++(q++(m++(C++(Hr++F)))))++y.1) (fun _=>[]):=by
  refine fy_ B E J d x f nw fm Hs hS v q m C Hr F K fun A N=>?_;have h:=tU_ B E A d x f nw fm Hs hS I G H;have e:rl E.stp E.kof d x f 0 (nw,fm)=_:=if_pos hk;rw[e];exact h
theorem rl11_c (B:EngB) (E:Emt Tryz.prog 36) (J:EngA) (d:List (Ky×Pc)) (x:Ix) (f:Fc) (nw fm:List Fc) (Hs:Hp) (hS:E.St nw fm Hs) (v q m C Hr F:Hp) (K:IxO 9 36 B x ⟨v,q,m,C,Hr,F⟩) (I:∀ k,(lat d k).length≤1000000000) (G:∀ k,(lat x.above k).length≤1000000000∧(lat x.under k).length≤1000000000) (H:∀ k,(lat x.frm k).length≤1000000000∧(lat x.into k).length≤1000000000∧(lat x.ranges k).length≤1000000000∧(lat x.firms k).length≤1000000000) (L:f.kind=3→-1099511627776≤f.lo∧f.lo≤f.hi∧f.hi≤1099511627776) (M:f.kind=3→∀ y∈lat d (Ky.mk 9 f.r []),-1099511627776≤y.lo∧y.lo≤y.hi∧y.hi≤1099511627776) (hk:f.kind=1):Tri Tryz.prog 121 #[zp_ B.g 0,f.val] ((v++(q++(m++(C++(Hr++F)))))++Hs) [gF B E,pF B d J,E.ef] (fun _:{H':Hp // E.St (rl E.stp E.kof d x f 1 (nw,fm)).1 (rl E.stp E.kof d x f 1 (nw,fm)).2 H'}=>.tuple #[]) (fun y=>(v++(q++(m++(C++(Hr++F)))))++y.1) (fun _=>[]):=by
  refine fy_ B E J d x f nw fm Hs hS v q m C Hr F K fun A N=>?_;have h:=both_c B E A d x f nw fm Hs hS I G H;have e:rl E.stp E.kof d x f 1 (nw,fm)=_:=if_pos hk;rw[e];exact h
theorem rl12_c (B:EngB) (E:Emt Tryz.prog 36) (J:EngA) (d:List (Ky×Pc)) (x:Ix) (f:Fc) (nw fm:List Fc) (Hs:Hp) (hS:E.St nw fm Hs) (v q m C Hr F:Hp) (K:IxO 9 36 B x ⟨v,q,m,C,Hr,F⟩) (I:∀ k,(lat d k).length≤1000000000) (G:∀ k,(lat x.above k).length≤1000000000∧(lat x.under k).length≤1000000000) (H:∀ k,(lat x.frm k).length≤1000000000∧(lat x.into k).length≤1000000000∧(lat x.ranges k).length≤1000000000∧(lat x.firms k).length≤1000000000) (L:f.kind=3→-1099511627776≤f.lo∧f.lo≤f.hi∧f.hi≤1099511627776) (M:f.kind=3→∀ y∈lat d (Ky.mk 9 f.r []),-1099511627776≤y.lo∧y.lo≤y.hi∧y.hi≤1099511627776) (hk:f.kind=1):Tri Tryz.prog 122 #[zp_ B.g 0,f.val] ((v++(q++(m++(C++(Hr++F)))))++Hs) [gF B E,pF B d J,E.ef] (fun _:{H':Hp // E.St (rl E.stp E.kof d x f 2 (nw,fm)).1 (rl E.stp E.kof d x f 2 (nw,fm)).2 H'}=>.tuple #[]) (fun y=>(v++(q++(m++(C++(Hr++F)))))++y.1) (fun _=>[]):=by
  refine fy_ B E J d x f nw fm Hs hS v q m C Hr F K fun A N=>?_;have h:=some_c B E A d x f nw fm Hs hS I G H;have e:rl E.stp E.kof d x f 2 (nw,fm)=_:=if_pos hk;rw[e];exact h
theorem rl13_c (B:EngB) (E:Emt Tryz.prog 36) (J:EngA) (d:List (Ky×Pc)) (x:Ix) (f:Fc) (nw fm:List Fc) (Hs:Hp) (hS:E.St nw fm Hs) (v q m C Hr F:Hp) (K:IxO 9 36 B x ⟨v,q,m,C,Hr,F⟩) (I:∀ k,(lat d k).length≤1000000000) (G:∀ k,(lat x.above k).length≤1000000000∧(lat x.under k).length≤1000000000) (H:∀ k,(lat x.frm k).length≤1000000000∧(lat x.into k).length≤1000000000∧(lat x.ranges k).length≤1000000000∧(lat x.firms k).length≤1000000000) (L:f.kind=3→-1099511627776≤f.lo∧f.lo≤f.hi∧f.hi≤1099511627776) (M:f.kind=3→∀ y∈lat d (Ky.mk 9 f.r []),-1099511627776≤y.lo∧y.lo≤y.hi∧y.hi≤1099511627776) (hk:f.kind=1):Tri Tryz.prog 123 #[zp_ B.g 0,f.val] ((v++(q++(m++(C++(Hr++F)))))++Hs) [gF B E,pF B d J,E.ef] (fun _:{H':Hp // E.St (rl E.stp E.kof d x f 3 (nw,fm)).1 (rl E.stp E.kof d x f 3 (nw,fm)).2 H'}=>.tuple #[]) (fun y=>(v++(q++(m++(C++(Hr++F)))))++y.1) (fun _=>[]):=by
  refine fy_ B E J d x f nw fm Hs hS v q m C Hr F K fun A N=>?_;have h:=rR_ B E A d x f nw fm Hs hS I G H;have e:rl E.stp E.kof d x f 3 (nw,fm)=_:=if_pos hk;rw[e];exact h
theorem rl14_c (B:EngB) (E:Emt Tryz.prog 36) (J:EngA) (d:List (Ky×Pc)) (x:Ix) (f:Fc) (nw fm:List Fc) (Hs:Hp) (hS:E.St nw fm Hs) (v q m C Hr F:Hp) (K:IxO 9 36 B x ⟨v,q,m,C,Hr,F⟩) (I:∀ k,(lat d k).length≤1000000000) (G:∀ k,(lat x.above k).length≤1000000000∧(lat x.under k).length≤1000000000) (H:∀ k,(lat x.frm k).length≤1000000000∧(lat x.into k).length≤1000000000∧(lat x.ranges k).length≤1000000000∧(lat x.firms k).length≤1000000000) (L:f.kind=3→-1099511627776≤f.lo∧f.lo≤f.hi∧f.hi≤1099511627776) (M:f.kind=3→∀ y∈lat d (Ky.mk 9 f.r []),-1099511627776≤y.lo∧y.lo≤y.hi∧y.hi≤1099511627776) (hk:f.kind=1):Tri Tryz.prog 124 #[zp_ B.g 0,f.val] ((v++(q++(m++(C++(Hr++F)))))++Hs) [gF B E,pF B d J,E.ef] (fun _:{H':Hp // E.St (rl E.stp E.kof d x f 4 (nw,fm)).1 (rl E.stp E.kof d x f 4 (nw,fm)).2 H'}=>.tuple #[]) (fun y=>(v++(q++(m++(C++(Hr++F)))))++y.1) (fun _=>[]):=by
  refine fy_ B E J d x f nw fm Hs hS v q m C Hr F K fun A N=>?_;have h:=qL_ B E A d x f nw fm Hs hS I G H;have e:rl E.stp E.kof d x f 4 (nw,fm)=_:=if_pos hk;rw[e];exact h
theorem rl15_c (B:EngB) (E:Emt Tryz.prog 36) (J:EngA) (d:List (Ky×Pc)) (x:Ix) (f:Fc) (nw fm:List Fc) (Hs:Hp) (hS:E.St nw fm Hs) (v q m C Hr F:Hp) (K:IxO 9 36 B x ⟨v,q,m,C,Hr,F⟩) (I:∀ k,(lat d k).length≤1000000000) (G:∀ k,(lat x.above k).length≤1000000000∧(lat x.under k).length≤1000000000) (H:∀ k,(lat x.frm k).length≤1000000000∧(lat x.into k).length≤1000000000∧(lat x.ranges k).length≤1000000000∧(lat x.firms k).length≤1000000000) (L:f.kind=3→-1099511627776≤f.lo∧f.lo≤f.hi∧f.hi≤1099511627776) (M:f.kind=3→∀ y∈lat d (Ky.mk 9 f.r []),-1099511627776≤y.lo∧y.lo≤y.hi∧y.hi≤1099511627776) (hk:f.kind=1):Tri Tryz.prog 125 #[zp_ B.g 0,f.val] ((v++(q++(m++(C++(Hr++F)))))++Hs) [gF B E,pF B d J,E.ef] (fun _:{H':Hp // E.St (rl E.stp E.kof d x f 5 (nw,fm)).1 (rl E.stp E.kof d x f 5 (nw,fm)).2 H'}=>.tuple #[]) (fun y=>(v++(q++(m++(C++(Hr++F)))))++y.1) (fun _=>[]):=by
  refine fy_ B E J d x f nw fm Hs hS v q m C Hr F K fun A N=>?_;have h:=wx_ B E A d x f nw fm Hs hS I G H;have e:rl E.stp E.kof d x f 5 (nw,fm)=_:=if_pos hk;rw[e];exact h
theorem rl20_c (B:EngB) (E:Emt Tryz.prog 36) (J:EngA) (d:List (Ky×Pc)) (x:Ix) (f:Fc) (nw fm:List Fc) (Hs:Hp) (hS:E.St nw fm Hs) (v q m C Hr F:Hp) (K:IxO 9 36 B x ⟨v,q,m,C,Hr,F⟩) (I:∀ k,(lat d k).length≤1000000000) (G:∀ k,(lat x.above k).length≤1000000000∧(lat x.under k).length≤1000000000) (H:∀ k,(lat x.frm k).length≤1000000000∧(lat x.into k).length≤1000000000∧(lat x.ranges k).length≤1000000000∧(lat x.firms k).length≤1000000000) (L:f.kind=3→-1099511627776≤f.lo∧f.lo≤f.hi∧f.hi≤1099511627776) (M:f.kind=3→∀ y∈lat d (Ky.mk 9 f.r []),-1099511627776≤y.lo∧y.lo≤y.hi∧y.hi≤1099511627776) (hk:f.kind=2):Tri Tryz.prog 126 #[zp_ B.g 0,f.val] ((v++(q++(m++(C++(Hr++F)))))++Hs) [gF B E,pF B d J,E.ef] (fun _:{H':Hp // E.St (rl E.stp E.kof d x f 0 (nw,fm)).1 (rl E.stp E.kof d x f 0 (nw,fm)).2 H'}=>.tuple #[]) (fun y=>(v++(q++(m++(C++(Hr++F)))))++y.1) (fun _=>[]):=by
  refine fy_ B E J d x f nw fm Hs hS v q m C Hr F K fun A N=>?_;have h:=tO_ B E A d x f nw fm Hs hS I G H;have e:rl E.stp E.kof d x f 0 (nw,fm)=_:=(if_neg zW_).trans (if_pos hk);rw[e];exact h
theorem rl21_c (B:EngB) (E:Emt Tryz.prog 36) (J:EngA) (d:List (Ky×Pc)) (x:Ix) (f:Fc) (nw fm:List Fc) (Hs:Hp) (hS:E.St nw fm Hs) (v q m C Hr F:Hp) (K:IxO 9 36 B x ⟨v,q,m,C,Hr,F⟩) (I:∀ k,(lat d k).length≤1000000000) (G:∀ k,(lat x.above k).length≤1000000000∧(lat x.under k).length≤1000000000) (H:∀ k,(lat x.frm k).length≤1000000000∧(lat x.into k).length≤1000000000∧(lat x.ranges k).length≤1000000000∧(lat x.firms k).length≤1000000000) (L:f.kind=3→-1099511627776≤f.lo∧f.lo≤f.hi∧f.hi≤1099511627776) (M:f.kind=3→∀ y∈lat d (Ky.mk 9 f.r []),-1099511627776≤y.lo∧y.lo≤y.hi∧y.hi≤1099511627776) (hk:f.kind=2):Tri Tryz.prog 127 #[zp_ B.g 0,f.val] ((v++(q++(m++(C++(Hr++F)))))++Hs) [gF B E,pF B d J,E.ef] (fun _:{H':Hp // E.St (rl E.stp E.kof d x f 1 (nw,fm)).1 (rl E.stp E.kof d x f 1 (nw,fm)).2 H'}=>.tuple #[]) (fun y=>(v++(q++(m++(C++(Hr++F)))))++y.1) (fun _=>[]):=by
  refine fy_ B E J d x f nw fm Hs hS v q m C Hr F K fun A N=>?_;have h:=xO_ B E A d x f nw fm Hs hS I G H;have e:rl E.stp E.kof d x f 1 (nw,fm)=_:=(if_neg zW_).trans (if_pos hk);rw[e];exact h
theorem rl22_c (B:EngB) (E:Emt Tryz.prog 36) (J:EngA) (d:List (Ky×Pc)) (x:Ix) (f:Fc) (nw fm:List Fc) (Hs:Hp) (hS:E.St nw fm Hs) (v q m C Hr F:Hp) (K:IxO 9 36 B x ⟨v,q,m,C,Hr,F⟩) (I:∀ k,(lat d k).length≤1000000000) (G:∀ k,(lat x.above k).length≤1000000000∧(lat x.under k).length≤1000000000) (H:∀ k,(lat x.frm k).length≤1000000000∧(lat x.into k).length≤1000000000∧(lat x.ranges k).length≤1000000000∧(lat x.firms k).length≤1000000000) (L:f.kind=3→-1099511627776≤f.lo∧f.lo≤f.hi∧f.hi≤1099511627776) (M:f.kind=3→∀ y∈lat d (Ky.mk 9 f.r []),-1099511627776≤y.lo∧y.lo≤y.hi∧y.hi≤1099511627776) (hk:f.kind=2):Tri Tryz.prog 128 #[zp_ B.g 0,f.val] ((v++(q++(m++(C++(Hr++F)))))++Hs) [gF B E,pF B d J,E.ef] (fun _:{H':Hp // E.St (rl E.stp E.kof d x f 2 (nw,fm)).1 (rl E.stp E.kof d x f 2 (nw,fm)).2 H'}=>.tuple #[]) (fun y=>(v++(q++(m++(C++(Hr++F)))))++y.1) (fun _=>[]):=by
  refine fy_ B E J d x f nw fm Hs hS v q m C Hr F K fun A N=>?_;have h:=rQ_ B E A d x f nw fm Hs hS I G H;have e:rl E.stp E.kof d x f 2 (nw,fm)=_:=(if_neg zW_).trans (if_pos hk);rw[e];exact h
theorem rl23_c (B:EngB) (E:Emt Tryz.prog 36) (J:EngA) (d:List (Ky×Pc)) (x:Ix) (f:Fc) (nw fm:List Fc) (Hs:Hp) (hS:E.St nw fm Hs) (v q m C Hr F:Hp) (K:IxO 9 36 B x ⟨v,q,m,C,Hr,F⟩) (I:∀ k,(lat d k).length≤1000000000) (G:∀ k,(lat x.above k).length≤1000000000∧(lat x.under k).length≤1000000000) (H:∀ k,(lat x.frm k).length≤1000000000∧(lat x.into k).length≤1000000000∧(lat x.ranges k).length≤1000000000∧(lat x.firms k).length≤1000000000) (L:f.kind=3→-1099511627776≤f.lo∧f.lo≤f.hi∧f.hi≤1099511627776) (M:f.kind=3→∀ y∈lat d (Ky.mk 9 f.r []),-1099511627776≤y.lo∧y.lo≤y.hi∧y.hi≤1099511627776) (hk:f.kind=2):Tri Tryz.prog 129 #[zp_ B.g 0,f.val] ((v++(q++(m++(C++(Hr++F)))))++Hs) [gF B E,pF B d J,E.ef] (fun _:{H':Hp // E.St (rl E.stp E.kof d x f 3 (nw,fm)).1 (rl E.stp E.kof d x f 3 (nw,fm)).2 H'}=>.tuple #[]) (fun y=>(v++(q++(m++(C++(Hr++F)))))++y.1) (fun _=>[]):=by
  refine fy_ B E J d x f nw fm Hs hS v q m C Hr F K fun A N=>?_;have h:=qK_ B E A d x f nw fm Hs hS I G H;have e:rl E.stp E.kof d x f 3 (nw,fm)=_:=(if_neg zW_).trans (if_pos hk);rw[e];exact h
theorem rl30_c (B:EngB) (E:Emt Tryz.prog 36) (J:EngA) (d:List (Ky×Pc)) (x:Ix) (f:Fc) (nw fm:List Fc) (Hs:Hp) (hS:E.St nw fm Hs) (v q m C Hr F:Hp) (K:IxO 9 36 B x ⟨v,q,m,C,Hr,F⟩) (I:∀ k,(lat d k).length≤1000000000) (G:∀ k,(lat x.above k).length≤1000000000∧(lat x.under k).length≤1000000000) (H:∀ k,(lat x.frm k).length≤1000000000∧(lat x.into k).length≤1000000000∧(lat x.ranges k).length≤1000000000∧(lat x.firms k).length≤1000000000) (L:f.kind=3→-1099511627776≤f.lo∧f.lo≤f.hi∧f.hi≤1099511627776) (M:f.kind=3→∀ y∈lat d (Ky.mk 9 f.r []),-1099511627776≤y.lo∧y.lo≤y.hi∧y.hi≤1099511627776) (hk:f.kind=3):Tri Tryz.prog 130 #[zp_ B.g 0,f.val] ((v++(q++(m++(C++(Hr++F)))))++Hs) [gF B E,pF B d J,E.ef] (fun _:{H':Hp // E.St (rl E.stp E.kof d x f 0 (nw,fm)).1 (rl E.stp E.kof d x f 0 (nw,fm)).2 H'}=>.tuple #[]) (fun y=>(v++(q++(m++(C++(Hr++F)))))++y.1) (fun _=>[]):=by
  refine fy_ B E J d x f nw fm Hs hS v q m C Hr F K fun A N=>?_;have h:=meet_c B E A d x f nw fm Hs hS I G H;have e:rl E.stp E.kof d x f 0 (nw,fm)=_:=(if_neg zW_).trans (if_neg zW_);rw[e];exact h
theorem rl31_c (B:EngB) (E:Emt Tryz.prog 36) (J:EngA) (d:List (Ky×Pc)) (x:Ix) (f:Fc) (nw fm:List Fc) (Hs:Hp) (hS:E.St nw fm Hs) (v q m C Hr F:Hp) (M:IxO 9 36 B x ⟨v,q,m,C,Hr,F⟩) (I:∀ k,(lat d k).length≤1000000000) (G:∀ k,(lat x.above k).length≤1000000000∧(lat x.under k).length≤1000000000) (H:∀ k,(lat x.frm k).length≤1000000000∧(lat x.into k).length≤1000000000∧(lat x.ranges k).length≤1000000000∧(lat x.firms k).length≤1000000000) (K:f.kind=3→-1099511627776≤f.lo∧f.lo≤f.hi∧f.hi≤1099511627776) (L:f.kind=3→∀ y∈lat d (Ky.mk 9 f.r []),-1099511627776≤y.lo∧y.lo≤y.hi∧y.hi≤1099511627776) (hk:f.kind=3):Tri Tryz.prog 131 #[zp_ B.g 0,f.val] ((v++(q++(m++(C++(Hr++F)))))++Hs) [gF B E,pF B d J,E.ef] (fun _:{H':Hp // E.St (rl E.stp E.kof d x f 1 (nw,fm)).1 (rl E.stp E.kof d x f 1 (nw,fm)).2 H'}=>.tuple #[]) (fun y=>(v++(q++(m++(C++(Hr++F)))))++y.1) (fun _=>[]):=by
  refine fy_ B E J d x f nw fm Hs hS v q m C Hr F M fun A N=>?_;have h:=out_c B E A d x f nw fm Hs hS I G H (K hk) (L hk);have e:rl E.stp E.kof d x f 1 (nw,fm)=_:=(if_neg zW_).trans (if_neg zW_);rw[e];exact h
section
variable {N:Nf} {v0:Vw} {H0:Hp} {fr:Fr}
theorem mO_ {k:Act→World→Prop} {F:Hp}:∀ (B:Hp) {H:Hp} {Γ:List Fct},H.Perm (B++F)→Ok N v0 H0 k fr F (B.reverse.map (fun p=>bW_ p.1 p.2)++Γ)→Ok N v0 H0 k fr H Γ
  | [],H,Γ,hH,h=>z_ hH h
  | (b,o)::B,H,Γ,hH,h=>by
    refine eI_ (bW_ b o) (F:=B++F) hH (fun _ d e _=>⟨d,e⟩) ?_;refine mO_ B (.refl _) ?_;simpa using h
end
end Go.Proofs.YtpbnmnfdgckaiaaGreatDoor
namespace Go.Proofs.YtpbnmnfdgckaiaaGreatDoor
open Go Go.Sx Go.Proofs
attribute [local irreducible] Code.wp wpList wpAnyH
open Go.Vs
theorem tR_ {P:Program} (w:World) (d:Nat) (t e:TypeId) (a:Option Addr) (l c:Nat) (h:P.underlying t=some (.slice e)):(Op.equalIn (d+1) t (.slice a l c) (.slice none 0 0)).run P w=.ok a.isNone w:=by
  cases a<;>simp[Op.equalIn,run_underlying h]
theorem sL_ {P:Program} (w:World) (t e:TypeId) (a:Option Addr) (l c:Nat) (h:P.underlying t=some (.slice e)):(Op.equal t (.slice a l c) (.slice none 0 0)).run P w=.ok a.isNone w:=tR_ w 9999 t e a l c h
theorem mb_ {P:Program} {N:Nf} {fr:Fr} {H:Hp} {Γ:List Fct} {ty t B e:TypeId} {x y:Operand} {ad:Option Addr} {m c:Nat} (k:P.underlying t=some (.slice e)) (q:Fr.ev fr x=some (.slice ad m c)) (h:Fr.ev fr y=some (.slice none 0 0)):Yld P N fr H Γ (.binOp .eql t x y B) ty (.bool (decide (ad=none))) :=
  fun a v d _ _ _ _ _=>by
    have A:decide (ad=none)=ad.isNone:=by cases ad<;>simp
    simp[execOp,d.ev q,d.ev h,eqGuard,binOp,sL_ v.w t e ad m c k,A]
theorem pS_ {v:Vw} {cs:List Value} (h:bA_ v none cs):cs=[]:=by
 rcases h with h|⟨b,off,d,T,fz,e,_⟩
 ·exact h
 cases e
theorem pM_ (b:Nat) (e:TypeId) (sz:Nat):aw_ e sz (.slice (some ⟨b,0,none⟩) 0 0) 0 [] [(b,.cells #[] e (0,0))]:=⟨by simp,.inr ⟨b,0,#[],rfl,rfl,Nat.le_refl _,by simp[maxLen],by simp,by simp⟩⟩
theorem ns_ (l:List Str) (ad:Option Addr) (cap:Nat) (G:l.length≤cap) (hl:l.length≤1000000000):Tri Tryz.prog 115 #[.slice ad (List.length l) cap] [] [ah_ ad (List.flatMap af_ l)] (fun y:{y:Value×Hp // zR 9 1 af_ y.1 l y.2}=>y.1.1) (fun y=>y.1.2) (fun _=>[]):=by
 refine i_ Tryz.func115 rfl rfl Tryz.ntmps115 rfl fun F=>?_;refine Zz 9 ?_;refine B_ (mb_ ib_ rfl rfl) rfl fun B d=>Zz 2 ?_
 cases B
 ·replace d:=zdf d
  refine Zz 5 ?_;refine nZ_ l_ E_ rfl fun A=>z_ d_ (Zz 1 ?_)
  refine fr_ (news:=List.flatMap af_ l) cB_ (pM_ A 9 1) rfl rfl (fun q=>absurd q d) G ac_ (by rw[dr_ af_ 1 aq_]) zf (fun u E=>aA_ ch_ E) zm_ za_ rfl fun e k d=>?_;refine z_ List.perm_append_comm ?_;have m:aw_ 9 1 e (List.length (([]:List Str)++l)) (List.flatMap af_ (([]:List Str)++l)) k:=by rw[List.length_append,List.flatMap_append];exact d
  refine Zz 4 ?_;exact ae_ Tryz.results115 ⟨(e,k),by simpa using m⟩ rfl ac_ zt
 replace d:=zdt d;refine Zz 7 ?_;refine vd_ (p:=List.flatMap af_ l=[]) (fun v _ h=>by have q:=h.1;subst d;exact pS_ q) fun C=>?_;have x:l=[]:=List.eq_nil_of_length_eq_zero (by have:=congrArg List.length C;rwa [dr_ af_ 1 aq_,Nat.mul_one]at this);exact ae_ Tryz.results115 ⟨(.slice none 0 0,[]),by subst x;exact aw_.nil _ _⟩ rfl m_ zt
def atS (p:List Pc):List Str:=Lib.compact ((eq_ p++[[42],[33]]).mergeSort fun x y=>decide (x≤y))
theorem sV_ (p:List Pc):(atS p).length≤3*p.length+2:=by
  have:=gu_ ((eq_ p++[[42],[33]]).mergeSort fun x y=>decide (x≤y));have d:=fk_ p;rw[List.length_mergeSort,List.length_append]at this;simp only[List.length_cons,List.length_nil]at this;unfold atS;omega
theorem nv_ (p:List Pc):(atS p).Pairwise fun x y=>x<y:=hB_ (fR_ _)
theorem iP_ (p:List Pc) (x:Str):x∈atS p↔x∈eq_ p∨x=[42]∨x=[33]:=by
  unfold atS;rw[iv_,List.mem_mergeSort,List.mem_append];simp
theorem atS_c (p:List Pc) (m:Option Addr) (k:Nat) (U:p.length≤100000000):Tri Tryz.prog 74 #[.slice m (List.length p) k] [] [ah_ m (List.flatMap Pc.cells p)] (fun y:{y:Option Addr×Nat // (atS p).length≤y.2∧y.2≤maxLen∧(y.1=none→y.2=0)}=>.slice y.1.1 (atS p).length y.1.2) (fun _=>[]) (fun y=>[ah_ y.1.1 ((atS p).flatMap af_)]):=by
  refine i_ Tryz.func74 rfl rfl Tryz.ntmps74 rfl fun Q=>?_;refine Zz 8 ?_;refine g_ (xV_ p m k za_) rfl m_ zf rfl fun⟨⟨aad,acap⟩,L,S⟩=>?_;dsimp only;refine g_ (ns_ (eq_ p) aad acap L (by have:=fk_ p;omega)) rfl m_ zf rfl fun⟨⟨P,O⟩,K⟩=>?_;dsimp only;refine z_ dO_ (U_ l_ E_ av_ rfl rfl rfl rfl rfl rfl fun T=>?_);refine an_ (news:=List.flatMap af_ [[42],[33]]) cB_ K rfl rfl C_ rfl (aO_ 0 rfl) (fun u R=>aA_ ch_ R) (by simp only[maxLen];(have:=fk_ p;(try simp only[List.length_append,List.length_cons,List.length_nil]);omega)) zad_ rfl fun B M F=>?_;refine z_ List.perm_append_comm ?_;have C:=zsa F;refine Zz 6 ?_;refine g_ (lO_ C zad_) rfl C_ zt rfl fun⟨q,I⟩=>?_;dsimp only;have A:aw_ 9 1 B (List.length ((((eq_ p)++[[42],[33]])).mergeSort fun x y=>decide (x≤y))) (List.flatMap af_ ((((eq_ p)++[[42],[33]])).mergeSort fun x y=>decide (x≤y))) q:=by rw[List.length_mergeSort];exact I
  refine Zz 2 ?_;refine z_ (bb_ aP_) (Zz 3 ?_);refine g_ (ju_ A (by rw[List.length_mergeSort];(have:=fk_ p;(try simp only[List.length_append,List.length_cons,List.length_nil]);omega))) rfl C_ zt rfl fun⟨⟨J,N⟩,E⟩=>?_;dsimp only;refine Zz 4 ?_;refine bj_ E t_ fun H G v e d h=>?_;exact ae_ Tryz.results74 ⟨(H,G),e,d,h⟩ (fG_ rfl v) m_ zf
end Go.Proofs.YtpbnmnfdgckaiaaGreatDoor
namespace Go.Proofs
open Go.Shelf
def Tryz.sortFc_ren:Go.Shelf.Ren:=⟨fun|6=>78|15=>133|14=>132|28=>172|29=>173|20=>164|21=>165|22=>166|23=>167|24=>168|25=>169|26=>170|27=>171|46=>196|47=>197|48=>198|49=>199|50=>200|57=>220|n=>n,fun|22=>26|24=>36|25=>131|3=>3|39=>44|0=>0|53=>219|55=>221|4=>4|46=>213|45=>212|50=>157|5=>5|9=>9|66=>237|70=>150|76=>261|77=>262|n=>n,fun|n=>n⟩
theorem Tryz.sortFc:Go.Proofs.SlLaysF0.n6 Tryz.prog Tryz.sortFc_ren:={
  mixed:=by kernel_rfl
  f6:=⟨Tryz.f78.name,by decide,Tryz.func78.trans (congrArg some zd_)⟩
  f14:=⟨Tryz.f132.name,by decide,Tryz.func132.trans (congrArg some zd_)⟩
  f15:=Tryz.func133.trans (congrArg some zd_)
  f20:=⟨Tryz.f164.name,by decide,Tryz.func164.trans (congrArg some zd_)⟩
  f21:=⟨Tryz.f165.name,by decide,Tryz.func165.trans (congrArg some zd_)⟩
  f22:=⟨Tryz.f166.name,by decide,Tryz.func166.trans (congrArg some zd_)⟩
  f23:=⟨Tryz.f167.name,by decide,Tryz.func167.trans (congrArg some zd_)⟩
  f24:=⟨Tryz.f168.name,by decide,Tryz.func168.trans (congrArg some zd_)⟩
  f25:=⟨Tryz.f169.name,by decide,Tryz.func169.trans (congrArg some zd_)⟩
  f26:=⟨Tryz.f170.name,by decide,Tryz.func170.trans (congrArg some zd_)⟩
  f27:=⟨Tryz.f171.name,by decide,Tryz.func171.trans (congrArg some zd_)⟩
  f28:=Tryz.func172.trans (congrArg some zd_)
  f29:=Tryz.func173.trans (congrArg some zd_)
  f46:=⟨Tryz.f196.name,by decide,Tryz.func196.trans (congrArg some zd_)⟩
  f47:=Tryz.func197.trans (congrArg some zd_)
  f48:=Tryz.func198.trans (congrArg some zd_)
  f49:=⟨Tryz.f199.name,by decide,Tryz.func199.trans (congrArg some zd_)⟩
  f50:=⟨Tryz.f200.name,by decide,Tryz.func200.trans (congrArg some zd_)⟩
  f57:=⟨Tryz.f220.name,by decide,Tryz.func220.trans (congrArg some zd_)⟩
  t0:=Tryz.underlying0
  a0:=Tryz.isAgg0
  z0:=Tryz.sizeOf0
  v0:=Tryz.zeroValue0
  t3:=Tryz.underlying3
  a3:=Tryz.isAgg3
  z3:=Tryz.sizeOf3
  v3:=Tryz.zeroValue3
  t4:=Tryz.underlying4
  a4:=Tryz.isAgg4
  z4:=Tryz.sizeOf4
  v4:=Tryz.zeroValue4
  t5:=Tryz.underlying5
  a5:=Tryz.isAgg5
  z5:=Tryz.sizeOf5
  v5:=Tryz.zeroValue5
  t9:=Tryz.underlying9
  a9:=Tryz.isAgg9
  z9:=Tryz.sizeOf9
  v9:=Tryz.zeroValue9
  t22:=Tryz.underlying26
  a22:=Tryz.isAgg26
  z22:=Tryz.sizeOf26
  v22:=Tryz.zeroValue26
  t25:=Tryz.underlying131
  a25:=Tryz.isAgg131
  z25:=Tryz.sizeOf131
  v25:=Tryz.zeroValue131
  t39:=Tryz.underlying44
  a39:=Tryz.isAgg44
  z39:=Tryz.sizeOf44
  v39:=Tryz.zeroValue44
  t45:=Tryz.underlying212
  a45:=Tryz.isAgg212
  z45:=Tryz.sizeOf212
  v45:=Tryz.zeroValue212
  t46:=Tryz.underlying213
  a46:=Tryz.isAgg213
  z46:=Tryz.sizeOf213
  v46:=Tryz.zeroValue213
  t50:=Tryz.underlying157
  a50:=Tryz.isAgg157
  z50:=Tryz.sizeOf157
  v50:=Tryz.zeroValue157
  t53:=Tryz.underlying219
  a53:=Tryz.isAgg219
  z53:=Tryz.sizeOf219
  v53:=Tryz.zeroValue219
  t55:=Tryz.underlying221
  a55:=Tryz.isAgg221
  z55:=Tryz.sizeOf221
  v55:=Tryz.zeroValue221
  t66:=Tryz.underlying237
  a66:=Tryz.isAgg237
  z66:=Tryz.sizeOf237
  v66:=Tryz.zeroValue237
  t70:=Tryz.underlying150
  a70:=Tryz.isAgg150
  z70:=Tryz.sizeOf150
  v70:=Tryz.zeroValue150
  t76:=Tryz.underlying261
  a76:=Tryz.isAgg261
  z76:=Tryz.sizeOf261
  v76:=Tryz.zeroValue261
  t77:=Tryz.underlying262
  a77:=Tryz.isAgg262
  z77:=Tryz.sizeOf262
  v77:=Tryz.zeroValue262 }
end Go.Proofs
namespace Go.Sx
open Go
section
variable {K:Type} [DecidableEq K] {kv:K→Value}
structure KeyE (kv:K→Value) (es:Array MapEntry) (q:List K):Prop where
  keys:es.toList.map (·.key)=q.map kv
  nd:q.Nodup
theorem SetE.ke {es:Array MapEntry} {q:List K} (h:SetE kv es q):KeyE kv es q:=⟨h.keys,h.nd⟩
theorem KeyE.ofKey {es:Array MapEntry} {q:List K} (hE:KeyE kv es q) {e:MapEntry} (d:e∈es.toList):∃ k∈q,e.key=kv k:=by
  have:e.key∈es.toList.map (·.key):=List.mem_map_of_mem d;rw[hE.keys]at this;obtain⟨k,hk,h⟩:=List.mem_map.1 this;exact⟨k,hk,h.symm⟩
theorem KeyE.entry {es:Array MapEntry} {q:List K} (hE:KeyE kv es q) (hi:∀ x y,kv x=kv y→x=y) {x e:MapEntry} (C:x∈es.toList) (E:e∈es.toList) (h:x.key=e.key):x=e:=by
 obtain⟨i,v,k⟩:=List.getElem_of_mem C;obtain⟨j,m,d⟩:=List.getElem_of_mem E
 have A:(es.toList.map (·.key)).Nodup:=by
   rw[hE.keys];unfold List.Nodup;rw[List.pairwise_map];exact List.Pairwise.imp (fun {a b} hab e=>hab (hi _ _ e)) hE.nd
 have B:i=j:=by
   rcases Nat.lt_trichotomy i j with g|g|g
   · exact ((List.pairwise_iff_getElem.1 A i j (by simpa using v) zax_ g) (by simp only[List.getElem_map,k,d,h])).elim
   · exact g
   · exact ((List.pairwise_iff_getElem.1 A j i zax_ (by simpa using v) g) (by simp only[List.getElem_map,k,d,h])).elim
 subst B;rw[← k,← d]
theorem ItS.stepK {es:Array MapEntry} {q:List K} {c:Nat} {v:Array Nat} {done:List K} {e:MapEntry} (hi:∀ x y,kv x=kv y→x=y) (hE:KeyE kv es q) (hB:Born es c) (h:ItS kv es v done) (M:e∈(leftOf es v).toList) :
    ∃ k,k∈q∧k ∉ done∧e.key=kv k∧e∈es.toList∧ItS kv es (v.push e.born) (done++[k]):=by
  unfold leftOf at M;rw[Array.toList_filter,List.mem_filter]at M;obtain⟨E,O⟩:=M;obtain⟨k,hk,m⟩:=hE.ofKey E
  have H:k ∉ done:=fun hm=>by
    have:=(h.mem e E).2 ⟨k,hm,m⟩;rw[this]at O;simp at O
  have same:∀ x∈es.toList,x.born=e.born→x=e:=fun x I F=>by
    have N:=hB.nd;obtain⟨i,J,B⟩:=List.getElem_of_mem I;obtain⟨j,G,C⟩:=List.getElem_of_mem E
    have L:i=j:=by
      rcases Nat.lt_trichotomy i j with g|g|g
      · exact ((List.pairwise_iff_getElem.1 N i j (by simpa using J) (by simpa using G) g) (by simp only[List.getElem_map,B,C,F])).elim
      · exact g
      · exact ((List.pairwise_iff_getElem.1 N j i (by simpa using G) (by simpa using J) g) (by simp only[List.getElem_map,B,C,F])).elim
    subst L;rw[← B,← C]
  refine⟨k,hk,H,m,E,⟨?_,fun x I=>?_,fun y d=>?_⟩⟩
  · rw[List.nodup_append];exact⟨h.nd,by simp,fun a Q b F e=>by simp at F;subst F;subst e;exact H Q⟩
  · rw[Array.contains_push,Bool.or_eq_true,h.mem x I,beq_iff_eq]
    constructor
    · rintro (⟨y,d,A⟩|P)
      · exact⟨y,by simp[d],A⟩
      · have:=same x I P
        exact⟨k,by simp,this▸m⟩
    · rintro ⟨y,d,A⟩
      rcases List.mem_append.1 d with d|d
      · exact .inl ⟨y,d,A⟩
      · rw[List.mem_singleton]at d
        subst d;exact .inr (congrArg MapEntry.born (hE.entry hi I E (A.trans m.symm)))
  · rcases List.mem_append.1 d with d|d
    · exact h.sub y d
    · rw[List.mem_singleton]at d
      subst d;exact⟨e,E,m⟩
theorem ItS.endK {es:Array MapEntry} {q:List K} {d:Array Nat} {done:List K} (hi:∀ x y,kv x=kv y→x=y) (hE:KeyE kv es q) (h:ItS kv es d done) (G:(leftOf es d).size=0):done.Perm q:=by
 refine (List.perm_ext_iff_of_nodup h.nd hE.nd).2 fun k=>⟨fun hk=>?_,fun hk=>?_⟩
 ·obtain⟨e,B,A⟩:=h.sub k hk
  obtain⟨E,v,m⟩:=hE.ofKey B;exact hi _ _ (A.symm.trans m)▸v
 have:kv k∈es.toList.map (·.key):=by rw[hE.keys];exact List.mem_map_of_mem hk
 obtain⟨e,B,A⟩:=List.mem_map.1 this
 have C:d.contains e.born=true:=by
   cases hc:d.contains e.born
   · exfalso
     have:e∈(leftOf es d).toList:=by unfold leftOf;rw[Array.toList_filter,List.mem_filter];exact⟨B,by simp only[hc];rfl⟩
     have F:=List.length_pos_of_mem this;simp only[Array.length_toList]at F;omega
   · rfl
 obtain⟨E,v,m⟩:=(h.mem e B).1 C;exact hi _ _ (A.symm.trans m)▸v
end
end Go.Sx
namespace Go.Vs
open Go Go.Sx
structure Thg where
  kind:Int
  name:Str
deriving DecidableEq
def Thg.cells (t:Thg):List Value:=[.int .i64 t.kind,str t.name]
def Thg.val (t:Thg):Value:=.agg t.cells.toArray
section
variable {p:List Pc} {S:List Str} {t:Thg} {us:List Int} {j:Nat} {K W:List Thg} {U:List Bool} {wl:List Int} {i:Nat} {x:Pc} {n:Int}
end
end Go.Vs
namespace Go.Sx
open Go Go.Vs
section
variable {P:Program} {N:Nf} {v0:Vw} {H0:Hp} {R:Exit→Act→World→Prop} {Kk:List Kt} {fr:Fr} {H:Hp} {Γ:List Fct}
variable {ops:Array Oper} {lo:List Oper} {d:Nat} {ty:TypeId} {ps:String} {af:Array Edge}
variable {K:Type} [DecidableEq K] {kv:K→Value}
theorem IntE.at {x:TypeId} {es:Array MapEntry} {ks:List K} {vs:List Int} (A:KeyT P x kv) (h:IntE kv es ks vs) {k:K} {i:Nat} {n:Int} (hi:ks[i]? = some k) (y:vs[i]? = some n):∃ e,es[i]? = some e∧e.key=kv k∧e.val=.int .i64 n∧dp_ P x (kv k) es.toList (some (i,.int .i64 n)):=by
  have q:i<es.toList.length:=by
    have:=(List.getElem?_eq_some_iff.1 hi).1;have e:=congrArg List.length h.keys;simp only[List.length_map]at e;omega
  have m:=List.getElem?_eq_getElem q;have v:=congrArg (fun l=>l[i]?) h.vals;simp only[List.getElem?_map,m,Option.map_some,y,Option.some.injEq]at v;have hk:=congrArg (fun l=>l[i]?) h.keys;simp only[List.getElem?_map,m,Option.map_some,hi,Option.some.injEq]at hk;refine⟨es.toList[i],by rw[← Array.getElem?_toList];exact m,hk,v,?_⟩;have:=A.sf k es.toList ks i _ h.keys h.nd hi m;rwa [v]at this
end
end Go.Sx
namespace Go.Vs
open Go Go.Sx
def Thg.eqb (p q:Thg):Bool:=(p.kind==q.kind)&&((p.name==q.name)&&true)
theorem Thg.eqb_eq (p q:Thg):p.eqb q=decide (p=q):=by
  rw[Bool.eq_iff_iff];cases p;cases q;simp[Thg.eqb]
theorem take_snoc {α:Type} {l:List α} {i:Nat} {x:α} (h:l[i]? = some x):l.take (i+1)=l.take i++[x]:=by
  rw[List.take_add_one,h];rfl
abbrev SrS (l:List Str):Prop:=l.Pairwise fun x y=>x<y
theorem mo_ (a:Str):¬ a<a:=List.lt_irrefl a
theorem td_ {l:List Str} {s:Str} (e:s≠[]) (d:s ∉ l):un_ l s=l.take (kS l s)++[s]++l.drop (kS l s):=by
  unfold un_;rw[if_neg (by rintro (q|q);exact e q;exact d (List.mem_of_getElem? q))]
end Go.Vs
namespace Go.Proofs.YtpbnmnfdgckaiaaGreatDoor
open Go Go.Sx Go.Proofs
attribute [local irreducible] Code.wp wpList wpAnyH
open Go.Vs
theorem se_ {p:List Pc} {s:Str} (h:s∈atS p):s≠[]:=by
 rcases (iP_ p s).1 h with h|rfl|rfl
 ·obtain⟨x,_,d⟩:=List.mem_flatMap.1 ((gb_ p s).1 h)
  simpa using (List.mem_filter.1 d).2
 ·decide
 decide
theorem nl_:∀ {l:List Ax} {i:Nat} {q:Pc},q∈cc_ i l↔∃ (j:Nat) (a:Ax),l[j]? = some a∧q∈a.pieces ((i+j:Nat):Int)
 | [],i,q=>by simp[cc_]
 | x::l,i,q=>by
   rw[cc_,List.mem_append,nl_];constructor
   · rintro (h|⟨j,a,d,e⟩)
     · exact⟨0,x,rfl,h⟩
     · exact⟨j+1,a,by simpa using d,by rwa [show i+(j+1)=i+1+j by omega]⟩
   · rintro ⟨j,a,d,e⟩
     match j with
     | 0 =>
       obtain rfl:x=a:=by simpa using d
       exact .inl e
     | j+1=>exact .inr ⟨j,a,by simpa using d,by rwa [show i+1+j=i+(j+1) by omega]⟩
end Go.Proofs.YtpbnmnfdgckaiaaGreatDoor
namespace Go.Vs
open Go Go.Sx
def orF:List Int→Int
  | []=>0
  | x::l=>if x=0 then orF l else x
theorem va_:∀ {l:List Int} {i:Nat} {x:Int},(∀ y∈l.take i,y=0)→l[i]? = some x→x≠0→orF l=x
  | [],_,_,_,h,_=>by simp at h
  | y::l,0,x,_,h,hx=>by simp at h;subst h;simp[orF,hx]
  | y::l,i+1,x,h0,h,hx=>by
    have e:y=0:=h0 y zj_;rw[orF,if_pos e];exact va_ (i:=i) (fun z d=>h0 z (by rw[List.take_succ_cons];exact List.mem_cons_of_mem _ d)) zM_ hx
theorem qd_:∀ {l:List Int},(∀ y∈l,y=0)→orF l=0
  | [],_=>rfl
  | y::l,h=>by rw[orF,if_pos (h y zj_)];exact qd_ fun z d=>h z zL_
theorem cI_neg (x y:Int):Lib.compareInt x y<0↔x<y:=by unfold Lib.compareInt;(repeat' split)<;>omega
theorem xP_ (x y:Int):Lib.compareInt x y=0↔x=y:=by unfold Lib.compareInt;(repeat' split)<;>omega
theorem sa_:∀ (x y:Str),Lib.compareBytes x y<0↔x<y
 | [],[]=>by simp[Lib.compareBytes]
 | [],b::y=>by simp[Lib.compareBytes]
 | a::x,[]=>by simp[Lib.compareBytes]
 | a::x,b::y=>by
   rw[Lib.compareBytes,List.cons_lt_cons_iff]
   by_cases d:a<b
   · rw[if_pos d];simp[d]
   · by_cases h:b<a
     · rw[if_neg d,if_pos h]
       have:a≠b:=fun e=>by subst e;exact d h
       simp[d,this]
     · have e:a=b:=UInt8.le_antisymm (UInt8.not_lt.1 h) (UInt8.not_lt.1 d)
       rw[if_neg d,if_neg h,sa_ x y];simp[e]
theorem sS_:∀ (x y:Str),Lib.compareBytes x y=0↔x=y
 | [],[]=>by simp[Lib.compareBytes]
 | [],b::y=>by simp[Lib.compareBytes]
 | a::x,[]=>by simp[Lib.compareBytes]
 | a::x,b::y=>by
   rw[Lib.compareBytes]
   by_cases d:a<b
   · rw[if_pos d]
     have:a≠b:=fun e=>by subst e;exact absurd d (UInt8.lt_irrefl a)
     simp[this]
   · by_cases h:b<a
     · rw[if_neg d,if_pos h]
       have:a≠b:=fun e=>by subst e;exact d h
       simp[this]
     · have e:a=b:=UInt8.le_antisymm (UInt8.not_lt.1 h) (UInt8.not_lt.1 d)
       rw[if_neg d,if_neg h,sS_ x y];simp[e]
theorem iE_ (x:Int) (l:List Int):orF (x::l)<0↔x<0∨x=0∧orF l<0:=by
  rw[orF];split<;>omega
theorem po_:∀ (x y:Str),Lib.compareBytes x y=if x<y then -1 else if y<x then 1 else 0
 | [],[]=>by simp[Lib.compareBytes]
 | [],b::y=>by simp[Lib.compareBytes]
 | a::x,[]=>by simp[Lib.compareBytes]
 | a::x,b::y=>by
   rw[Lib.compareBytes]
   by_cases d:a<b
   · have l:a::x<b::y:=by rw[List.cons_lt_cons_iff];exact .inl d
     rw[if_pos d,if_pos l]
   · by_cases h:b<a
     · have l:b::y<a::x:=by rw[List.cons_lt_cons_iff];exact .inl h
       have k:¬ a::x<b::y:=fun q=>absurd (List.lt_trans q l) (List.lt_irrefl _)
       rw[if_neg d,if_pos h,if_neg k,if_pos l]
     · have e:a=b:=UInt8.le_antisymm (UInt8.not_lt.1 h) (UInt8.not_lt.1 d)
       subst e;rw[if_neg d,if_neg h,po_ x y];simp only[List.cons_lt_cons_iff,d,false_or,true_and]
namespace Con
end Con
end Go.Vs
namespace Go.Proofs.YtpbnmnfdgckaiaaGreatDoor
open Go Go.Sx Go.Proofs
attribute [local irreducible] Code.wp wpList wpAnyH
open Go.Vs
instance:Inhabited Fc:=⟨⟨0,[],[],[],0,0⟩⟩
theorem gV_ (x y:Int):Fn0 Tryz.prog 135 #[.int .i64 x,.int .i64 y] (.int .i64 (Lib.compareInt x y)) :=
  cP_ (callable Tryz.func135 rfl rfl) fun v _ _=>(Tryz.cmp_Compare_int x y v.w).mono zk_
theorem kc_ (x y:Str):Fn0 Tryz.prog 86 #[str x,str y] (.int .i64 (Lib.compareBytes x y)) :=
  cP_ (callable Tryz.func86 rfl rfl) fun v _ _=>(Tryz.strings_Compare ⟨x.toArray⟩ ⟨y.toArray⟩ v.w).mono zk_
def hC_ (x y:Fc):Int:=orF [Lib.compareInt x.kind y.kind,Lib.compareBytes x.a y.a,Lib.compareBytes x.b y.b,Lib.compareBytes x.r y.r,Lib.compareInt x.lo y.lo,Lib.compareInt x.hi y.hi]
theorem qQ_ (x y:Fc):hC_ x y<0↔x.lt y:=by
  unfold hC_ Fc.lt;rw[iE_,iE_,iE_,iE_,iE_,iE_];simp only[cI_neg,xP_,sa_,sS_,orF,Int.lt_irrefl,and_false,or_false]
theorem yl_ (l:List Int) (ad:Option Addr) (cap:Nat) (hl:l.length≤1000):Tri Tryz.prog 134 #[.slice ad (List.length l) cap] [] [ah_ ad (List.flatMap fz_ l)] (fun _:Unit=>.int .i64 (orF l)) (fun _=>[]) (fun _=>[]):=by
 refine i_ Tryz.func134 rfl rfl Tryz.ntmps134 rfl fun A=>?_;refine Zz 19 ?_;refine L_ (ι:={y:Nat // y≤l.length∧∀ z∈l.take y,z=0}) (fun y=>[(3,.int .i64 0),(6,.slice ad (List.length l) cap),(7,.int .i64 (List.length l:Int)),(8,.int .i64 (y.1:Int))]) (fun y=>([])) (fun y=>[ah_ ad (List.flatMap fz_ l)]) (fun y=>l.length - y.1) ⟨(0:Nat),by simp,by simp⟩ zl m_ zh ?_;rintro ⟨i,hi,d⟩;dsimp only at hi d ⊢;refine Zi 2 (fun q=>?_) fun q=>?_
 ·refine Zz 13 ?_
  exact ae_ Tryz.results134 () (ce_ rfl (qd_ fun y h=>d y (by rw[List.take_of_length_le za_];exact h)).symm) m_ zt
 obtain⟨k,x,e,v⟩:=zge (show i<List.length l by omega);refine Zi 19 (fun m=>?_) fun m=>?_
 ·refine Zz 10 ?_
  exact x_ ⟨i+1,k,fun y h=>by rw[List.take_add_one,e]at h;simp only[Option.toList_some,List.mem_append,List.mem_singleton]at h;rcases h with h|rfl;exact d y h;omega⟩ zb_ zl m_ zh
 refine Zz 10 ?_;exact ae_ Tryz.results134 () (ce_ rfl (va_ d e zi_).symm) m_ zt
theorem cmpF_c (x y:Fc):Fn0 Tryz.prog 79 #[Fc.val x,Fc.val y] (.int .i64 (hC_ x y)):=by
  refine i_ Tryz.func79 rfl rfl Tryz.ntmps79 rfl fun h=>?_;refine Zz 2 ?_;refine aa_ rfl rfl fun k=>aa_ rfl rfl fun e=>Zz 5 ?_
  refine J_ 9 [0,1,2,3,5,6,7,8,10,11,12,13,15,16,17,18,20,21,22,23,25,26,27,28] zk zs (Zz 25 ?_);refine s_ 4 rfl zk (g_ (gV_ x.kind y.kind) rfl m_ zt rfl fun _=>Zz 3 ?_);refine s_ 9 rfl zk (g_ (kc_ x.a y.a) rfl m_ zt rfl fun _=>Zz 3 ?_);refine s_ 14 rfl zk (g_ (kc_ x.b y.b) rfl m_ zt rfl fun _=>Zz 3 ?_);refine s_ 19 rfl zk (g_ (kc_ x.r y.r) rfl m_ zt rfl fun _=>Zz 3 ?_);refine s_ 24 rfl zk (g_ (gV_ x.lo y.lo) rfl m_ zt rfl fun _=>Zz 3 ?_);refine s_ 29 rfl zk (g_ (gV_ x.hi y.hi) rfl m_ zt rfl fun _=>Zz 3 ?_);refine s_ 30 rfl zk (U_ at_ ak_ kk_ rfl rfl rfl rfl rfl rfl fun d=>?_);refine cM_ (List.flatMap fz_ [(Lib.compareInt x.kind y.kind),(Lib.compareBytes x.a y.a),(Lib.compareBytes x.b y.b),(Lib.compareBytes x.r y.r),(Lib.compareInt x.lo y.lo),(Lib.compareInt x.hi y.hi)]) d_ rfl ?_;refine Zz 3 ?_;refine s_ 31 rfl zk (g_ (yl_ [(Lib.compareInt x.kind y.kind),(Lib.compareBytes x.a y.a),(Lib.compareBytes x.b y.b),(Lib.compareBytes x.r y.r),(Lib.compareInt x.lo y.lo),(Lib.compareInt x.hi y.hi)] (some ⟨d,0,none⟩) 6 zj_) rfl m_ zf rfl fun _=>Zz 3 ?_);refine J_ 0 [32] zk zs (Zz 5 ?_);exact ae_ Tryz.results79 () (ce_ rfl (by rfl)) m_ zt
structure Cl where
  atoms:List Str
  aad:Option Addr
  acap:Nat
  facts:List Fc
  fad:Option Addr
  fcap:Nat
def Cl.cells (c:Cl):List Value:=[.slice c.aad c.atoms.length c.acap,.slice c.fad c.facts.length c.fcap]
def Cl.val (c:Cl):Value:=.agg c.cells.toArray
def Cl.row (c:Cl):List Fct:=[ah_ c.aad (List.flatMap af_ c.atoms),ah_ c.fad (List.flatMap Fc.cells c.facts)]
def Cl.no:Cl:=Cl.mk [] none 0 [] none 0
structure Cl.ok (c:Cl):Prop where
  al:c.atoms.length≤c.acap
  am:c.acap≤maxLen
  az:c.aad=none→c.acap=0
  fl:c.facts.length≤c.fcap
  fm:c.fcap≤maxLen
  fz:c.fad=none→c.fcap=0
theorem Cl.no_ok:Cl.no.ok:=⟨Nat.le_refl _,by simp[Cl.no],fun _=>rfl,Nat.le_refl _,by simp[Cl.no],fun _=>rfl⟩
theorem wT_ {s:Str} (h:cA_ s=true):s≠[]:=fun e=>by subst e;revert h;decide
theorem ty_ {s:Str} (h:aM_ s=true):s≠[]:=fun e=>by subst e;revert h;decide
theorem gF_ {p:Pc} (h:p.valid=true):p.vok:=by
 unfold Pc.valid at h
 split at h
 ·simp at h
 rename_i e
 split at h
 ·simp at h
 rename_i d
 split at h
 ·simp at h
 have hk:p.kind=1∨p.kind=2∨p.kind=3∨p.kind=4∨p.kind=5∨p.kind=6∨p.kind=7∨p.kind=8∨p.kind=9:=by omega
 have m:∀ {b:Bool} {s:Str},cb_ b s cA_=true→b=true→s≠[]:=fun e d=>by
   subst d;simp[cb_]at e;exact wT_ e
 have v:∀ {b:Bool} {s:Str},cb_ b s aM_=true→b=true→s≠[]:=fun e d=>by
   subst d;simp[cb_]at e;exact ty_ e
 simp only[Bool.and_eq_true]at h;obtain⟨⟨⟨⟨⟨_,_⟩,_⟩,k⟩,y⟩,x⟩:=h;unfold Pc.rok at *;refine⟨⟨fun q=>?_,fun q=>?_,fun q=>?_⟩,fun q=>?_⟩
 ·rcases q with q|q|q|q|q|q|q<;>rw[q]at k
  ·exact m k ze_
  ·exact m k ze_
  ·exact m k ze_
  ·exact v k ze_
  ·exact m k ze_
  ·exact m k ze_
  exact v k ze_
 ·rw[q]at y x;exact⟨m y ze_,m x ze_⟩
 ·rw[q]at x;exact m x ze_
 rcases q with q|q<;>rw[q]at d<;>have:(nus 8).numbers=true∧(nus 9).numbers=true:=by decide
 all_goals simp only[this.1,this.2,true_and]at d;omega
theorem qU_ {p:List Pc} (h:da_ p=0):p.length≤16384∧p.all Pc.valid=true:=by
 unfold da_ at h
 split at h
 ·simp at h
 split at h
 ·exact⟨by omega,by assumption⟩
 simp at h
theorem ot_ {p:List Pc} (h:da_ p=0):∀ x∈p,x.vok:=fun x d=>gF_ (List.all_eq_true.1 (qU_ h).2 x d)
section
variable {P:Program} {N:Nf} {v0:Vw} {H0:Hp} {fr:Fr} {H F Ha Hu Ho Hi Hr Hm Hs:Hp} {Γ:List Fct}
theorem fx_ {fn:Func} {t s b n:Nat} {ty T:TypeId} {us:List Value} {u:Value} (i:Nat) (h:fn.results=#[.cell t ty,.tmp s]) (q:∀ w,(isAgg ty).run P w=.ok true w) (x:∀ w,(sizeOf ty).run P w=.ok n w) (B:us.length=n) (C:Fr.get fr t=some (zp_ b 0)) (k:Fr.get fr s=some u)
    (hi:H[i]? = some (b,.cells us.toArray T (0,0))) (a:Act) (v:Vw) (d:Fr.sat N fr a) (A:v.sat H):(results fn a.tmps).run P v.w=.ok (.tuple #[.agg us.toArray,u]) v.w:=by
  have e:=d.val t _ C;have E:=d.val s _ k;have hl:=dI_ (t:=ty) (w:=v.w) (b:=b) (off:=0) q x B (fun j y m=>by rw[Nat.zero_add,fV_ A hi];simpa using m);simp[results,h,e,E,asAddr,hl]
theorem pf_six (h:H.Perm ((Ha++(Hu++(Ho++(Hi++(Hr++(Hm++Hs))))))++F)):H.Perm (((Ha++(Hu++(Ho++(Hi++(Hr++Hm)))))++Hs)++F):=by simpa [List.append_assoc] using h
theorem xd_:(((Ha++(Hu++(Ho++(Hi++(Hr++Hm)))))++Hs)++F).Perm (Ha++(Hu++(Ho++(Hi++(Hr++(Hm++(Hs++F))))))):=by simp[List.append_assoc]
theorem xe_ {a b c:Nat×Obj} {d:Hp}:((Ha++(Hu++(Ho++(Hi++(Hr++(Hm++(a::b::([c]++d))))))))++F).Perm (Ha++(Hu++(Ho++(Hi++(Hr++(Hm++(a::b::([c]++(d++F))))))))):=by simp[List.append_assoc]
end
theorem jj_:hN_ Tryz.prog 67 [(0,1),(1,1)] [.slice none 0 0,.slice none 0 0]:=⟨_,Tryz.zeroValue67,cI_,fun w=>by simp[bO_,ci_]⟩
end Go.Proofs.YtpbnmnfdgckaiaaGreatDoor
namespace Go.Proofs.YtpbnmnfdgckaiaaGreatDoor
open Go Go.Sx Go.Proofs
attribute [local irreducible] Code.wp wpList wpAnyH
open Go.Vs Go.Shelf Go.RowKit
theorem hZ_ {v d:Vw} (h:v.to [] d []) (B:¬ v.sl):∃ q os,d.w=Sort.grow (v.w.drewN q) os:=by
 have y:v.w.drawn≤d.w.drawn:=h.dr.resolve_left B;refine⟨d.w.drawn - v.w.drawn,d.w.heap.extract v.w.heap.size d.w.heap.size,?_⟩
 have x:d.w.heap=v.w.heap++d.w.heap.extract v.w.heap.size d.w.heap.size:=by
   apply Array.ext_getElem?
   intro i;have A:=h.size;rw[Array.getElem?_append]
   split
   · rename_i hi;exact h.block i hi zj_
   · rename_i hi
     rw[Array.getElem?_extract]
     split
     · congr 1;omega
     · rw[Array.getElem?_eq_none za_]
 have e:=h.os;have k:=h.tape;have m:=h.output;obtain⟨C,⟨G,I,dn,E,H⟩,F⟩:=d;simp only at e k m x y;simp only[Sort.grow,World.drewN,World.mk.injEq];exact⟨x,k,by omega,e,m⟩
theorem xK_ (d off size:Nat) (w:World):CmpLays Tryz.prog 79 #[] Fc.cells 6 hC_ d off size w:=fun m os v _ x y=>by
  have h:=(cmpF_c x y).run ⟨fun _=>False,sortWorldK Fc.cells 6 w d off m v os,False⟩ ⟨by simp,by simp,fun _ h=>h.elim⟩ trivial;refine h.mono ?_;rintro e w' ⟨_,C,rfl,rfl,_,_,A⟩;obtain⟨q,k,B⟩:=hZ_ A (fun h=>h);exact⟨rfl,q,k,B⟩
theorem ltF (x y:Fc):ltOf hC_ x y=decide (x.lt y):=by unfold ltOf;rw[decide_eq_decide];exact qQ_ x y
theorem wB_:Sort.SWO (ltOf hC_) where
 irrefl x:=by rw[ltF];exact decide_eq_false x.lt_irr
 trans x y z h1 h2:=by rw[ltF,decide_eq_true_eq]at *;exact Fc.lt_trans h1 h2
 ntrans x y z h1 h2:=by
   rw[ltF,decide_eq_false_iff_not]at *;intro h;rcases Fc.lt_tri x y with g|g|g
   · exact h1 g
   · subst g;exact h2 h
   · exact h2 (Fc.lt_trans g h)
theorem totF (x y:Fc) (d:ltOf hC_ x y=false) (e:ltOf hC_ y x=false):x=y:=by
 rw[ltF,decide_eq_false_iff_not]at d e;rcases Fc.lt_tri x y with g|g|g
 ·exact absurd g d
 ·exact g
 exact absurd g e
theorem hx_ (d:List Fc):Sort.flatK Fc.cells 6 d.toArray=(d.flatMap Fc.cells).toArray:=by
 apply Array.ext_getElem?
 intro t;have e:(d.flatMap Fc.cells).toArray[t]? = (d.flatMap Fc.cells)[t]? := by simp
 rw[e]
 by_cases k:t<d.length*6
 ·have h:t / 6<d.length:=by omega
  have:=kC_ Fc.cells 6 Fc.cells_len d (t / 6) (t%6) d[t / 6] (List.getElem?_eq_getElem h) (Nat.mod_lt _ ze_);rw[show t / 6*6+t%6=t by omega]at this;rw[this];simp only[Sort.flatK,Array.getElem?_map,List.size_toArray];rw[Array.getElem?_eq_getElem zam_];simp only[Array.getElem_range,Option.map_some];rw[getElem!_pos d.toArray (t / 6) zM_];have hl:t%6<(Fc.cells d[t / 6]).length:=by rw[Fc.cells_len];omega
  rw[List.getElem?_eq_getElem hl];simp only[List.getElem_toArray];rw[getElem!_pos (Fc.cells d[t / 6]) (t%6) hl]
 rw[List.getElem?_eq_none (by rw[dr_ Fc.cells 6 Fc.cells_len];omega),Array.getElem?_eq_none (by simp[Sort.flatK];omega)]
theorem lj_ {P:Program} {Γ:List Fct} {f:FuncId} {args:Array Value} {r:Value} {g:Nat} {cur:Array Value} {T:TypeId} {d:Array Value} (H:ha_ P f)
    (h:∀ v:Vw,v.sat [(g,.cells cur T (0,0))]→Calls P f args v.w fun e w'=>e=.returned r∧∃ n os,w'=Sort.grow (Sort.putRow id (Sort.ahead v.w n) g 0 d) os) :
    Tri P f args [(g,.cells cur T (0,0))] Γ (fun _:Unit=>r) (fun _=>[(g,.cells (Sort.putCells id 0 d cur) T (0,0))]) (fun _=>[]) :=
  ⟨H,fun v E _=>(h v E).mono fun e w' ⟨I,n,os,m⟩=>by
    have C:=(E.own _ List.mem_cons_self);have B:g<v.w.heap.size:=(Array.getElem?_eq_some_iff.1 C.1).1
    have y:∀ b,b<v.w.heap.size→w'.heap[b]? = if b=g then some (.cells (Sort.putCells id 0 d cur) T (0,0)) else v.w.heap[b]? := fun b y=>by
      rw[m];simp only[Sort.grow,Sort.putRow,Sort.mapBlock,Sort.ahead];rw[Array.getElem?_append_left zay_,Array.getElem?_modify]
      by_cases e:b=g
      · subst e
        simp only[if_true,C.1,Option.map_some,Sort.onCells]
      · rw[if_neg (fun q=>e q.symm),if_neg e]
    have x:v.w.heap.size≤w'.heap.size:=by rw[m];simp[Sort.grow,Sort.putRow,Sort.mapBlock,Sort.ahead]
    refine⟨(),⟨v.im,w',v.sl⟩,I,rfl,⟨fun p F=>?_,by simp,fun b k=>Nat.lt_of_lt_of_le (E.lt b k) x⟩,trivial,⟨by rw[m];rfl,by rw[m];rfl,by rw[m];rfl,x,fun b k G=>?_,fun _ h=>h,fun _ h=>.inl h,fun b hm=>.inl (by simpa using hm),rfl,.inr (by rw[m];exact Nat.le_add_right _ _)⟩⟩
    · simp only[List.mem_singleton]at F
      subst F;exact⟨by show w'.heap[g]? = _;rw[y g B,if_pos rfl],C.2⟩
    · have A:b≠g:=by simpa using G
      show w'.heap[b]? = _
      rw[y b k,if_neg A]⟩
theorem nU_ {cur:Array Value} {d:List Value} (h:d.length≤cur.size):(Sort.putCells id 0 d.toArray cur).toList.take d.length=d:=by
 apply List.ext_getElem?
 intro j;rw[List.getElem?_take]
 split
 ·rename_i e
  simp only[Sort.putCells,Array.getElem?_toList,Array.getElem?_mapIdx];rw[Array.getElem?_eq_getElem za_];simp only[Option.map_some,Nat.zero_le,true_and,Nat.zero_add,List.size_toArray,e,if_true,Nat.sub_zero];rw[List.getElem?_eq_getElem e,getElem!_pos d.toArray j zaf_];rfl
 rename_i e
 rw[List.getElem?_eq_none za_]
theorem nV_ {cur d:Array Value}:(Sort.putCells id 0 d cur).size=cur.size:=by simp[Sort.putCells]
theorem vI_ {g:Nat} {cur:Array Value} {T:TypeId} {d:List Value} {v:Vw} (q:v.sat [(g,.cells cur T (0,0))]) (k:cur.toList.take d.length=d):Sort.Holds id v.w g 0 d.toArray:=by
 intro j e;have h:=(q.own _ List.mem_cons_self).1;simp only[List.size_toArray]at e
 have m:cur[j]? = some d[j]:=by
   have:=congrArg (fun l=>l[j]?) k;simp only[List.getElem?_take,e,if_true,Array.getElem?_toList]at this;rw[this,List.getElem?_eq_getElem e]
 refine⟨?_,?_⟩
 ·simp only[World.cell?,Nat.zero_add,h,Option.isSome_none,Bool.false_eq_true,if_false]
  rw[m,getElem!_pos d.toArray j zaf_];rfl
 simp[World.frozen?,h]
def eO_ (xs:List Fc):List Fc:=xs.mergeSort fun x y=>!(ltOf hC_) y x
theorem dH_ (d:List Fc):(eO_ d).length=d.length:=List.length_mergeSort _
theorem pL_ (d:List Fc) (x:Fc):x∈eO_ d↔x∈d:=List.mem_mergeSort
theorem uA_ {k:List Fc} (h:k.Nodup):Srt (eO_ k):=by
 have e:(eO_ k).Pairwise fun x y=>(!(ltOf hC_) y x)=true:=List.pairwise_mergeSort
   (fun a b c e d=>by simp only[Bool.not_eq_true']at *;exact wB_.ntrans c b a d e)
   (fun a b=>by
     simp only[Bool.or_eq_true,Bool.not_eq_true'];rw[ltF,ltF,decide_eq_false_iff_not,decide_eq_false_iff_not];rcases Fc.lt_tri a b with g|g|g
     · exact .inl fun q=>Fc.lt_irr a (Fc.lt_trans g q)
     · subst g;exact .inl a.lt_irr
     · exact .inr fun q=>Fc.lt_irr a (Fc.lt_trans q g)) k
 have d:(eO_ k).Nodup:=(List.mergeSort_perm k _).nodup_iff.2 h;refine (e.and d).imp ?_;rintro x y ⟨a,b⟩;simp only[Bool.not_eq_true',ltF,decide_eq_false_iff_not]at a;rcases Fc.lt_tri x y with g|g|g
 ·exact g
 ·exact absurd g b
 exact absurd g a
theorem wL_ {sv:Value} {k:List Fc} {Hr:Hp} (h:aw_ 36 6 sv k.length (k.flatMap Fc.cells) Hr) (hl:k.length≤1000000000000) :
    Tri Tryz.prog 78 #[sv,.func (.func 79) #[] #[]] Hr [] (fun _:{y:Hp // aw_ 36 6 sv (eO_ k).length ((eO_ k).flatMap Fc.cells) y}=>.tuple #[]) (fun y=>y.1) (fun _=>[]):=by
  rcases h.2 with⟨rfl,L,rfl⟩|⟨g,cap,cur,rfl,rfl,J,K,E,I⟩
  · obtain rfl:k=[]:=List.eq_nil_of_length_eq_zero L
    have T:=cP_ (P:=Tryz.prog) (H:=[]) (Γ:=[]) (callable Tryz.func78 rfl rfl) (fun v _ _=>(AnyF.slices_SortFunc_none Tryz.sortFc none 0 (.func (.func 79) #[] #[]) v.w).mono zk_);exact⟨T.callable,fun v a b=>(T.run v a b).mono zX_⟩
  · have O:(k.flatMap Fc.cells).length=k.length*6:=dr_ Fc.cells 6 Fc.cells_len k
    have T:=lj_ (P:=Tryz.prog) (Γ:=[]) (r:=.tuple #[]) (g:=g) (cur:=cur) (T:=36) (d:=((eO_ k).flatMap Fc.cells).toArray) (f:=78) (args:=#[.slice (some ⟨g,0,none⟩) k.length cap,.func (.func 79) #[] #[]]) (callable Tryz.func78 rfl rfl) (fun v M=>by
      have Q:=AnyQ.slices_SortFunc_total Tryz.sortFc 6 bp_ y_ Fc.cells Fc.cells_len (fun x u N=>List.all_eq_true.1 x.cells_one u N) hC_ wB_ 79 #[] g 0 cap k.toArray v.w (fun args w=>(callable Tryz.func79 rfl rfl) args w) (xK_ g 0 _ v.w) zav_ (Array.getElem?_eq_some_iff.1 (M.own _ List.mem_cons_self).1).1 zn_ totF;refine Q.mono ?_;rintro e w' ⟨rfl,n,os,rfl⟩;refine⟨rfl,n,os,?_⟩;unfold sortWorldK Sort.putRowK;rw[show ((k.toArray.toList.mergeSort fun x y=>!(ltOf hC_) y x))=eO_ k from rfl,hx_])
    refine⟨T.callable,fun v a b=>(T.run v a b).mono ?_⟩;rintro e w' ⟨x,G,m,q,C,A,B⟩;have F:((eO_ k).flatMap Fc.cells).length=k.length*6:=by rw[dr_ Fc.cells 6 Fc.cells_len,dH_]
    refine⟨⟨_,by rw[F,dH_],.inr ⟨g,cap,_,by rw[dH_],rfl,by rw[dH_];exact J,K,by rw[nV_];exact E,?_⟩⟩,G,m,q,C,A,B⟩;have:=nU_ (cur:=cur) (d:=(eO_ k).flatMap Fc.cells) (by rw[F,E];omega);rw[F]at this;rw[dH_];exact this
section
variable {P:Program} {N:Nf} {v0:Vw} {H0:Hp} {fr:Fr} {H F:Hp} {Γ:List Fct} {K D:Type} [DecidableEq K]
theorem jt_:∀ (B:Hp) {v:Vw},Z_ (B.map fun p=>bW_ p.1 p.2) v→∀ p∈B,v.im p.1∧v.w.heap[p.1]? = some p.2
 | [],_,_,_,h=>by simp at h
 | q::B,v,h,p,d=>by
   rcases List.mem_cons.1 d with rfl|d
   · exact h.1
   · exact jt_ B h.2 p d
theorem mN_ {k:Act→World→Prop} {m:K→Value} {cells:D→List Value} {x e:TypeId} {sz y:Nat} {l:List (K×D)} {d:Hp} (E:KeyT P x m) (hm:cS_ m cells e sz l y d) (A:H.Perm (d++F))
    (h:∀ adr,Ok N v0 H0 k fr F (mlF P x m cells y l adr::Γ)):Ok N v0 H0 k fr H Γ:=by
  obtain⟨adr,C⟩:=hm.lent E;refine mO_ d A (mP_ (fun v _ q=>?_) (h adr));rw[eL_]at q;refine⟨C v fun p B=>?_,q.2⟩;have:=q.1;exact jt_ d.reverse (by rw[List.map_reverse]at *;exact this) p (List.mem_reverse.2 B)
theorem mf_ {B:TypeId} {E:Emt P B} {nw fm:List Fc} {Hs:Hp} {ty t e A:TypeId} {x:Operand} (hS:E.St nw fm Hs) (d:∀ w,(underlying t).run P w=.ok (.map e A) w) (q:Fr.ev fr x=some (.map (some E.kb))) (k:H.Perm (Hs++F)) :
    Yld P N fr H Γ (.call ⟨.builtin .len,#[x],#[t]⟩) ty (.int .i64 ((E.kof nw).length:Int)):=by
  obtain⟨es,c,m,y⟩:=E.known hS;exact me_ y d q fun v h _=>mG_ k m h
end
def rH_ (x:Ix) (n:Nat):Prop:=x.above.length≤n∧x.under.length≤n∧x.frm.length≤n∧x.into.length≤n∧x.ranges.length≤n∧x.firms.length≤n
theorem vw_:rH_ Ix.nil 0:=by simp[rH_,Ix.nil]
theorem jS_ {x:Ix} {n:Nat} (h:rH_ x n) (b:Bool) (f:Fc):rH_ (x.add b f) (n+1):=by
 obtain⟨q,d,k,e,v,m⟩:=h;unfold Ix.add rH_
 split
 ·simp;omega
 split
 ·simp;omega
 split
 ·cases b<;>simp<;>omega
 omega
theorem qw_ {x:Ix} {n:Nat} (h:rH_ x n) (A:n≤1000000000):(∀ k,(lat x.above k).length≤1000000000∧(lat x.under k).length≤1000000000)∧(∀ k,(lat x.frm k).length≤1000000000∧(lat x.into k).length≤1000000000∧(lat x.ranges k).length≤1000000000∧(lat x.firms k).length≤1000000000):=by
 obtain⟨v,d,m,e,y,q⟩:=h;refine⟨fun k=>⟨?_,?_⟩,fun k=>⟨?_,?_,?_,?_⟩⟩
 ·have:=dx_ x.above k;omega
 ·have:=dx_ x.under k;omega
 ·have:=dx_ x.frm k;omega
 ·have:=dx_ x.into k;omega
 ·have:=dx_ x.ranges k;omega
 have:=dx_ x.firms k;omega
theorem wS_ (B:EngB) (E:Emt Tryz.prog 36) (J:EngA) (q:List (Ky×Pc)) (x:Ix) (f:Fc) (nw fm:List Fc) (Hs:Hp) (hS:E.St nw fm Hs) (C A v G Hr I:Hp) (O:IxO 9 36 B x ⟨C,A,v,G,Hr,I⟩) (m:∀ k,(lat q k).length≤1000000000) (d:∀ k,(lat x.above k).length≤1000000000∧(lat x.under k).length≤1000000000) (e:∀ k,(lat x.frm k).length≤1000000000∧(lat x.into k).length≤1000000000∧(lat x.ranges k).length≤1000000000∧(lat x.firms k).length≤1000000000) (L:f.kind=3→-1099511627776≤f.lo∧f.lo≤f.hi∧f.hi≤1099511627776) (M:f.kind=3→∀ y∈lat q (Ky.mk 9 f.r []),-1099511627776≤y.lo∧y.lo≤y.hi∧y.hi≤1099511627776) (hk:f.kind=1):∀ (j:Nat) {fv:Value},(rlV B.g 1)[j]? = some fv→∃ n:Nat,fv=.func (.func n) #[zp_ B.g 0] #[]∧Tri Tryz.prog n #[zp_ B.g 0,f.val] ((C++(A++(v++(G++(Hr++I)))))++Hs) [gF B E,pF B q J,E.ef] (fun _:{H':Hp // E.St (rl E.stp E.kof q x f j (nw,fm)).1 (rl E.stp E.kof q x f j (nw,fm)).2 H'}=>.tuple #[]) (fun y=>(C++(A++(v++(G++(Hr++I)))))++y.1) (fun _=>[])
  | 0,_,h=>⟨120,(Option.some.inj h).symm,rl10_c B E J q x f nw fm Hs hS C A v G Hr I O m d e L M hk⟩
  | 1,_,h=>⟨121,(Option.some.inj h).symm,rl11_c B E J q x f nw fm Hs hS C A v G Hr I O m d e L M hk⟩
  | 2,_,h=>⟨122,(Option.some.inj h).symm,rl12_c B E J q x f nw fm Hs hS C A v G Hr I O m d e L M hk⟩
  | 3,_,h=>⟨123,(Option.some.inj h).symm,rl13_c B E J q x f nw fm Hs hS C A v G Hr I O m d e L M hk⟩
  | 4,_,h=>⟨124,(Option.some.inj h).symm,rl14_c B E J q x f nw fm Hs hS C A v G Hr I O m d e L M hk⟩
  | 5,_,h=>⟨125,(Option.some.inj h).symm,rl15_c B E J q x f nw fm Hs hS C A v G Hr I O m d e L M hk⟩
  | j+6,_,h=>by simp[rlV]at h
theorem wR_ (B:EngB) (E:Emt Tryz.prog 36) (J:EngA) (e:List (Ky×Pc)) (x:Ix) (f:Fc) (nw fm:List Fc) (Hs:Hp) (hS:E.St nw fm Hs) (C A v G Hr I:Hp) (O:IxO 9 36 B x ⟨C,A,v,G,Hr,I⟩) (q:∀ k,(lat e k).length≤1000000000) (d:∀ k,(lat x.above k).length≤1000000000∧(lat x.under k).length≤1000000000) (m:∀ k,(lat x.frm k).length≤1000000000∧(lat x.into k).length≤1000000000∧(lat x.ranges k).length≤1000000000∧(lat x.firms k).length≤1000000000) (L:f.kind=3→-1099511627776≤f.lo∧f.lo≤f.hi∧f.hi≤1099511627776) (M:f.kind=3→∀ y∈lat e (Ky.mk 9 f.r []),-1099511627776≤y.lo∧y.lo≤y.hi∧y.hi≤1099511627776) (hk:f.kind=2):∀ (j:Nat) {fv:Value},(rlV B.g 2)[j]? = some fv→∃ n:Nat,fv=.func (.func n) #[zp_ B.g 0] #[]∧Tri Tryz.prog n #[zp_ B.g 0,f.val] ((C++(A++(v++(G++(Hr++I)))))++Hs) [gF B E,pF B e J,E.ef] (fun _:{H':Hp // E.St (rl E.stp E.kof e x f j (nw,fm)).1 (rl E.stp E.kof e x f j (nw,fm)).2 H'}=>.tuple #[]) (fun y=>(C++(A++(v++(G++(Hr++I)))))++y.1) (fun _=>[])
  | 0,_,h=>⟨126,(Option.some.inj h).symm,rl20_c B E J e x f nw fm Hs hS C A v G Hr I O q d m L M hk⟩
  | 1,_,h=>⟨127,(Option.some.inj h).symm,rl21_c B E J e x f nw fm Hs hS C A v G Hr I O q d m L M hk⟩
  | 2,_,h=>⟨128,(Option.some.inj h).symm,rl22_c B E J e x f nw fm Hs hS C A v G Hr I O q d m L M hk⟩
  | 3,_,h=>⟨129,(Option.some.inj h).symm,rl23_c B E J e x f nw fm Hs hS C A v G Hr I O q d m L M hk⟩
  | j+4,_,h=>by simp[rlV]at h
theorem wQ_ (B:EngB) (E:Emt Tryz.prog 36) (J:EngA) (d:List (Ky×Pc)) (x:Ix) (f:Fc) (nw fm:List Fc) (Hs:Hp) (hS:E.St nw fm Hs) (A q e C Hr I:Hp) (O:IxO 9 36 B x ⟨A,q,e,C,Hr,I⟩) (G:∀ k,(lat d k).length≤1000000000) (m:∀ k,(lat x.above k).length≤1000000000∧(lat x.under k).length≤1000000000) (v:∀ k,(lat x.frm k).length≤1000000000∧(lat x.into k).length≤1000000000∧(lat x.ranges k).length≤1000000000∧(lat x.firms k).length≤1000000000) (L:f.kind=3→-1099511627776≤f.lo∧f.lo≤f.hi∧f.hi≤1099511627776) (M:f.kind=3→∀ y∈lat d (Ky.mk 9 f.r []),-1099511627776≤y.lo∧y.lo≤y.hi∧y.hi≤1099511627776) (hk:f.kind=3):∀ (j:Nat) {fv:Value},(rlV B.g 3)[j]? = some fv→∃ n:Nat,fv=.func (.func n) #[zp_ B.g 0] #[]∧Tri Tryz.prog n #[zp_ B.g 0,f.val] ((A++(q++(e++(C++(Hr++I)))))++Hs) [gF B E,pF B d J,E.ef] (fun _:{H':Hp // E.St (rl E.stp E.kof d x f j (nw,fm)).1 (rl E.stp E.kof d x f j (nw,fm)).2 H'}=>.tuple #[]) (fun y=>(A++(q++(e++(C++(Hr++I)))))++y.1) (fun _=>[])
  | 0,_,h=>⟨130,(Option.some.inj h).symm,rl30_c B E J d x f nw fm Hs hS A q e C Hr I O G m v L M hk⟩
  | 1,_,h=>⟨131,(Option.some.inj h).symm,rl31_c B E J d x f nw fm Hs hS A q e C Hr I O G m v L M hk⟩
  | j+2,_,h=>by simp[rlV]at h
def fv_ (p:List Pc) (bu:Int) (c:Cl) (e:Int):Prop :=
  if da_ p≠0 then c=Cl.no∧e=da_ p
  else if bu<0∨1073741824<bu then c=Cl.no∧e=1
  else (e=0∧c.ok∧c.atoms=atS p∧gy_ p (atS p) (min bu 65536).toNat (some c.facts))∨(c=Cl.no∧e=(if bu<65536 then 3 else 2)∧gy_ p (atS p) (min bu 65536).toNat none)
theorem wm_ {p:List Pc} {d:Int} (h:da_ p≠0):fv_ p d Cl.no (da_ p):=by unfold fv_;rw[if_pos h];exact⟨rfl,rfl⟩
theorem wn_ {p:List Pc} {d:Int} (h:da_ p=0) (e:d<0∨1073741824<d):fv_ p d Cl.no 1:=by unfold fv_;rw[if_neg (by simp[h]),if_pos e];exact⟨rfl,rfl⟩
theorem yb_ {p:List Pc} {d:Int} {m n:Nat} {c:Cl} {q fm:List Fc} {x:Ix} (B:da_ p=0) (E:¬ d<0) (C:¬ 1073741824<d) (hm:min d 65536=(m:Int)) (hk:c.ok) (k:c.atoms=atS p) (h:LoopA (uniq [] p) (atS p) m n q fm x) (A:q.length≤n) (hl:q.length≤m) (v:c.facts=eO_ q):fv_ p d c 0:=by
  unfold fv_;rw[if_neg (by simp[B]),if_neg za_];have e:n=q.length:=Nat.le_antisymm h.le A;subst e;refine .inl ⟨rfl,hk,k,?_⟩;rw[hm,v];exact⟨uA_ h.nd,fun y=>by rw[pL_,← rF_ h hl,pF_],by rw[dH_];simpa using hl⟩
theorem iR_ {p:List Pc} {d:Int} {m:Nat} {e:Int} {M:List Fc} (q:da_ p=0) (x:¬ d<0) (A:¬ 1073741824<d) (hm:min d 65536=(m:Int)) (v:e=if d<65536 then 3 else 2) (nd:M.Nodup) (k:∀ y∈M,Der (uniq [] p) (atS p) y) (hl:m<M.length):fv_ p d Cl.no e:=by
  unfold fv_;rw[if_neg (by simp[q]),if_neg za_];exact .inr ⟨rfl,v,M,nd,fun y h=>pF_.1 (k y h),by rw[hm];simpa using hl⟩
end Go.Proofs.YtpbnmnfdgckaiaaGreatDoor
