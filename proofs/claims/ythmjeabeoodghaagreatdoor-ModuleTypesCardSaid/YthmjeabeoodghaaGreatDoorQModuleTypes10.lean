/-
  Lemmas for the law ModuleTypes (no condition).
-/
import Derived.Test.YthmjeabeoodghaaGreatDoorQModuleTypes9
import Derived.Shelf.SlSortCmp.NoneTotal
import Derived.Test.YthmjeabeoodghaaGreatDoorProg
import Derived.OrdersIn
set_option linter.unusedVariables false
set_option linter.unusedSimpArgs false
set_option linter.unusedSectionVars false
set_option maxHeartbeats 1000000
namespace Go.Proofs.YthmjeabeoodghaaGreatDoor
open Go Go.Sx Go.Proofs Tryz
attribute [local irreducible] Code.wp wpList wpAnyH
open Go.Vs
theorem mW_ (x:Pc) (ro at':Str) (A:List (Ky×Pc)) (C B:Nat) (g pb kb ab ub ob ib rb sb fb:Nat) (ev:Value) (lv:Value) (J:Hp) (hm:ds_ Ky.val Pc.cells 76 10 A pb J) (F:A.length≤1000000000):Tri prog 281 #[str ro,str at',zp_ C 0,zp_ B 0] ((C,.cells #[.int .i64 x.kind,str x.a,str x.b,str x.c,str x.r,str x.s,str x.t,.int .i64 x.lo,.int .i64 x.hi,.int .i64 x.frm] 76 (0,0))::(B,.cells #[zp_ g 0] 224 (0,0))::(g,.cells #[.map (some pb),lv,.map (some kb),ev,.map (some ab),.map (some ub),.map (some ob),.map (some ib),.map (some rb),.map (some sb),.map (some fb)] 233 (0,0))::J) [] (fun _:{H:Hp // ds_ Ky.val Pc.cells 76 10 (A++[((Ky.mk x.kind ro at'),x)]) pb H}=>.tuple #[]) (fun y=>(C,.cells #[.int .i64 x.kind,str x.a,str x.b,str x.c,str x.r,str x.s,str x.t,.int .i64 x.lo,.int .i64 x.hi,.int .i64 x.frm] 76 (0,0))::(B,.cells #[zp_ g 0] 224 (0,0))::(g,.cells #[.map (some pb),lv,.map (some kb),ev,.map (some ab),.map (some ub),.map (some ob),.map (some ib),.map (some rb),.map (some sb),.map (some fb)] 233 (0,0))::y.1) (fun _=>[]):=by
  refine j_ func281 rfl rfl ntmps281 rfl fun T=>?_;refine Zz 6 ?_;refine e_ (u_ eW_ rfl rfl) rfl (y_ zeroValue331 rfl fun G=>o_ 0 sizeOf331 rfl rfl rfl rfl rfl rfl (Zz 2 ?_));refine ak_ ((G,.cells #[.int .i64 x.kind,str ro,str at'] 331 (0,0))::((C,.cells #[.int .i64 x.kind,str x.a,str x.b,str x.c,str x.r,str x.s,str x.t,.int .i64 x.lo,.int .i64 x.hi,.int .i64 x.frm] 76 (0,0))::((B,.cells #[zp_ g 0] 224 (0,0))::((g,.cells #[.map (some pb),lv,.map (some kb),ev,.map (some ab),.map (some ub),.map (some ob),.map (some ib),.map (some rb),.map (some sb),.map (some fb)] 233 (0,0))::[])))) zk ?_;refine D_ 6 [0,1,2,3,4,5] zk zs (Zz 7 ?_);refine p_ 6 rfl zk (G_ F_ L_ V_ rfl rfl rfl rfl rfl rfl fun V=>Zz 2 ?_);refine Q_ zs (p_ 7 rfl zk ?_);have I:=Nat.le_trans (fF_ A (Ky.mk x.kind ro at')) F;refine fA_ (k:=(Ky.mk x.kind ro at')) ip_ hm bQ_ cc_ rfl rfl (c_ (c_ (c_ (c_ C_)))) rfl fun N P Q R M L S m v=>Zz 2 ?_
  refine Q_ (fun _ a b=>⟨Vw.sat.sub (a.perm (i_ (c_ (l_ (l_ (c_ d_)))) (i_ (c_ (l_ (l_ (c_ d_)))) (i_ (c_ (l_ (l_ (c_ d_)))) (c_ (l_ (l_ (c_ d_)))))))),b⟩) (D_ 2 [8,10] zk (fun _ a b=>⟨Vw.sat.sub (a.perm (i_ (c_ (l_ (l_ (c_ d_)))) (i_ (c_ (l_ (l_ (c_ d_)))) (i_ (c_ (l_ (l_ (c_ d_)))) (c_ (l_ (l_ (c_ d_)))))))),b⟩) (Zz 3 ?_));refine p_ 9 rfl zk (aO_ (news:=List.flatMap Pc.cells [x]) vm_ v rfl rfl zp rfl (fx_ zp) (fun u U=>bn_ Pc.cells_one U) zan_ zaa_ rfl fun K O d=>?_);have e:=zsa d;refine Zz 2 ?_;refine Q_ (fun _ a b=>⟨Vw.sat.sub (a.perm (i_ (l_ (c_ (l_ (c_ d_)))) (i_ (l_ (c_ (l_ (c_ d_)))) (i_ (l_ (c_ (l_ (c_ d_)))) (l_ (c_ (l_ (c_ d_)))))))),b⟩) (p_ 11 rfl zk (cU_ (k:=(Ky.mk x.kind ro at')) (dd:=x) m (by rw[fd_];exact e) rfl rfl rfl (fa_ (i_ (l_ d_) (B_ w_ w_))) fun E h=>?_));refine Zz 2 ?_;refine Q_ zs (Zz 2 ?_);exact ck_ results281 ⟨E,h⟩ rfl zp zt
theorem iE_ {G:Prop} (h:G:=by
 have h:lps=lps++aP_ [x]:=by simp[aP_, *]
 exact ck_ results233 ⟨(lv,d,H),m▸e,h▸hl⟩ rfl zp zt):G:=h
theorem iF_ {G:Prop} (h:G:=by
 have h:lps=lps++aP_ [x]:=by simp[aP_, *]
 exact ck_ results233 ⟨(lv,F,H),m▸C,h▸hl⟩ rfl zp zt):G:=h
theorem mF_ {G:Prop} (h:G:=by
 refine Z_ (mW_ x x.r [] v B A g pb kb ab ub ob ib rb sb fb ev lv G hm zaq_) rfl rfl zp zt rfl fun⟨d,e⟩=>?_;dsimp only;simp only[List.cons_append];refine Zz 2 ?_;have m:(v++[((Ky.mk x.kind x.r []),x)])=v++cX_ x:=by simp[cX_, *]
 exact iE_):G:=h
theorem mG_ {G:Prop} (h:G:=by
 refine Zz 2 ?_;refine Q_ zs (D_ 1 [9,10] zk zs (Zz 3 ?_));refine p_ 11 rfl zk (A_ (R_ (l_ d_) (R_ (l_ d_) (R_ (l_ d_) (bg_ (l_ d_))))) (cq_ 3 E dX_ rfl rfl rfl rfl (Zz 2 ?_)));refine Q_ (fun _ a b=>⟨Vw.sat.sub (a.perm (i_ (c_ d_) (c_ d_))),b⟩) (Zz 2 ?_);have m:v=v++cX_ x:=by simp[cX_, *]
 have h:(lps++[x.r])=lps++aP_ [x]:=by simp[aP_, *]
 exact ck_ results233 ⟨(I,G,L),m▸hm,h▸E⟩ rfl (i_ (c_ (c_ (c_ d_))) (B_ (c_ (c_ (c_ bi_))) (c_ (c_ C_)))) zt):G:=h
theorem iG_ {G:Prop} (h:G:=by
 refine Z_ (mW_ x [] x.a v B A g pb kb ab ub ob ib rb sb fb ev lv G hm zaq_) rfl rfl zp zt rfl fun⟨d,e⟩=>?_;dsimp only;simp only[List.cons_append];refine Zz 2 ?_;have m:(v++[((Ky.mk x.kind [] x.a),x)])=v++cX_ x:=by simp[cX_, *]
 exact iE_):G:=h
theorem yq_ (x:Pc) (v:List (Ky×Pc)) (lps:List Str) (g pb kb ab ub ob ib rb sb fb:Nat) (ev:Value) (lv:Value) (G H:Hp) (hm:ds_ Ky.val Pc.cells 76 10 v pb G) (hl:zR 9 1 au_ lv lps H) (W:v.length≤900000000) (X:lps.length≤900000000):Tri prog 233 #[zp_ g 0,Pc.val x] ((g,.cells #[.map (some pb),lv,.map (some kb),ev,.map (some ab),.map (some ub),.map (some ob),.map (some ib),.map (some rb),.map (some sb),.map (some fb)] 233 (0,0))::(G++H)) [] (fun _:{y:Value×Hp×Hp // ds_ Ky.val Pc.cells 76 10 (v++cX_ x) pb y.2.1∧zR 9 1 au_ y.1 (lps++aP_ [x]) y.2.2}=>.tuple #[]) (fun y=>(g,.cells #[.map (some pb),y.1.1,.map (some kb),ev,.map (some ab),.map (some ub),.map (some ob),.map (some ib),.map (some rb),.map (some sb),.map (some fb)] 233 (0,0))::(y.1.2.1++y.1.2.2)) (fun _=>[]):=by
 refine j_ func233 rfl rfl ntmps233 rfl fun V=>?_;refine Zz 2 ?_;refine K_ rfl rfl fun A=>K_ rfl rfl fun B=>Zz 4 ?_
 refine e_ (bm_ rfl rfl) rfl (Zi 13 (fun K=>?_) fun K=>?_)
 ·refine Zi 6 (fun M=>?_) fun M=>?_
  ·refine Zi 5 (fun P=>?_) fun P=>?_
   ·refine Zi 6 (fun R=>?_) fun R=>?_
    ·refine Zi 6 (fun J=>?_) fun J=>?_
     ·refine Zi 7 (fun Q=>?_) fun Q=>?_
      ·refine Zi 5 (fun N=>?_) fun N=>?_
       ·refine Zi 6 (fun S=>?_) fun S=>?_
        ·refine Zi 6 (fun O=>?_) fun O=>?_
         ·refine Zz 6 ?_
          have m:v=v++cX_ x:=by simp[cX_, *]
          have h:lps=lps++aP_ [x]:=by simp[aP_, *]
          exact ck_ results233 ⟨(lv,G,H),m▸hm,h▸hl⟩ rfl zp zt
         refine Zz 4 ?_;refine ak_ ((B,.cells #[.int .i64 x.kind,str x.a,str x.b,str x.c,str x.r,str x.s,str x.t,.int .i64 x.lo,.int .i64 x.hi,.int .i64 x.frm] 76 (0,0))::((A,.cells #[zp_ g 0] 224 (0,0))::[])) zk ?_;refine D_ 6 [0,1,2,3,5,6] zk zs (Zz 7 ?_);refine hj_ 4 7 rfl rfl zk ?_ ?_
         ·refine Zz 3 ?_
          refine Q_ zs (p_ 7 rfl zk (G_ t_ M_ aw_ rfl rfl rfl rfl rfl rfl fun U=>Zz 2 ?_));refine Q_ zs (p_ 8 rfl zk (aO_ (news:=List.flatMap au_ [x.r]) es_ hl rfl rfl zp rfl (bz_ 0 rfl) (fun u T=>bn_ dx_ T) (by simp only[maxLen];first|omega|(simp;omega)) zaq_ rfl fun I L K=>?_));have E:=zsa K;exact mG_
         refine G_ t_ M_ aw_ rfl rfl rfl rfl rfl rfl fun U=>Zz 2 ?_
         refine Q_ zs (p_ 4 rfl zk (Zz 3 ?_));refine Q_ zs (p_ 8 rfl zk (aO_ (news:=List.flatMap au_ [x.r]) es_ hl rfl rfl zp rfl (bz_ 0 rfl) (fun u T=>bn_ dx_ T) (by simp only[maxLen];first|omega|(simp;omega)) zaq_ rfl fun I L M=>?_));have E:=zsa M;exact mG_
        refine Zz 9 ?_;refine Z_ (mW_ x x.r [] v B A g pb kb ab ub ob ib rb sb fb ev lv G hm zaq_) rfl rfl zp zt rfl fun⟨d,e⟩=>?_;dsimp only;simp only[List.cons_append];refine Zz 6 ?_;refine Z_ (mW_ x [] x.s (v++[((Ky.mk x.kind x.r []),x)]) B A g pb kb ab ub ob ib rb sb fb ev lv d e zaq_) rfl rfl zp zt rfl fun⟨F,C⟩=>?_;dsimp only;simp only[List.cons_append];refine Zz 2 ?_;have m:((v++[((Ky.mk x.kind x.r []),x)])++[((Ky.mk x.kind [] x.s),x)])=v++cX_ x:=by simp[cX_, *]
        exact iF_
       refine Zz 8 ?_;exact mF_
      refine Zz 11 ?_;exact mF_
     refine Zz 9 ?_;refine Z_ (mW_ x [] x.a v B A g pb kb ab ub ob ib rb sb fb ev lv G hm zaq_) rfl rfl zp zt rfl fun⟨d,e⟩=>?_;dsimp only;simp only[List.cons_append];refine Zz 8 ?_;refine Z_ (mW_ x x.r x.a (v++[((Ky.mk x.kind [] x.a),x)]) B A g pb kb ab ub ob ib rb sb fb ev lv d e zaq_) rfl rfl zp zt rfl fun⟨F,C⟩=>?_;dsimp only;simp only[List.cons_append];refine Zz 2 ?_;have m:((v++[((Ky.mk x.kind [] x.a),x)])++[((Ky.mk x.kind x.r x.a),x)])=v++cX_ x:=by simp[cX_, *]
     exact iF_
    refine Zz 9 ?_;refine Z_ (mW_ x [] x.a v B A g pb kb ab ub ob ib rb sb fb ev lv G hm zaq_) rfl rfl zp zt rfl fun⟨d,e⟩=>?_;dsimp only;simp only[List.cons_append];refine Zi 8 (fun J=>?_) fun J=>?_
    ·refine Zz 5 ?_
     have m:(v++[((Ky.mk x.kind [] x.a),x)])=v++cX_ x:=by simp[cX_, *]
     exact iE_
    refine Zz 7 ?_;refine Z_ (mW_ x [] x.b (v++[((Ky.mk x.kind [] x.a),x)]) B A g pb kb ab ub ob ib rb sb fb ev lv d e zaq_) rfl rfl zp zt rfl fun⟨F,C⟩=>?_;dsimp only;simp only[List.cons_append];refine Zz 2 ?_;have m:((v++[((Ky.mk x.kind [] x.a),x)])++[((Ky.mk x.kind [] x.b),x)])=v++cX_ x:=by simp[cX_, *]
    exact iF_
   refine Zz 8 ?_;exact iG_
  refine Zz 11 ?_;exact iG_
 refine Zz 11 ?_;exact iG_
structure NewE where
  g:Nat
  pb:Nat
  kb:Nat
  ab:Nat
  ub:Nat
  ob:Nat
  ib:Nat
  rb:Nat
  sb:Nat
  fb:Nat
  lv:Value
  hm:Hp
  hl:Hp
def NewE.ok (ps:List Pc) (y:NewE):Prop:=ds_ Ky.val Pc.cells 76 10 (bc_ ps) y.pb y.hm∧zR 9 1 au_ y.lv (aP_ ps) y.hl
def NewE.own (y:NewE):Hp:=(y.g,.cells #[.map (some y.pb),y.lv,.map (some y.kb),.nilFunc,.map (some y.ab),.map (some y.ub),.map (some y.ob),.map (some y.ib),.map (some y.rb),.map (some y.sb),.map (some y.fb)] 233 (0,0))::(y.kb,.map #[] 0)::(y.ab,.map #[] 0)::(y.ub,.map #[] 0)::(y.ob,.map #[] 0)::(y.ib,.map #[] 0)::(y.rb,.map #[] 0)::(y.sb,.map #[] 0)::(y.fb,.map #[] 0)::(y.hm++y.hl)
theorem gl_ {p:List Pc} {i:Nat} {x:Pc} (h:p[i]? = some x):uniq [] (List.take (i+1) p)=if x.zf∈uniq [] (p.take i) then uniq [] (p.take i) else uniq [] (p.take i)++[x.zf]:=by
  have d:∀ (l:List Pc) (r:List Pc),uniq l (r++[x])=if x.zf∈uniq l r then uniq l r else uniq l r++[x.zf]:=by
    intro l r
    induction r generalizing l with
    | nil=>rfl
    | cons y r ih=>exact ih _
  rw[List.take_add_one,h,Option.toList_some];exact d _ _
theorem xp_ (l:List Pc) (x:Pc):bc_ (l++[x])=bc_ l++cX_ x:=by simp[bc_]
theorem ru_ (l:List Pc) (x:Pc):aP_ (l++[x])=aP_ l++aP_ [x]:=by simp[aP_]
theorem zn_ (x:Pc):(cX_ x).length≤2:=by unfold cX_;(repeat' split)<;>simp
theorem oB_:∀ l:List Pc,(bc_ l).length≤2*l.length
  | []=>by simp[bc_]
  | x::l=>by
    have:=oB_ l;have d:=zn_ x;simp only[bc_,List.flatMap_cons,List.length_append,List.length_cons]at this ⊢;omega
theorem nc_ (l:List Pc):(aP_ l).length≤l.length:=by
  simp only[aP_,List.length_map];exact List.length_filter_le _ _
theorem tf_ (p:List Pc) (L:Ao) (N:Nat) (hp:p.length≤100000000):Tri prog 177 #[.slice L p.length N] [] [X_ L (p.flatMap Pc.cells)] (fun y:{y:NewE // y.ok (uniq [] p)}=>zp_ y.1.g 0) (fun y=>y.1.own) (fun _=>[]):=by
 refine j_ func177 rfl rfl ntmps177 rfl fun v_1=>?_;refine Zz 7 ?_;refine bu_ rfl fun B=>bu_ rfl fun G=>bu_ rfl fun J=>bu_ rfl fun F=>bu_ rfl fun H=>bu_ rfl fun I=>bu_ rfl fun K=>bu_ rfl fun M=>bu_ rfl fun E=>e_ (u_ Bk_ rfl rfl) rfl ?_
 refine K_ rfl rfl fun x=>Zz 5 ?_
 refine bu_ rfl fun O=>Zz 12 ?_
 refine O_ (ι:={y:Nat×Array MapEntry×Nat×Hp×Value×Hp // y.1≤List.length p∧SetE Pc.val y.2.1 (uniq [] (p.take y.1))∧ds_ Ky.val Pc.cells 76 10 (bc_ (uniq [] (p.take y.1))) B y.2.2.2.1∧zR 9 1 au_ y.2.2.2.2.1 (aP_ (uniq [] (p.take y.1))) y.2.2.2.2.2}) (fun y=>[(3,zp_ x 0),(4,.map (some O)),(19,.slice L p.length N),(20,.int .i64 (List.length p:Int)),(21,.int .i64 (y.1.1:Int))]) (fun y=>((x,.cells #[.map (some B),y.1.2.2.2.2.1,.map (some G),.nilFunc,.map (some J),.map (some F),.map (some H),.map (some I),.map (some K),.map (some M),.map (some E)] 233 (0,0))::((O,.map y.1.2.1 y.1.2.2.1)::((G,.map #[] 0)::((J,.map #[] 0)::((F,.map #[] 0)::((H,.map #[] 0)::((I,.map #[] 0)::((K,.map #[] 0)::((M,.map #[] 0)::((E,.map #[] 0)::(y.1.2.2.2.1++y.1.2.2.2.2.2)))))))))))) (fun y=>[X_ L (p.flatMap Pc.cells)]) (fun y=>p.length - y.1.1) ⟨((0:Nat),#[],0,[(B,.map #[] 0)],(.slice none 0 0),[]),by simp,by exact SetE.nil,by exact ds_.nil _ _,(az_.nil 9 1)⟩ zl zp zh ?_;rintro ⟨⟨i,es,cs,Hm,C,P⟩,hi,hE,hm,e⟩;dsimp only at hi hE hm e ⊢;have hbu:=kO_ (p.take i) [];have hbt:=List.length_take_le i p;simp only[List.length_nil]at hbu;have hbp:(bc_ (uniq [] (p.take i))).length≤900000000:=by have:=oB_ (uniq [] (p.take i));omega
 have hbl:(aP_ (uniq [] (p.take i))).length≤900000000:=by have:=nc_ (uniq [] (p.take i));omega
 refine Zi 2 (fun U=>?_) fun U=>?_
 ·refine Zz 13 ?_
  have R:List.take i p=p:=List.take_of_length_le zaa_;rw[R]at hm e;exact aa_ results177 ⟨NewE.mk x B G J F H I K M E C Hm P,hm,e⟩ rfl (i_ d_ (i_ (c_ d_) (i_ (c_ d_) (i_ (c_ d_) (i_ (c_ d_) (i_ (c_ d_) (i_ (c_ d_) (i_ (c_ d_) (i_ (c_ d_) (B_ (c_ w_) C_)))))))))) zt
 have m:i<p.length:=by omega
 obtain⟨Q,d⟩:∃ R,p[i]? = some R:=⟨_,List.getElem?_eq_getElem m⟩;refine Zz 12 ?_;refine y_ V_ rfl fun b_12=>o_ 0 L_ rfl rfl rfl rfl rfl rfl (Zz 5 ?_)
 refine o_ 0 P_ rfl rfl rfl rfl rfl rfl (Zz 6 ?_);refine E_ (ec_ (k:=Pc.zf Q) (q:=(uniq [] (p.take i))) zT_ jS_ bR_ rfl rfl hE (fun v h _=>(h.own _ (List.mem_of_getElem? (i:=2) rfl)).1)) rfl fun r_1 A=>e_ (aR_ rfl) rfl (Zz 2 ?_)
 cases r_1
 ·replace A:=zdf A
  refine Zz 5 ?_;refine kX_ (k:=Pc.zf Q) (q:=(uniq [] (p.take i))) 2 zT_ (.inr rfl) jS_ rfl rfl rfl rfl hE fun W c_1 X=>Zz 5 ?_
  refine f_ (yq_ Q.zf (bc_ (uniq [] (p.take i))) (aP_ (uniq [] (p.take i))) x B G J F H I K M E .nilFunc C Hm P hm e  hbp hbl) rfl (i_ (c_ d_) (B_ (c_ (c_ (c_ (c_ (c_ (c_ (c_ (c_ (c_ (c_ w_)))))))))) (c_ (c_ (c_ (c_ (c_ (c_ (c_ (c_ (c_ C_))))))))))) zt rfl fun⟨⟨S,V,Z⟩,T,Y⟩=>?_;dsimp only;simp only[List.cons_append,List.append_assoc];refine Zz 2 ?_;refine A_ (R_ d_ (R_ (l_ (l_ d_)) (R_ (l_ (l_ d_)) (R_ (l_ (l_ d_)) (R_ (l_ (l_ d_)) (R_ (l_ (l_ d_)) (R_ (l_ (l_ d_)) (R_ (l_ (l_ d_)) (R_ (l_ (l_ d_)) (R_ (l_ (l_ d_)) (bg_ (l_ bi_)))))))))))) (Zz 5 ?_);exact x_ ⟨(i+1,W,c_1,V,S,Z),m,by rw[gl_ d];exact X,by rw[gl_ d,if_neg zai_,xp_];exact T,(by rw[gl_ d,if_neg zai_,ru_];exact Y)⟩ zab_ zl zp zh
 replace A:=zdt A;refine Zz 8 ?_;exact x_ ⟨(i+1,es,cs,Hm,C,P),m,by rw[gl_ d,if_pos zai_];exact hE,by rw[gl_ d,if_pos zai_];exact hm,(by rw[gl_ d,if_pos zai_];exact e)⟩ zab_ zl (i_ (c_ d_) (i_ (c_ d_) (i_ (c_ d_) (i_ (c_ d_) (i_ (c_ d_) (i_ (c_ d_) (i_ (c_ d_) (i_ (c_ d_) (i_ (c_ d_) (i_ (c_ d_) (B_ (c_ w_) C_))))))))))) zh
theorem nU_ {P:Program} {N:Nf} {fr:Fr} {H:Hp} {Γ:List Fct} {ty:TypeId} {K:Type} [DecidableEq K] {h:K→Value} {t A y:TypeId} {x:Operand} {d c:Nat} {es:Array MapEntry} {q:List K} (hE:SetE h es q) (e:∀ w,(underlying t).run P w=.ok (.map A y) w) (m:Fr.ev fr x=some (.map (some d))) (hm:∀ v,v.sat H→ad_ Γ v→v.w.heap[d]? = some (.map es c)) :
    Yld P N fr H Γ (.call ⟨.builtin .len,#[x],#[t]⟩) ty (.int .i64 (q.length:Int)):=by
  rw[← hE.size];exact yy_ e m hm
def andF (a b:Fct):Fct where
  p v:=a.p v∧b.p v
  mono:=fun v v' h ⟨h1,h2⟩=>⟨a.mono v v' h h1,b.mono v v' h h2⟩
def StA (b9 kb fb:Nat) (nw fm:List Fc) (H:Hp):Prop:=∃ sv es c es' c' q Hq,H=(b9,.cells #[sv] 71 (0,0))::(kb,.map es c)::([(fb,.map es' c')]++Hq)∧az_ 129 6 sv nw.length (nw.flatMap Fc.cells) Hq∧SetE Fc.val es nw∧SetE Fc.val es' q∧∀ f,f∈q↔f∈fm
theorem mE_ {G:Prop} (h:G:=by
 have d:bE_ m f nw=nw:=by unfold bE_;rw[if_neg (by rintro ⟨N,E⟩;first|omega|exact absurd zai_ E)]
 exact ck_ results178 ⟨_,sv,es,c,A,M,q,K,rfl,by rw[d];exact Q,by rw[d];exact hE,T,O⟩ rfl zp zt):G:=h
theorem Cl_ (f:Fc) (nw fm:List Fc) (m:Nat) (hm:m≤65536) (g U V L kb fb:Nat) (c0 Z c3 c4 c5 c6 c7 c8 c9 R sv:Value) (es A:Array MapEntry) (c M:Nat) (q:List Fc) (K:Hp) (Q:az_ 129 6 sv nw.length (nw.flatMap Fc.cells) K) (hE:SetE Fc.val es nw) (T:SetE Fc.val A q) (O:∀ f,f∈q↔f∈fm):Tri prog 178 #[Fc.val f,zp_ U 0,zp_ V 0,zp_ L 0] ((L,.cells #[sv] 71 (0,0))::(kb,.map es c)::([(fb,.map A M)]++K)) [bl_ U (.cells #[zp_ g 0] 224 (0,0)),bl_ V (.cells #[.int .i64 (m:Int)] 3 (0,0)),bl_ g (.cells #[c0,Z,.map (some kb),c3,c4,c5,c6,c7,c8,c9,R] 233 (0,0))] (fun _:{H:Hp // StA L kb fb (bE_ m f nw) fm H}=>.tuple #[]) (fun y=>y.1) (fun _=>[]):=by
 refine j_ func178 rfl rfl ntmps178 rfl fun W=>?_;refine Zz 2 ?_;refine K_ rfl rfl fun P=>Zz 4 ?_
 refine D_ 8 [0,1,2,3,4,5,6,7] zk zs (Zz 4 ?_);refine T_ rfl (nU_ hE br_ rfl (fun v h _=>(h.own _ (List.mem_of_getElem? (i:=2) rfl)).1)) rfl (Zi 1 (fun x=>?_) fun x=>?_)
 ·refine Zz 2 ?_
  refine D_ 0 [8,9,10,11,12,13,14,15] zk zs (Zz 14 ?_);exact mE_
 refine Zz 2 ?_;refine D_ 0 [8,9,10,11,12,13,14,15] zk zs (Zz 5 ?_);refine iS_ rfl rfl rfl (ec_ (k:=f) le_ br_ bR_ rfl rfl hE (fun v h _=>(h.own _ (List.mem_of_getElem? (i:=2) rfl)).1)) rfl fun S e=>hZ_ rfl rfl rfl (aR_ rfl) rfl (Zz 4 ?_)
 cases S
 ·replace e:=zdf e
  refine Zz 2 ?_;refine ak_ ((P,.cells #[.int .i64 f.kind,str f.a,str f.b,str f.r,.int .i64 f.lo,.int .i64 f.hi] 129 (0,0))::((L,.cells #[sv] 71 (0,0))::[])) zk ?_;refine D_ 1 [0,1,2,3,4] zk zs (Zz 6 ?_);refine p_ 5 rfl zk (kX_ (k:=f) 2 le_ (.inr rfl) br_ rfl rfl rfl rfl hE fun I J B=>Zz 8 ?_);refine G_ cp_ at_ aV_ rfl rfl rfl rfl rfl rfl fun Y=>?_;refine aO_ (news:=List.flatMap Fc.cells [f]) vn_ Q rfl rfl (c_ (c_ (c_ (c_ bi_)))) rfl (bz_ 0 rfl) (fun u X=>bn_ Fc.cells_one X) zan_ zaa_ rfl fun F G x=>?_;have C:=zsa x;refine A_ (R_ (l_ d_) (R_ (l_ d_) (R_ (l_ d_) (bg_ (l_ d_))))) (cq_ 2 C sizeOf71 rfl rfl rfl rfl (Zz 2 ?_));have d:bE_ m f nw=nw++[f]:=by unfold bE_;rw[if_pos ⟨by omega,by assumption⟩]
  exact ck_ results178 ⟨_,F,I,J,A,M,q,G,rfl,by rw[d];exact C,by rw[d];rw[if_neg zai_]at B;exact B,T,O⟩ rfl (i_ (c_ (c_ d_)) (i_ (c_ (c_ d_)) (B_ (c_ (c_ bi_)) (c_ C_)))) zt
 replace e:=zdt e;refine Zz 3 ?_;exact mE_
def EA (m:Nat) (hm:m≤65536) (B:EngB) (b7 b8 b9 kb fb:Nat):Emt prog 129 where
 stp:=bE_ m
 kof:=idk
 St:=StA b9 kb fb
 fn:=178
 caps:=[zp_ b7 0,zp_ b8 0,zp_ b9 0]
 ef:=andF (bl_ b7 (.cells #[zp_ B.g 0] 224 (0,0))) (andF (bl_ b8 (.cells #[.int .i64 (m:Int)] 3 (0,0))) (bl_ B.g (.cells #[.map (some B.pb),.slice B.lad B.lps.length B.lcap,.map (some kb),.func (.func 178) #[] #[zp_ b7 0,zp_ b8 0,zp_ b9 0],.map (some B.ab),.map (some B.ub),.map (some B.ob),.map (some B.ib),.map (some B.rb),.map (some B.sb),.map (some fb)] 233 (0,0))))
 kb:=kb
 fb:=fb
 grows:=fY_ m
 emit:=fun f nw fm H hS=>by
   obtain⟨sv,es,c,es2,c2,q,Hq,rfl,h1,h2,h3,h4⟩:=hS;exact sy_ [] (Cl_ f nw fm m hm B.g b7 b8 b9 kb fb _ _ _ _ _ _ _ _ _ _ sv es es2 c c2 q Hq h1 h2 h3 h4) (fun v _ h=>⟨h.1.1,h.1.2.1,h.1.2.2,trivial⟩)
 known:=fun hS=>by
   obtain⟨sv,es,c,es2,c2,q,Hq,rfl,h1,h2,h3,h4⟩:=hS;exact⟨es,c,by simp,h2⟩
 firm:=fun hS=>by
   obtain⟨sv,es,c,es2,c2,q,Hq,rfl,h1,h2,h3,h4⟩:=hS;exact⟨es2,c2,q,by simp,h3,h4⟩
 setf:=fun {nw fm H} f hS=>by
   obtain⟨sv,es,c,es2,c2,q,Hq,rfl,h1,h2,h3,h4⟩:=hS;refine⟨es2,c2,q,(b9,.cells #[sv] 71 (0,0))::(kb,.map es c)::Hq,bg_ zp,h3,h4,fun es' c' h5=>⟨(b9,.cells #[sv] 71 (0,0))::(kb,.map es c)::([(fb,.map es' c')]++Hq),⟨sv,es,c,es',c',_,Hq,rfl,h1,h2,h5,?_⟩,bg_ zp⟩⟩;intro z
   split
   · rename_i hz;rw[h4,List.mem_cons];constructor
     · exact .inr
     · rintro (rfl|h)
       · exact (h4 _).1 hz
       · exact h
   · rw[List.mem_append,List.mem_singleton,h4,List.mem_cons,or_comm]
def fvC (v:Value):List Value:=[v]
theorem jH_ (v:Value):(fvC v).length=1:=rfl
theorem wM_ {P:Program} {N:Nf} {fr:Fr} {H:Hp} {Γ:List Fct} {ty:TypeId} {t e:TypeId} {n sz:Nat} {parts:List (Nat×Operand)} {vs:List (Nat×Value)} {z cs:List Value} (A:∀ w,(zeroValue t).run P w=.ok (.agg z.toArray) w) (m:∀ w,(underlying t).run P w=.ok (.array n e) w) (v:∀ w,(sizeOf e).run P w=.ok sz w) (x:Fr.evp fr parts=some vs) (h:ng_ (fun i=>some (i*sz,sz)) z vs=some cs) :
    Yld P N fr H Γ (.build t parts.toArray) ty (.agg cs.toArray) :=
  pT_ (fun a y w=>by
    have:=y.evp x;rw[List.map_toArray,this];have d:=je_ _ _ _ _ h;simp only[Instr.build,Sem.run_bind,A,Result.andThen_ok,m,v,Value.cells,d,Sem.run_pure])
def rlV (g:Nat) (k:Nat):List Value:=if k=1 then [(Value.func (.func 236) #[zp_ g 0] #[]),(Value.func (.func 237) #[zp_ g 0] #[]),(Value.func (.func 238) #[zp_ g 0] #[]),(Value.func (.func 239) #[zp_ g 0] #[]),(Value.func (.func 240) #[zp_ g 0] #[]),(Value.func (.func 241) #[zp_ g 0] #[])] else if k=2 then [(Value.func (.func 242) #[zp_ g 0] #[]),(Value.func (.func 243) #[zp_ g 0] #[]),(Value.func (.func 244) #[zp_ g 0] #[]),(Value.func (.func 245) #[zp_ g 0] #[])] else [(Value.func (.func 246) #[zp_ g 0] #[]),(Value.func (.func 247) #[zp_ g 0] #[])]
theorem Bw_ (g:Nat):Tri prog 181 #[zp_ g 0] [] [] (fun y:Nat×Nat×Nat=>.agg #[.slice none 0 0,.slice (some ⟨y.1,0,none⟩) 6 6,.slice (some ⟨y.2.1,0,none⟩) 4 4,.slice (some ⟨y.2.2,0,none⟩) 2 2]) (fun _=>[]) (fun y=>[X_ (some ⟨y.1,0,none⟩) (List.flatMap fvC (rlV g 1)),X_ (some ⟨y.2.1,0,none⟩) (List.flatMap fvC (rlV g 2)),X_ (some ⟨y.2.2,0,none⟩) (List.flatMap fvC (rlV g 3))]):=by
  refine j_ func181 rfl rfl ntmps181 rfl fun C=>?_;refine Zz 2 ?_;refine y_ zeroValue235 rfl fun A=>Zz 5 ?_
  refine e_ (bm_ (us:=[zp_ g 0]) (vs:=[]) rfl rfl) rfl (Zz 1 ?_);refine e_ (bm_ (us:=[zp_ g 0]) (vs:=[]) rfl rfl) rfl (Zz 1 ?_);refine e_ (bm_ (us:=[zp_ g 0]) (vs:=[]) rfl rfl) rfl (Zz 1 ?_);refine e_ (bm_ (us:=[zp_ g 0]) (vs:=[]) rfl rfl) rfl (Zz 1 ?_);refine e_ (bm_ (us:=[zp_ g 0]) (vs:=[]) rfl rfl) rfl (Zz 1 ?_);refine e_ (bm_ (us:=[zp_ g 0]) (vs:=[]) rfl rfl) rfl (G_ ek_ eX_ zeroValue228 rfl rfl rfl rfl rfl rfl fun e=>?_);refine aq_ (List.flatMap fvC [(Value.func (.func 236) #[zp_ g 0] #[]),(Value.func (.func 237) #[zp_ g 0] #[]),(Value.func (.func 238) #[zp_ g 0] #[]),(Value.func (.func 239) #[zp_ g 0] #[]),(Value.func (.func 240) #[zp_ g 0] #[]),(Value.func (.func 241) #[zp_ g 0] #[])]) d_ rfl ?_;refine Zz 1 ?_;refine e_ (bm_ (us:=[zp_ g 0]) (vs:=[]) rfl rfl) rfl (Zz 1 ?_);refine e_ (bm_ (us:=[zp_ g 0]) (vs:=[]) rfl rfl) rfl (Zz 1 ?_);refine e_ (bm_ (us:=[zp_ g 0]) (vs:=[]) rfl rfl) rfl (Zz 1 ?_);refine e_ (bm_ (us:=[zp_ g 0]) (vs:=[]) rfl rfl) rfl (G_ ek_ eX_ zeroValue228 rfl rfl rfl rfl rfl rfl fun h=>?_);refine aq_ (List.flatMap fvC [(Value.func (.func 242) #[zp_ g 0] #[]),(Value.func (.func 243) #[zp_ g 0] #[]),(Value.func (.func 244) #[zp_ g 0] #[]),(Value.func (.func 245) #[zp_ g 0] #[])]) d_ rfl ?_;refine Zz 1 ?_;refine e_ (bm_ (us:=[zp_ g 0]) (vs:=[]) rfl rfl) rfl (Zz 1 ?_);refine e_ (bm_ (us:=[zp_ g 0]) (vs:=[]) rfl rfl) rfl (G_ ek_ eX_ zeroValue228 rfl rfl rfl rfl rfl rfl fun d=>?_);refine aq_ (List.flatMap fvC [(Value.func (.func 246) #[zp_ g 0] #[]),(Value.func (.func 247) #[zp_ g 0] #[])]) d_ rfl ?_;refine e_ (wM_ zeroValue235 xb_ sizeOf234 rfl rfl) rfl (o_ 0 sizeOf235 rfl rfl rfl rfl rfl rfl (Zz 3 ?_));exact cS_ (e,h,d) (fun B v m x=>dz_ (us:=[.slice none 0 0,.slice (some ⟨e,0,none⟩) (List.length [(Value.func (.func 236) #[zp_ g 0] #[]),(Value.func (.func 237) #[zp_ g 0] #[]),(Value.func (.func 238) #[zp_ g 0] #[]),(Value.func (.func 239) #[zp_ g 0] #[]),(Value.func (.func 240) #[zp_ g 0] #[]),(Value.func (.func 241) #[zp_ g 0] #[])]) 6,.slice (some ⟨h,0,none⟩) (List.length [(Value.func (.func 242) #[zp_ g 0] #[]),(Value.func (.func 243) #[zp_ g 0] #[]),(Value.func (.func 244) #[zp_ g 0] #[]),(Value.func (.func 245) #[zp_ g 0] #[])]) 4,.slice (some ⟨d,0,none⟩) (List.length [(Value.func (.func 246) #[zp_ g 0] #[]),(Value.func (.func 247) #[zp_ g 0] #[])]) 2]) 0 results181 isAgg235 sizeOf235 rfl rfl rfl B v m x) g_ zf
theorem fW_ (B:EngB) (E:Emt prog 129) (U:EngA) (Z:List (Ky×Pc)) (x:Ix) (f:Fc) (nw fm:List Fc) (Hs:Hp) (hS:E.St nw fm Hs) (L G V M Hr m:Hp) (hI:IxO 9 129 B x ⟨L,G,V,M,Hr,m⟩) {n:FuncId} {args:Array Value} {e:Hp→Prop} (hT:∀ A:EngA,A.p=U.p→Tri prog n args Hs [gF B E,pF B Z A,aF B x A,uF B x A,oF B x A,iF B x A,rF B x A,sF B x A,E.ef] (fun _:{H':Hp // e H'}=>.tuple #[]) (fun y=>y.1) (fun _=>[])) :
    Tri prog n args ((L++(G++(V++(M++(Hr++m)))))++Hs) [gF B E,pF B Z U,E.ef] (fun _:{H':Hp // e H'}=>.tuple #[]) (fun y=>(L++(G++(V++(M++(Hr++m)))))++y.1) (fun _=>[]):=by
  obtain⟨ha,X,W,hi,Y,hm⟩:=hI;dsimp only at ha X W hi Y hm;obtain⟨Q,S⟩:=ha.lent (P:=prog) no_;obtain⟨J,R⟩:=X.lent (P:=prog) no_;obtain⟨N,O⟩:=W.lent (P:=prog) dZ_;obtain⟨T,F⟩:=hi.lent (P:=prog) dZ_;obtain⟨I,C⟩:=Y.lent (P:=prog) dZ_;obtain⟨H,K⟩:=hm.lent (P:=prog) dZ_;refine sy_ _ (hT ⟨U.p,Q,J,N,T,I,H⟩ rfl) fun v hB h=>⟨h.1,h.2.1,S v fun p d=>hB p zaT_,R v fun p d=>hB p zaT_,O v fun p d=>hB p zaT_,F v fun p d=>hB p zaT_,C v fun p d=>hB p zaT_,K v fun p d=>hB p zaT_,h.2.2.1,trivial⟩
theorem rl10_c (B:EngB) (E:Emt prog 129) (K:EngA) (d:List (Ky×Pc)) (x:Ix) (f:Fc) (nw fm:List Fc) (Hs:Hp) (hS:E.St nw fm Hs) (v C G F Hr m:Hp) (M:IxO 9 129 B x ⟨v,C,G,F,Hr,m⟩) (H:∀ k,(lat d k).length≤1000000000) (I:∀ k,(lat x.above k).length≤1000000000∧(lat x.under k).length≤1000000000) (J:∀ k,(lat x.frm k).length≤1000000000∧(lat x.into k).length≤1000000000∧(lat x.ranges k).length≤1000000000∧(lat x.firms k).length≤1000000000) (N:f.kind=3→-1099511627776≤f.lo∧f.lo≤f.hi∧f.hi≤1099511627776) (O:f.kind=3→∀ y∈lat d (Ky.mk 9 f.r []),-1099511627776≤y.lo∧y.lo≤y.hi∧y.hi≤1099511627776) (L:f.kind=1):Tri prog 236 #[zp_ B.g 0,f.val] ((v++(C++(G++(F++(Hr++m)))))++Hs) [gF B E,pF B d K,E.ef] (fun _:{H':Hp // E.St (rl E.stp E.kof d x f 0 (nw,fm)).1 (rl E.stp E.kof d x f 0 (nw,fm)).2 H'}=>.tuple #[]) (fun y=>(v++(C++(G++(F++(Hr++m)))))++y.1) (fun _=>[]):=by
  refine fW_ B E K d x f nw fm Hs hS v C G F Hr m M fun A P=>?_;have h:=yd_ B E A d x f nw fm Hs hS H I J;have e:rl E.stp E.kof d x f 0 (nw,fm)=_:=if_pos L;rw[e];exact h
theorem rl11_c (B:EngB) (E:Emt prog 129) (K:EngA) (d:List (Ky×Pc)) (x:Ix) (f:Fc) (nw fm:List Fc) (Hs:Hp) (hS:E.St nw fm Hs) (v C G F Hr m:Hp) (M:IxO 9 129 B x ⟨v,C,G,F,Hr,m⟩) (H:∀ k,(lat d k).length≤1000000000) (I:∀ k,(lat x.above k).length≤1000000000∧(lat x.under k).length≤1000000000) (J:∀ k,(lat x.frm k).length≤1000000000∧(lat x.into k).length≤1000000000∧(lat x.ranges k).length≤1000000000∧(lat x.firms k).length≤1000000000) (N:f.kind=3→-1099511627776≤f.lo∧f.lo≤f.hi∧f.hi≤1099511627776) (O:f.kind=3→∀ y∈lat d (Ky.mk 9 f.r []),-1099511627776≤y.lo∧y.lo≤y.hi∧y.hi≤1099511627776) (L:f.kind=1):Tri prog 237 #[zp_ B.g 0,f.val] ((v++(C++(G++(F++(Hr++m)))))++Hs) [gF B E,pF B d K,E.ef] (fun _:{H':Hp // E.St (rl E.stp E.kof d x f 1 (nw,fm)).1 (rl E.stp E.kof d x f 1 (nw,fm)).2 H'}=>.tuple #[]) (fun y=>(v++(C++(G++(F++(Hr++m)))))++y.1) (fun _=>[]):=by
  refine fW_ B E K d x f nw fm Hs hS v C G F Hr m M fun A P=>?_;have h:=both_c B E A d x f nw fm Hs hS H I J;have e:rl E.stp E.kof d x f 1 (nw,fm)=_:=if_pos L;rw[e];exact h
theorem rl12_c (B:EngB) (E:Emt prog 129) (K:EngA) (d:List (Ky×Pc)) (x:Ix) (f:Fc) (nw fm:List Fc) (Hs:Hp) (hS:E.St nw fm Hs) (v C G F Hr m:Hp) (M:IxO 9 129 B x ⟨v,C,G,F,Hr,m⟩) (H:∀ k,(lat d k).length≤1000000000) (I:∀ k,(lat x.above k).length≤1000000000∧(lat x.under k).length≤1000000000) (J:∀ k,(lat x.frm k).length≤1000000000∧(lat x.into k).length≤1000000000∧(lat x.ranges k).length≤1000000000∧(lat x.firms k).length≤1000000000) (N:f.kind=3→-1099511627776≤f.lo∧f.lo≤f.hi∧f.hi≤1099511627776) (O:f.kind=3→∀ y∈lat d (Ky.mk 9 f.r []),-1099511627776≤y.lo∧y.lo≤y.hi∧y.hi≤1099511627776) (L:f.kind=1):Tri prog 238 #[zp_ B.g 0,f.val] ((v++(C++(G++(F++(Hr++m)))))++Hs) [gF B E,pF B d K,E.ef] (fun _:{H':Hp // E.St (rl E.stp E.kof d x f 2 (nw,fm)).1 (rl E.stp E.kof d x f 2 (nw,fm)).2 H'}=>.tuple #[]) (fun y=>(v++(C++(G++(F++(Hr++m)))))++y.1) (fun _=>[]):=by
  refine fW_ B E K d x f nw fm Hs hS v C G F Hr m M fun A P=>?_;have h:=some_c B E A d x f nw fm Hs hS H I J;have e:rl E.stp E.kof d x f 2 (nw,fm)=_:=if_pos L;rw[e];exact h
theorem rl13_c (B:EngB) (E:Emt prog 129) (K:EngA) (d:List (Ky×Pc)) (x:Ix) (f:Fc) (nw fm:List Fc) (Hs:Hp) (hS:E.St nw fm Hs) (v C G F Hr m:Hp) (M:IxO 9 129 B x ⟨v,C,G,F,Hr,m⟩) (H:∀ k,(lat d k).length≤1000000000) (I:∀ k,(lat x.above k).length≤1000000000∧(lat x.under k).length≤1000000000) (J:∀ k,(lat x.frm k).length≤1000000000∧(lat x.into k).length≤1000000000∧(lat x.ranges k).length≤1000000000∧(lat x.firms k).length≤1000000000) (N:f.kind=3→-1099511627776≤f.lo∧f.lo≤f.hi∧f.hi≤1099511627776) (O:f.kind=3→∀ y∈lat d (Ky.mk 9 f.r []),-1099511627776≤y.lo∧y.lo≤y.hi∧y.hi≤1099511627776) (L:f.kind=1):Tri prog 239 #[zp_ B.g 0,f.val] ((v++(C++(G++(F++(Hr++m)))))++Hs) [gF B E,pF B d K,E.ef] (fun _:{H':Hp // E.St (rl E.stp E.kof d x f 3 (nw,fm)).1 (rl E.stp E.kof d x f 3 (nw,fm)).2 H'}=>.tuple #[]) (fun y=>(v++(C++(G++(F++(Hr++m)))))++y.1) (fun _=>[]):=by
  refine fW_ B E K d x f nw fm Hs hS v C G F Hr m M fun A P=>?_;have h:=vl_ B E A d x f nw fm Hs hS H I J;have e:rl E.stp E.kof d x f 3 (nw,fm)=_:=if_pos L;rw[e];exact h
theorem rl14_c (B:EngB) (E:Emt prog 129) (K:EngA) (d:List (Ky×Pc)) (x:Ix) (f:Fc) (nw fm:List Fc) (Hs:Hp) (hS:E.St nw fm Hs) (v C G F Hr m:Hp) (M:IxO 9 129 B x ⟨v,C,G,F,Hr,m⟩) (H:∀ k,(lat d k).length≤1000000000) (I:∀ k,(lat x.above k).length≤1000000000∧(lat x.under k).length≤1000000000) (J:∀ k,(lat x.frm k).length≤1000000000∧(lat x.into k).length≤1000000000∧(lat x.ranges k).length≤1000000000∧(lat x.firms k).length≤1000000000) (N:f.kind=3→-1099511627776≤f.lo∧f.lo≤f.hi∧f.hi≤1099511627776) (O:f.kind=3→∀ y∈lat d (Ky.mk 9 f.r []),-1099511627776≤y.lo∧y.lo≤y.hi∧y.hi≤1099511627776) (L:f.kind=1):Tri prog 240 #[zp_ B.g 0,f.val] ((v++(C++(G++(F++(Hr++m)))))++Hs) [gF B E,pF B d K,E.ef] (fun _:{H':Hp // E.St (rl E.stp E.kof d x f 4 (nw,fm)).1 (rl E.stp E.kof d x f 4 (nw,fm)).2 H'}=>.tuple #[]) (fun y=>(v++(C++(G++(F++(Hr++m)))))++y.1) (fun _=>[]):=by
  refine fW_ B E K d x f nw fm Hs hS v C G F Hr m M fun A P=>?_;have h:=tL_ B E A d x f nw fm Hs hS H I J;have e:rl E.stp E.kof d x f 4 (nw,fm)=_:=if_pos L;rw[e];exact h
theorem rl15_c (B:EngB) (E:Emt prog 129) (K:EngA) (d:List (Ky×Pc)) (x:Ix) (f:Fc) (nw fm:List Fc) (Hs:Hp) (hS:E.St nw fm Hs) (v C G F Hr m:Hp) (M:IxO 9 129 B x ⟨v,C,G,F,Hr,m⟩) (H:∀ k,(lat d k).length≤1000000000) (I:∀ k,(lat x.above k).length≤1000000000∧(lat x.under k).length≤1000000000) (J:∀ k,(lat x.frm k).length≤1000000000∧(lat x.into k).length≤1000000000∧(lat x.ranges k).length≤1000000000∧(lat x.firms k).length≤1000000000) (N:f.kind=3→-1099511627776≤f.lo∧f.lo≤f.hi∧f.hi≤1099511627776) (O:f.kind=3→∀ y∈lat d (Ky.mk 9 f.r []),-1099511627776≤y.lo∧y.lo≤y.hi∧y.hi≤1099511627776) (L:f.kind=1):Tri prog 241 #[zp_ B.g 0,f.val] ((v++(C++(G++(F++(Hr++m)))))++Hs) [gF B E,pF B d K,E.ef] (fun _:{H':Hp // E.St (rl E.stp E.kof d x f 5 (nw,fm)).1 (rl E.stp E.kof d x f 5 (nw,fm)).2 H'}=>.tuple #[]) (fun y=>(v++(C++(G++(F++(Hr++m)))))++y.1) (fun _=>[]):=by
  refine fW_ B E K d x f nw fm Hs hS v C G F Hr m M fun A P=>?_;have h:=Ba_ B E A d x f nw fm Hs hS H I J;have e:rl E.stp E.kof d x f 5 (nw,fm)=_:=if_pos L;rw[e];exact h
theorem rl20_c (B:EngB) (E:Emt prog 129) (L:EngA) (d:List (Ky×Pc)) (x:Ix) (f:Fc) (nw fm:List Fc) (Hs:Hp) (hS:E.St nw fm Hs) (v C G F Hr m:Hp) (M:IxO 9 129 B x ⟨v,C,G,F,Hr,m⟩) (H:∀ k,(lat d k).length≤1000000000) (I:∀ k,(lat x.above k).length≤1000000000∧(lat x.under k).length≤1000000000) (J:∀ k,(lat x.frm k).length≤1000000000∧(lat x.into k).length≤1000000000∧(lat x.ranges k).length≤1000000000∧(lat x.firms k).length≤1000000000) (N:f.kind=3→-1099511627776≤f.lo∧f.lo≤f.hi∧f.hi≤1099511627776) (O:f.kind=3→∀ y∈lat d (Ky.mk 9 f.r []),-1099511627776≤y.lo∧y.lo≤y.hi∧y.hi≤1099511627776) (K:f.kind=2):Tri prog 242 #[zp_ B.g 0,f.val] ((v++(C++(G++(F++(Hr++m)))))++Hs) [gF B E,pF B d L,E.ef] (fun _:{H':Hp // E.St (rl E.stp E.kof d x f 0 (nw,fm)).1 (rl E.stp E.kof d x f 0 (nw,fm)).2 H'}=>.tuple #[]) (fun y=>(v++(C++(G++(F++(Hr++m)))))++y.1) (fun _=>[]):=by
  refine fW_ B E L d x f nw fm Hs hS v C G F Hr m M fun A P=>?_;have h:=xT_ B E A d x f nw fm Hs hS H I J;have e:rl E.stp E.kof d x f 0 (nw,fm)=_:=(if_neg zbB_).trans (if_pos K);rw[e];exact h
theorem rl21_c (B:EngB) (E:Emt prog 129) (L:EngA) (d:List (Ky×Pc)) (x:Ix) (f:Fc) (nw fm:List Fc) (Hs:Hp) (hS:E.St nw fm Hs) (v C G F Hr m:Hp) (M:IxO 9 129 B x ⟨v,C,G,F,Hr,m⟩) (H:∀ k,(lat d k).length≤1000000000) (I:∀ k,(lat x.above k).length≤1000000000∧(lat x.under k).length≤1000000000) (J:∀ k,(lat x.frm k).length≤1000000000∧(lat x.into k).length≤1000000000∧(lat x.ranges k).length≤1000000000∧(lat x.firms k).length≤1000000000) (N:f.kind=3→-1099511627776≤f.lo∧f.lo≤f.hi∧f.hi≤1099511627776) (O:f.kind=3→∀ y∈lat d (Ky.mk 9 f.r []),-1099511627776≤y.lo∧y.lo≤y.hi∧y.hi≤1099511627776) (K:f.kind=2):Tri prog 243 #[zp_ B.g 0,f.val] ((v++(C++(G++(F++(Hr++m)))))++Hs) [gF B E,pF B d L,E.ef] (fun _:{H':Hp // E.St (rl E.stp E.kof d x f 1 (nw,fm)).1 (rl E.stp E.kof d x f 1 (nw,fm)).2 H'}=>.tuple #[]) (fun y=>(v++(C++(G++(F++(Hr++m)))))++y.1) (fun _=>[]):=by
  refine fW_ B E L d x f nw fm Hs hS v C G F Hr m M fun A P=>?_;have h:=Cy_ B E A d x f nw fm Hs hS H I J;have e:rl E.stp E.kof d x f 1 (nw,fm)=_:=(if_neg zbB_).trans (if_pos K);rw[e];exact h
theorem rl22_c (B:EngB) (E:Emt prog 129) (L:EngA) (d:List (Ky×Pc)) (x:Ix) (f:Fc) (nw fm:List Fc) (Hs:Hp) (hS:E.St nw fm Hs) (v C G F Hr m:Hp) (M:IxO 9 129 B x ⟨v,C,G,F,Hr,m⟩) (H:∀ k,(lat d k).length≤1000000000) (I:∀ k,(lat x.above k).length≤1000000000∧(lat x.under k).length≤1000000000) (J:∀ k,(lat x.frm k).length≤1000000000∧(lat x.into k).length≤1000000000∧(lat x.ranges k).length≤1000000000∧(lat x.firms k).length≤1000000000) (N:f.kind=3→-1099511627776≤f.lo∧f.lo≤f.hi∧f.hi≤1099511627776) (O:f.kind=3→∀ y∈lat d (Ky.mk 9 f.r []),-1099511627776≤y.lo∧y.lo≤y.hi∧y.hi≤1099511627776) (K:f.kind=2):Tri prog 244 #[zp_ B.g 0,f.val] ((v++(C++(G++(F++(Hr++m)))))++Hs) [gF B E,pF B d L,E.ef] (fun _:{H':Hp // E.St (rl E.stp E.kof d x f 2 (nw,fm)).1 (rl E.stp E.kof d x f 2 (nw,fm)).2 H'}=>.tuple #[]) (fun y=>(v++(C++(G++(F++(Hr++m)))))++y.1) (fun _=>[]):=by
  refine fW_ B E L d x f nw fm Hs hS v C G F Hr m M fun A P=>?_;have h:=vk_ B E A d x f nw fm Hs hS H I J;have e:rl E.stp E.kof d x f 2 (nw,fm)=_:=(if_neg zbB_).trans (if_pos K);rw[e];exact h
theorem rl23_c (B:EngB) (E:Emt prog 129) (L:EngA) (d:List (Ky×Pc)) (x:Ix) (f:Fc) (nw fm:List Fc) (Hs:Hp) (hS:E.St nw fm Hs) (v C G F Hr m:Hp) (M:IxO 9 129 B x ⟨v,C,G,F,Hr,m⟩) (H:∀ k,(lat d k).length≤1000000000) (I:∀ k,(lat x.above k).length≤1000000000∧(lat x.under k).length≤1000000000) (J:∀ k,(lat x.frm k).length≤1000000000∧(lat x.into k).length≤1000000000∧(lat x.ranges k).length≤1000000000∧(lat x.firms k).length≤1000000000) (N:f.kind=3→-1099511627776≤f.lo∧f.lo≤f.hi∧f.hi≤1099511627776) (O:f.kind=3→∀ y∈lat d (Ky.mk 9 f.r []),-1099511627776≤y.lo∧y.lo≤y.hi∧y.hi≤1099511627776) (K:f.kind=2):Tri prog 245 #[zp_ B.g 0,f.val] ((v++(C++(G++(F++(Hr++m)))))++Hs) [gF B E,pF B d L,E.ef] (fun _:{H':Hp // E.St (rl E.stp E.kof d x f 3 (nw,fm)).1 (rl E.stp E.kof d x f 3 (nw,fm)).2 H'}=>.tuple #[]) (fun y=>(v++(C++(G++(F++(Hr++m)))))++y.1) (fun _=>[]):=by
  refine fW_ B E L d x f nw fm Hs hS v C G F Hr m M fun A P=>?_;have h:=tK_ B E A d x f nw fm Hs hS H I J;have e:rl E.stp E.kof d x f 3 (nw,fm)=_:=(if_neg zbB_).trans (if_pos K);rw[e];exact h
theorem rl30_c (B:EngB) (E:Emt prog 129) (L:EngA) (d:List (Ky×Pc)) (x:Ix) (f:Fc) (nw fm:List Fc) (Hs:Hp) (hS:E.St nw fm Hs) (v C G F Hr m:Hp) (M:IxO 9 129 B x ⟨v,C,G,F,Hr,m⟩) (H:∀ k,(lat d k).length≤1000000000) (I:∀ k,(lat x.above k).length≤1000000000∧(lat x.under k).length≤1000000000) (J:∀ k,(lat x.frm k).length≤1000000000∧(lat x.into k).length≤1000000000∧(lat x.ranges k).length≤1000000000∧(lat x.firms k).length≤1000000000) (N:f.kind=3→-1099511627776≤f.lo∧f.lo≤f.hi∧f.hi≤1099511627776) (O:f.kind=3→∀ y∈lat d (Ky.mk 9 f.r []),-1099511627776≤y.lo∧y.lo≤y.hi∧y.hi≤1099511627776) (K:f.kind=3):Tri prog 246 #[zp_ B.g 0,f.val] ((v++(C++(G++(F++(Hr++m)))))++Hs) [gF B E,pF B d L,E.ef] (fun _:{H':Hp // E.St (rl E.stp E.kof d x f 0 (nw,fm)).1 (rl E.stp E.kof d x f 0 (nw,fm)).2 H'}=>.tuple #[]) (fun y=>(v++(C++(G++(F++(Hr++m)))))++y.1) (fun _=>[]):=by
  refine fW_ B E L d x f nw fm Hs hS v C G F Hr m M fun A P=>?_;have h:=meet_c B E A d x f nw fm Hs hS H I J;have e:rl E.stp E.kof d x f 0 (nw,fm)=_:=(if_neg zbB_).trans (if_neg zbB_);rw[e];exact h
theorem rl31_c (B:EngB) (E:Emt prog 129) (L:EngA) (d:List (Ky×Pc)) (x:Ix) (f:Fc) (nw fm:List Fc) (Hs:Hp) (hS:E.St nw fm Hs) (v C H F Hr m:Hp) (O:IxO 9 129 B x ⟨v,C,H,F,Hr,m⟩) (I:∀ k,(lat d k).length≤1000000000) (J:∀ k,(lat x.above k).length≤1000000000∧(lat x.under k).length≤1000000000) (K:∀ k,(lat x.frm k).length≤1000000000∧(lat x.into k).length≤1000000000∧(lat x.ranges k).length≤1000000000∧(lat x.firms k).length≤1000000000) (M:f.kind=3→-1099511627776≤f.lo∧f.lo≤f.hi∧f.hi≤1099511627776) (N:f.kind=3→∀ y∈lat d (Ky.mk 9 f.r []),-1099511627776≤y.lo∧y.lo≤y.hi∧y.hi≤1099511627776) (G:f.kind=3):Tri prog 247 #[zp_ B.g 0,f.val] ((v++(C++(H++(F++(Hr++m)))))++Hs) [gF B E,pF B d L,E.ef] (fun _:{H':Hp // E.St (rl E.stp E.kof d x f 1 (nw,fm)).1 (rl E.stp E.kof d x f 1 (nw,fm)).2 H'}=>.tuple #[]) (fun y=>(v++(C++(H++(F++(Hr++m)))))++y.1) (fun _=>[]):=by
  refine fW_ B E L d x f nw fm Hs hS v C H F Hr m O fun A P=>?_;have h:=out_c B E A d x f nw fm Hs hS I J K (M G) (N G);have e:rl E.stp E.kof d x f 1 (nw,fm)=_:=(if_neg (by rw[G];decide)).trans (if_neg (by rw[G];decide));rw[e];exact h
section
variable {N:Nf} {v0:Vw} {H0:Hp} {fr:Fr}
theorem oL_ {k:Act→World→Prop} {F:Hp}:∀ (B:Hp) {H:Hp} {Γ:List Fct},H.Perm (B++F)→Ok N v0 H0 k fr F (B.reverse.map (fun p=>bl_ p.1 p.2)++Γ)→Ok N v0 H0 k fr H Γ
  | [],H,Γ,hH,h=>A_ hH h
  | (b,o)::B,H,Γ,hH,h=>by
    refine en_ (bl_ b o) (F:=B++F) hH (fun _ d e _=>⟨d,e⟩) ?_;refine oL_ B (.refl _) ?_;simpa using h
end
end Go.Proofs.YthmjeabeoodghaaGreatDoor
namespace Go.Proofs.YthmjeabeoodghaaGreatDoor
open Go Go.Sx Go.Proofs Tryz
attribute [local irreducible] Code.wp wpList wpAnyH
open Go.Vs
theorem ya_ {P:Program} (w:World) (d:Nat) (t e:TypeId) (a:Ao) (l c:Nat) (h:P.underlying t=some (.slice e)):(Op.equalIn (d+1) t (.slice a l c) (.slice none 0 0)).run P w=.ok a.isNone w:=by
  cases a<;>simp[Op.equalIn,run_underlying h]
theorem wo_ {P:Program} (w:World) (t e:TypeId) (a:Ao) (l c:Nat) (h:P.underlying t=some (.slice e)):(Op.equal t (.slice a l c) (.slice none 0 0)).run P w=.ok a.isNone w:=ya_ w 9999 t e a l c h
theorem si_ {P:Program} {N:Nf} {fr:Fr} {H:Hp} {Γ:List Fct} {ty t C e:TypeId} {x y:Operand} {ad:Ao} {m c:Nat} (A:P.underlying t=some (.slice e)) (B:Fr.ev fr x=some (.slice ad m c)) (E:Fr.ev fr y=some (.slice none 0 0)):Yld P N fr H Γ (.binOp .eql t x y C) ty (.bool (decide (ad=none))) :=
  fun a v d _ _ _ _ _=>by
    have h:decide (ad=none)=ad.isNone:=by cases ad<;>simp
    simp[execOp,d.ev B,d.ev E,eqGuard,binOp,wo_ v.w t e ad m c A,h]
theorem zh_ {v:Vw} {cs:List Value} (h:bY_ v none cs):cs=[]:=by
 rcases h with h|⟨b,off,e,T,fz,d,_⟩
 ·exact h
 cases d
theorem yX_ (b:Nat) (e:TypeId) (sz:Nat):az_ e sz (.slice (some ⟨b,0,none⟩) 0 0) 0 [] [(b,.cells #[] e (0,0))]:=⟨by simp,.inr ⟨b,0,#[],rfl,rfl,Nat.le_refl _,by simp[maxLen],by simp,by simp⟩⟩
theorem AA_ (l:List Str) (ad:Ao) (cap:Nat) (E:l.length≤cap) (hl:l.length≤1000000000):Tri prog 234 #[.slice ad l.length cap] [] [X_ ad (l.flatMap au_)] (fun y:{y:Value×Hp // zR 9 1 au_ y.1 l y.2}=>y.1.1) (fun y=>y.1.2) (fun _=>[]):=by
 refine j_ func234 rfl rfl ntmps234 rfl fun F=>?_;refine Zz 9 ?_;refine E_ (si_ iO_ rfl rfl) rfl fun C d=>Zz 2 ?_
 cases C
 ·replace d:=zdf d
  refine Zz 5 ?_;refine xz_ t_ M_ rfl fun B=>A_ d_ (Zz 1 ?_)
  refine mZ_ (news:=List.flatMap au_ l) es_ (yX_ B 9 1) rfl rfl (fun q=>absurd q d) E aj_ (by rw[dU_ au_ 1 aY_]) zf (fun u G=>bn_ dx_ G) zan_ zaa_ rfl fun e m d=>?_;refine A_ List.perm_append_comm ?_;have x:az_ 9 1 e (List.length (([]:List Str)++l)) (List.flatMap au_ (([]:List Str)++l)) m:=by rw[List.length_append,List.flatMap_append];exact d
  refine Zz 4 ?_;exact aa_ results234 ⟨(e,m),by simpa using x⟩ rfl aj_ zt
 replace d:=zdt d;refine Zz 7 ?_;refine ok_get (p:=List.flatMap au_ l=[]) (fun v _ h=>by have q:=h.1;subst d;exact zh_ q) fun H=>?_;have A:l=[]:=List.eq_nil_of_length_eq_zero (by have:=congrArg List.length H;rwa [dU_ au_ 1 aY_,Nat.mul_one]at this);exact aa_ results234 ⟨(.slice none 0 0,[]),by subst A;exact az_.nil _ _⟩ rfl g_ zt
def atS (p:List Pc):List Str:=Lib.compact ((dC_ p++[[42],[33]]).mergeSort fun x y=>decide (x≤y))
theorem wD_ (p:List Pc):(atS p).length≤3*p.length+2:=by
  have:=jg_ ((dC_ p++[[42],[33]]).mergeSort fun x y=>decide (x≤y));have d:=eO_ p;rw[List.length_mergeSort,List.length_append]at this;simp only[List.length_cons,List.length_nil]at this;unfold atS;omega
theorem fI_ (p:List Pc) (x:Str):x∈atS p↔x∈dC_ p∨x=[42]∨x=[33]:=by
  unfold atS;rw[ni_,List.mem_mergeSort,List.mem_append];simp
theorem atS_c (p:List Pc) (A:Ao) (m:Nat) (W:p.length≤100000000):Tri prog 179 #[.slice A p.length m] [] [X_ A (p.flatMap Pc.cells)] (fun y:{y:Ao×Nat // (atS p).length≤y.2∧y.2≤maxLen∧(y.1=none→y.2=0)}=>.slice y.1.1 (atS p).length y.1.2) (fun _=>[]) (fun y=>[X_ y.1.1 ((atS p).flatMap au_)]):=by
  refine j_ func179 rfl rfl ntmps179 rfl fun Q=>?_;refine Zz 8 ?_;refine f_ (wC_ p A m zaa_) rfl g_ zf rfl fun⟨⟨aad,acap⟩,L,S⟩=>?_;dsimp only;refine f_ (AA_ (dC_ p) aad acap L (by have:=eO_ p;omega)) rfl g_ zf rfl fun⟨⟨V,U⟩,M⟩=>?_;dsimp only;refine A_ dY_ (G_ t_ M_ aw_ rfl rfl rfl rfl rfl rfl fun T=>?_);refine aO_ (news:=List.flatMap au_ [[42],[33]]) es_ M rfl rfl C_ rfl (bz_ 0 rfl) (fun u R=>bn_ dx_ R) (by simp only[maxLen];(have:=eO_ p;(try simp only[List.length_append,List.length_cons,List.length_nil]);omega)) zbi_ rfl fun E P F=>?_;refine A_ List.perm_append_comm ?_;have J:=zsa F;refine Zz 6 ?_;refine f_ (rm_ J zbi_) rfl C_ zt rfl fun⟨B,I⟩=>?_;dsimp only;have v:az_ 9 1 E (List.length ((((dC_ p)++[[42],[33]])).mergeSort fun x y=>decide (x≤y))) (List.flatMap au_ ((((dC_ p)++[[42],[33]])).mergeSort fun x y=>decide (x≤y))) B:=by rw[List.length_mergeSort];exact I
  refine Zz 2 ?_;refine A_ (bg_ bi_) (Zz 3 ?_);refine f_ (pp_ v (by rw[List.length_mergeSort];(have:=eO_ p;(try simp only[List.length_append,List.length_cons,List.length_nil]);omega))) rfl C_ zt rfl fun⟨⟨N,O⟩,G⟩=>?_;dsimp only;refine Zz 4 ?_;refine bL_ G w_ fun K H C e h d=>?_;exact aa_ results179 ⟨(K,H),e,h,d⟩ (ea_ rfl C) g_ zf
end Go.Proofs.YthmjeabeoodghaaGreatDoor
namespace Go.Proofs
open Go.Shelf
def Tryz.sortFc_ren:Go.Shelf.Ren:=⟨fun|6=>183|15=>145|14=>248|28=>212|29=>213|20=>283|21=>284|22=>285|23=>286|24=>287|25=>288|26=>289|27=>290|46=>318|47=>255|48=>256|49=>319|50=>320|57=>337|n=>n,fun|22=>71|24=>129|25=>238|3=>3|39=>193|0=>0|53=>269|55=>271|4=>4|46=>263|45=>262|50=>211|5=>5|9=>9|66=>301|70=>198|76=>345|77=>346|n=>n,fun|n=>n⟩
theorem Tryz.sortFc:Go.Proofs.SlLaysF0.n6 Tryz.prog Tryz.sortFc_ren:={
  mixed:=by kernel_rfl
  f6:=⟨Tryz.f183.name,by decide,Tryz.func183.trans (congrArg some zac_)⟩
  f14:=⟨Tryz.f248.name,by decide,Tryz.func248.trans (congrArg some zac_)⟩
  f15:=Tryz.func145.trans (congrArg some zac_)
  f20:=⟨Tryz.f283.name,by decide,Tryz.func283.trans (congrArg some zac_)⟩
  f21:=⟨Tryz.f284.name,by decide,Tryz.func284.trans (congrArg some zac_)⟩
  f22:=⟨Tryz.f285.name,by decide,Tryz.func285.trans (congrArg some zac_)⟩
  f23:=⟨Tryz.f286.name,by decide,Tryz.func286.trans (congrArg some zac_)⟩
  f24:=⟨Tryz.f287.name,by decide,Tryz.func287.trans (congrArg some zac_)⟩
  f25:=⟨Tryz.f288.name,by decide,Tryz.func288.trans (congrArg some zac_)⟩
  f26:=⟨Tryz.f289.name,by decide,Tryz.func289.trans (congrArg some zac_)⟩
  f27:=⟨Tryz.f290.name,by decide,Tryz.func290.trans (congrArg some zac_)⟩
  f28:=Tryz.func212.trans (congrArg some zac_)
  f29:=Tryz.func213.trans (congrArg some zac_)
  f46:=⟨Tryz.f318.name,by decide,Tryz.func318.trans (congrArg some zac_)⟩
  f47:=Tryz.func255.trans (congrArg some zac_)
  f48:=Tryz.func256.trans (congrArg some zac_)
  f49:=⟨Tryz.f319.name,by decide,Tryz.func319.trans (congrArg some zac_)⟩
  f50:=⟨Tryz.f320.name,by decide,Tryz.func320.trans (congrArg some zac_)⟩
  f57:=⟨Tryz.f337.name,by decide,Tryz.func337.trans (congrArg some zac_)⟩
  t0:=Tryz.underlying0
  a0:=Tryz.isAgg0
  z0:=Tryz.sizeOf0
  v0:=Tryz.zeroValue0
  t3:=Tryz.underlying3
  a3:=Tryz.isAgg3
  z3:=Tryz.sizeOf3
  v3:=Tryz.zeroValue3
  t4:=Tryz.underlying4
  a4:=Tryz.isAgg4
  z4:=Tryz.sizeOf4
  v4:=Tryz.zeroValue4
  t5:=Tryz.underlying5
  a5:=Tryz.isAgg5
  z5:=Tryz.sizeOf5
  v5:=Tryz.zeroValue5
  t9:=Tryz.underlying9
  a9:=Tryz.isAgg9
  z9:=Tryz.sizeOf9
  v9:=Tryz.zeroValue9
  t22:=Tryz.underlying71
  a22:=Tryz.isAgg71
  z22:=Tryz.sizeOf71
  v22:=Tryz.zeroValue71
  t25:=Tryz.underlying238
  a25:=Tryz.isAgg238
  z25:=Tryz.sizeOf238
  v25:=Tryz.zeroValue238
  t39:=Tryz.underlying193
  a39:=Tryz.isAgg193
  z39:=Tryz.sizeOf193
  v39:=Tryz.zeroValue193
  t45:=Tryz.underlying262
  a45:=Tryz.isAgg262
  z45:=Tryz.sizeOf262
  v45:=Tryz.zeroValue262
  t46:=Tryz.underlying263
  a46:=Tryz.isAgg263
  z46:=Tryz.sizeOf263
  v46:=Tryz.zeroValue263
  t50:=Tryz.underlying211
  a50:=Tryz.isAgg211
  z50:=Tryz.sizeOf211
  v50:=Tryz.zeroValue211
  t53:=Tryz.underlying269
  a53:=Tryz.isAgg269
  z53:=Tryz.sizeOf269
  v53:=Tryz.zeroValue269
  t55:=Tryz.underlying271
  a55:=Tryz.isAgg271
  z55:=Tryz.sizeOf271
  v55:=Tryz.zeroValue271
  t66:=Tryz.underlying301
  a66:=Tryz.isAgg301
  z66:=Tryz.sizeOf301
  v66:=Tryz.zeroValue301
  t70:=Tryz.underlying198
  a70:=Tryz.isAgg198
  z70:=Tryz.sizeOf198
  v70:=Tryz.zeroValue198
  t76:=Tryz.underlying345
  a76:=Tryz.isAgg345
  z76:=Tryz.sizeOf345
  v76:=Tryz.zeroValue345
  t77:=Tryz.underlying346
  a77:=Tryz.isAgg346
  z77:=Tryz.sizeOf346
  v77:=Tryz.zeroValue346 }
end Go.Proofs
namespace Go.Proofs
open Go.Shelf
def Tryz.sortTr_ren:Go.Shelf.Ren:=⟨fun|6=>159|15=>145|14=>222|28=>212|29=>213|20=>267|21=>268|22=>269|23=>270|24=>271|25=>272|26=>273|27=>274|46=>310|47=>255|48=>256|49=>311|50=>312|57=>328|n=>n,fun|22=>154|24=>156|25=>201|3=>3|39=>193|0=>0|53=>269|55=>271|4=>4|46=>263|45=>262|50=>211|5=>5|9=>9|66=>301|70=>198|76=>345|77=>346|n=>n,fun|n=>n⟩
theorem Tryz.sortTr:Go.Proofs.SlLaysF0.n6 Tryz.prog Tryz.sortTr_ren:={
  mixed:=by kernel_rfl
  f6:=⟨Tryz.f159.name,by decide,Tryz.func159.trans (congrArg some zac_)⟩
  f14:=⟨Tryz.f222.name,by decide,Tryz.func222.trans (congrArg some zac_)⟩
  f15:=Tryz.func145.trans (congrArg some zac_)
  f20:=⟨Tryz.f267.name,by decide,Tryz.func267.trans (congrArg some zac_)⟩
  f21:=⟨Tryz.f268.name,by decide,Tryz.func268.trans (congrArg some zac_)⟩
  f22:=⟨Tryz.f269.name,by decide,Tryz.func269.trans (congrArg some zac_)⟩
  f23:=⟨Tryz.f270.name,by decide,Tryz.func270.trans (congrArg some zac_)⟩
  f24:=⟨Tryz.f271.name,by decide,Tryz.func271.trans (congrArg some zac_)⟩
  f25:=⟨Tryz.f272.name,by decide,Tryz.func272.trans (congrArg some zac_)⟩
  f26:=⟨Tryz.f273.name,by decide,Tryz.func273.trans (congrArg some zac_)⟩
  f27:=⟨Tryz.f274.name,by decide,Tryz.func274.trans (congrArg some zac_)⟩
  f28:=Tryz.func212.trans (congrArg some zac_)
  f29:=Tryz.func213.trans (congrArg some zac_)
  f46:=⟨Tryz.f310.name,by decide,Tryz.func310.trans (congrArg some zac_)⟩
  f47:=Tryz.func255.trans (congrArg some zac_)
  f48:=Tryz.func256.trans (congrArg some zac_)
  f49:=⟨Tryz.f311.name,by decide,Tryz.func311.trans (congrArg some zac_)⟩
  f50:=⟨Tryz.f312.name,by decide,Tryz.func312.trans (congrArg some zac_)⟩
  f57:=⟨Tryz.f328.name,by decide,Tryz.func328.trans (congrArg some zac_)⟩
  t0:=Tryz.underlying0
  a0:=Tryz.isAgg0
  z0:=Tryz.sizeOf0
  v0:=Tryz.zeroValue0
  t3:=Tryz.underlying3
  a3:=Tryz.isAgg3
  z3:=Tryz.sizeOf3
  v3:=Tryz.zeroValue3
  t4:=Tryz.underlying4
  a4:=Tryz.isAgg4
  z4:=Tryz.sizeOf4
  v4:=Tryz.zeroValue4
  t5:=Tryz.underlying5
  a5:=Tryz.isAgg5
  z5:=Tryz.sizeOf5
  v5:=Tryz.zeroValue5
  t9:=Tryz.underlying9
  a9:=Tryz.isAgg9
  z9:=Tryz.sizeOf9
  v9:=Tryz.zeroValue9
  t22:=Tryz.underlying154
  a22:=Tryz.isAgg154
  z22:=Tryz.sizeOf154
  v22:=Tryz.zeroValue154
  t25:=Tryz.underlying201
  a25:=Tryz.isAgg201
  z25:=Tryz.sizeOf201
  v25:=Tryz.zeroValue201
  t39:=Tryz.underlying193
  a39:=Tryz.isAgg193
  z39:=Tryz.sizeOf193
  v39:=Tryz.zeroValue193
  t45:=Tryz.underlying262
  a45:=Tryz.isAgg262
  z45:=Tryz.sizeOf262
  v45:=Tryz.zeroValue262
  t46:=Tryz.underlying263
  a46:=Tryz.isAgg263
  z46:=Tryz.sizeOf263
  v46:=Tryz.zeroValue263
  t50:=Tryz.underlying211
  a50:=Tryz.isAgg211
  z50:=Tryz.sizeOf211
  v50:=Tryz.zeroValue211
  t53:=Tryz.underlying269
  a53:=Tryz.isAgg269
  z53:=Tryz.sizeOf269
  v53:=Tryz.zeroValue269
  t55:=Tryz.underlying271
  a55:=Tryz.isAgg271
  z55:=Tryz.sizeOf271
  v55:=Tryz.zeroValue271
  t66:=Tryz.underlying301
  a66:=Tryz.isAgg301
  z66:=Tryz.sizeOf301
  v66:=Tryz.zeroValue301
  t70:=Tryz.underlying198
  a70:=Tryz.isAgg198
  z70:=Tryz.sizeOf198
  v70:=Tryz.zeroValue198
  t76:=Tryz.underlying345
  a76:=Tryz.isAgg345
  z76:=Tryz.sizeOf345
  v76:=Tryz.zeroValue345
  t77:=Tryz.underlying346
  a77:=Tryz.isAgg346
  z77:=Tryz.sizeOf346
  v77:=Tryz.zeroValue346 }
end Go.Proofs
namespace Go.Vs
open Go Go.Sx
def pD_ {α:Type} (l:List α) (i:Nat) (Q:Nat→α→Prop):Prop:=∀ j,j<i→∀ a,l[j]? = some a→Q j a
theorem pD_.zero {α:Type} {l:List α} {Q:Nat→α→Prop}:pD_ l 0 Q:=fun j d=>by omega
theorem pD_.step {α:Type} {l:List α} {i:Nat} {Q:Nat→α→Prop} {a:α} (h:pD_ l i Q) (m:l[i]? = some a) (v:Q i a):pD_ l (i+1) Q:=fun j x b d=>by
 by_cases e:j=i
 ·subst e;rw[m]at d;cases d;exact v
 exact h j zaa_ b d
theorem pD_.done {α:Type} {l:List α} {i:Nat} {Q:Nat→α→Prop} (h:pD_ l i Q) (hi:¬ (i:Int)<(l.length:Int)):∀ j a,l[j]? = some a→Q j a:=fun j a d =>
  h j zcd_ a d
theorem pD_.all {α:Type} {l:List α} {i:Nat} {Q:α→Prop} (h:pD_ l i fun _ a=>Q a) (hi:¬ (i:Int)<(l.length:Int)):∀ a∈l,Q a:=fun a e=>by
  obtain⟨j,d⟩:=List.getElem?_of_mem e;exact h.done hi j a d
def jj_ (b:Bool):List Value:=[.bool b]
theorem qZ_ (b:Bool):(jj_ b).length=1:=rfl
end Go.Vs
namespace Go.Sx
open Go
section
variable {K:Type} [DecidableEq K] {kv:K→Value}
structure KeyE (kv:K→Value) (es:Array MapEntry) (q:List K):Prop where
  keys:es.toList.map (·.key)=q.map kv
  nd:q.Nodup
theorem SetE.ke {es:Array MapEntry} {q:List K} (h:SetE kv es q):KeyE kv es q:=⟨h.keys,h.nd⟩
theorem KeyE.ofKey {es:Array MapEntry} {q:List K} (hE:KeyE kv es q) {e:MapEntry} (d:e∈es.toList):∃ k∈q,e.key=kv k:=by
  have:e.key∈es.toList.map (·.key):=List.mem_map_of_mem d;rw[hE.keys]at this;obtain⟨k,m,h⟩:=List.mem_map.1 this;exact⟨k,m,h.symm⟩
theorem KeyE.entry {es:Array MapEntry} {q:List K} (hE:KeyE kv es q) (hi:∀ x y,kv x=kv y→x=y) {x e:MapEntry} (F:x∈es.toList) (E:e∈es.toList) (h:x.key=e.key):x=e:=by
 obtain⟨i,v,m⟩:=List.getElem_of_mem F;obtain⟨j,A,d⟩:=List.getElem_of_mem E
 have B:(es.toList.map (·.key)).Nodup:=by
   rw[hE.keys];unfold List.Nodup;rw[List.pairwise_map];exact List.Pairwise.imp (fun {a b} hab e=>hab (hi _ _ e)) hE.nd
 have C:i=j:=by
   rcases Nat.lt_trichotomy i j with g|g|g
   · exact ((List.pairwise_iff_getElem.1 B i j (by simpa using v) zaS_ g) (by simp only[List.getElem_map,m,d,h])).elim
   · exact g
   · exact ((List.pairwise_iff_getElem.1 B j i zaS_ (by simpa using v) g) (by simp only[List.getElem_map,m,d,h])).elim
 subst C;rw[← m,← d]
theorem ItS.stepK {es:Array MapEntry} {q:List K} {c:Nat} {m:Array Nat} {done:List K} {e:MapEntry} (hi:∀ x y,kv x=kv y→x=y) (hE:KeyE kv es q) (hB:Born es c) (h:ItS kv es m done) (M:e∈(leftOf es m).toList) :
    ∃ k,k∈q∧k ∉ done∧e.key=kv k∧e∈es.toList∧ItS kv es (m.push e.born) (done++[k]):=by
  unfold leftOf at M;rw[Array.toList_filter,List.mem_filter]at M;obtain⟨E,O⟩:=M;obtain⟨k,P,v⟩:=hE.ofKey E
  have H:k ∉ done:=fun hm=>by
    have:=(h.mem e E).2 ⟨k,hm,v⟩;rw[this]at O;simp at O
  have same:∀ x∈es.toList,x.born=e.born→x=e:=fun x I J=>by
    have N:=hB.nd;obtain⟨i,F,C⟩:=List.getElem_of_mem I;obtain⟨j,G,B⟩:=List.getElem_of_mem E
    have L:i=j:=by
      rcases Nat.lt_trichotomy i j with g|g|g
      · exact ((List.pairwise_iff_getElem.1 N i j zaJ_ zbN_ g) (by simp only[List.getElem_map,C,B,J])).elim
      · exact g
      · exact ((List.pairwise_iff_getElem.1 N j i zbN_ zaJ_ g) (by simp only[List.getElem_map,C,B,J])).elim
    subst L;rw[← C,← B]
  refine⟨k,P,H,v,E,⟨?_,fun x I=>?_,fun y d=>?_⟩⟩
  · rw[List.nodup_append];exact⟨h.nd,by simp,fun a Q b J e=>by simp at J;subst J;subst e;exact H Q⟩
  · rw[Array.contains_push,Bool.or_eq_true,h.mem x I,beq_iff_eq]
    constructor
    · rintro (⟨y,d,A⟩|R)
      · exact⟨y,by simp[d],A⟩
      · have:=same x I R
        exact⟨k,by simp,this▸v⟩
    · rintro ⟨y,d,A⟩
      rcases List.mem_append.1 d with d|d
      · exact .inl ⟨y,d,A⟩
      · rw[List.mem_singleton]at d
        subst d;exact .inr (congrArg MapEntry.born (hE.entry hi I E (A.trans v.symm)))
  · rcases List.mem_append.1 d with d|d
    · exact h.sub y d
    · rw[List.mem_singleton]at d
      subst d;exact⟨e,E,v⟩
theorem ItS.endK {es:Array MapEntry} {q:List K} {d:Array Nat} {done:List K} (hi:∀ x y,kv x=kv y→x=y) (hE:KeyE kv es q) (h:ItS kv es d done) (H:(leftOf es d).size=0):done.Perm q:=by
 refine (List.perm_ext_iff_of_nodup h.nd hE.nd).2 fun k=>⟨fun C=>?_,fun C=>?_⟩
 ·obtain⟨e,B,v⟩:=h.sub k C
  obtain⟨G,A,m⟩:=hE.ofKey B;exact hi _ _ (v.symm.trans m)▸A
 have:kv k∈es.toList.map (·.key):=by rw[hE.keys];exact List.mem_map_of_mem C
 obtain⟨e,B,v⟩:=List.mem_map.1 this
 have E:d.contains e.born=true:=by
   cases hc:d.contains e.born
   · exfalso
     have:e∈(leftOf es d).toList:=by unfold leftOf;rw[Array.toList_filter,List.mem_filter];exact⟨B,by simp only[hc];rfl⟩
     have F:=List.length_pos_of_mem this;simp only[Array.length_toList]at F;omega
   · rfl
 obtain⟨G,A,m⟩:=(h.mem e B).1 E;exact hi _ _ (v.symm.trans m)▸A
end
end Go.Sx
namespace Go.Sx
open Go
section
variable {P:Program} {ops:Array Oper} {Q:Exit→Act→World→Prop}
theorem uj_ {r n:Nat} {o:Oper} {a:Act} {w:World} {next:Act→World→Prop} (v:gG_ o.op=true) (h:o.wp P a w next Q):o.wpIn (Fence.wide.inRound r) n P a w next Q:=by
  refine⟨fun _ _=>trivial,?_⟩;rw[semAt_eq v];unfold Oper.wp at h;generalize (execOp a.eval o).run P w=z at h ⊢
  cases z with
  | ok x w' =>
    cases x with
    | value u=>exact h
    | skip=>exact h
    | defer d=>exact h
    | enter f args=>exact⟨fun q=>(by cases q),(lt_ (F:=Fence.wide) h r).mono fun e m q=>by cases e<;>exact q⟩
    | row row args =>
      refine⟨fun q=>(by cases q),fun c cs _=>?_⟩;obtain⟨u,m,y,A⟩:=h c cs;exact⟨u,m,y,stepsIn_wide.2 A⟩
    | _=>exact h.elim
  | halt x w'=>cases x<;>first|exact h|exact h.elim
theorem hS_ {r n:Nat} (d:(ops.toList.all fun o=>gG_ o.op)=true) (e:¬ LetsOut Q):∀ (l:List Nat) (a:Act) (w:World),wpOps P ops Q l a w→wpOpsIn (Fence.wide.inRound r) n P ops Q l a w
 | [],_,_,h=>h
 | i::l,a,w,h=>by
   unfold wpOps at h;unfold wpOpsIn;cases ho:ops[i]? with
   | none=>rw[ho]at h;exact hS_ d e l a w h
   | some o =>
     rw[ho]at h;simp only at h ⊢
     have v:gG_ o.op=true:=by
       rw[List.all_eq_true]at d;exact d o (by rw[Array.mem_toList_iff];exact Array.mem_of_getElem? ho)
     split
     · rename_i m
       rw[if_pos m]at h;rcases h with h|h
       · exact uj_ v (Oper.wp_mono (fun a w q=>hS_ d e l a w q) h)
       · exact absurd h.2 e
     · rename_i m
       rw[if_neg m]at h;exact⟨fun _ _=>trivial,hS_ d e l _ w h⟩
end
section
variable {n:Nat} {P:Program} {N:Nat} {v0:Vw} {H0:Hp} {R:Exit→Act→World→Prop} {K:List Kt} {fr:Fr} {H:Hp} {Γ:List Fct} {ops:Array Oper}
theorem uy_ {r B:Nat} (Hs:Hp) (hm:P.follows .mixedOrders=true) (y:(ops.toList.all fun o=>gG_ o.op)=true) (F:fV_ K=true) (A:∀ e a w,R e a w→e=.normal)
    (h:Any P R N v0 H0 ops Hs Γ ops.size (Array.replicate ops.size false) [] fr H Γ):it_ (Fence.wide.inRound r) n P R N [] v0 H0 (.region B ops true) K fr H Γ:=by
  refine dA_.2 fun a v C x d E=>?_
  refine wpIn_mono (Q:=R) (wpIn_region_draw fun t=>?_) fun e a w q=>by
    obtain rfl:=A e a w q;exact lJ_ F q
  have m:v.le ⟨v.im,{ v.w with drawn:=v.w.drawn+1 },v.sl⟩:=⟨fun _ h=>h,fun _ _=>rfl,rfl⟩;have q:=h a ⟨v.im,{ v.w with drawn:=v.w.drawn+1 },v.sl⟩ C ⟨x.own,x.nodup,x.lt⟩ ⟨d.os,d.tape,d.output,d.size,d.block,d.imUp,d.imNew,d.hNew,d.sl,d.dr.imp (fun h=>h) fun h=>Nat.le_succ_of_le h⟩ (aD_ m E);refine hS_ y (fun⟨a,w,q⟩=>by cases A _ _ _ q) _ _ _ ?_;simp only[Region.schedule,hm,Bool.true_or,if_true];exact wpAny_sound ops.size t _ a _ (wpAny_of_held _ _ _ _ q)
theorem pG_ {σ:Type} {Hj:σ→Hp} {ok:σ→Prop} {d:Hp}:∀ e a w,sd_ v0 H0 Hj ok d e a w→e=.normal
  | .normal,_,_,_=>rfl
instance {σ:Type} {Hj:σ→Hp} {ok:σ→Prop} {HL:Hp}:NoPan (sd_ v0 H0 Hj ok HL):=⟨fun _ _ _ _ _ h=>h⟩
end
end Go.Sx
namespace Go.Vs
open Go Go.Sx
structure Thg where
  kind:Int
  name:Str
deriving DecidableEq
def Thg.cells (t:Thg):List Value:=[.int .i64 t.kind,str t.name]
theorem Thg.cells_len (t:Thg):t.cells.length=2:=rfl
def Thg.val (t:Thg):Value:=.agg t.cells.toArray
def ah_ (x:Pc):List Thg :=
  if x.kind=1∨x.kind=3∨x.kind=8 then [⟨1,x.a⟩]
  else if x.kind=2 then [⟨1,x.a⟩,⟨1,x.b⟩]
  else if x.kind=4 then [⟨2,x.r⟩,⟨1,x.a⟩]
  else if x.kind=5 then [⟨2,x.r⟩]
  else if x.kind=6 then [⟨2,x.r⟩,⟨2,x.s⟩]
  else if x.kind=9 then [⟨3,x.r⟩] else []
def aE_ (x:Pc):List Thg :=
  if x.kind=1∨x.kind=2∨x.kind=4∨x.kind=9 then [⟨1,x.c⟩]
  else if x.kind=3 then [⟨2,x.r⟩,⟨1,x.c⟩]
  else if x.kind=5∨x.kind=6 then [⟨2,x.t⟩]
  else if x.kind=7 then [⟨2,x.r⟩]
  else if x.kind=8 then [⟨3,x.r⟩] else []
def cZ_ (S:List Str):List Thg:=[⟨1,[42]⟩,⟨1,[33]⟩]++S.map (fun s=>⟨1,s⟩)
inductive Rch (p:List Pc) (S:List Str):Thg→Prop
  | base {t:Thg} (h:t∈cZ_ S):Rch p S t
  | give {x:Pc} {t:Thg} (hx:x∈p) (hn:∀ u∈ah_ x,Rch p S u) (ht:t∈aE_ x):Rch p S t
def Usb (p:List Pc) (S:List Str) (x:Pc):Prop:=∀ u∈ah_ x,Rch p S u
def bD_ (K:List Thg):List Thg→List Thg
  | []=>[]
  | t::l=>if t∈K then bD_ K l else t::bD_ (K++[t]) l
theorem gL_:∀ (l K:List Thg) (t:Thg),t∈K++bD_ K l↔t∈K∨t∈l
 | [],K,t=>by simp[bD_]
 | u::l,K,t=>by
   rw[bD_]
   by_cases h:u∈K
   · rw[if_pos h,gL_ l K t]
     constructor
     · rintro (q|q)
       · exact .inl q
       · exact .inr (List.mem_cons_of_mem _ q)
     · rintro (q|q)
       · exact .inl q
       · rcases List.mem_cons.1 q with rfl|q
         · exact .inl h
         · exact .inr q
   · rw[if_neg h,show K++u::bD_ (K++[u]) l=(K++[u])++bD_ (K++[u]) l by simp,gL_ l (K++[u]) t]
     simp only[List.mem_append,List.mem_cons,List.not_mem_nil,or_false,or_assoc]
theorem gK_:∀ (l K:List Thg),K.Nodup→(K++bD_ K l).Nodup
 | [],K,h=>by simpa [bD_] using h
 | u::l,K,h=>by
   rw[bD_]
   by_cases d:u∈K
   · rw[if_pos d];exact gK_ l K h
   · rw[if_neg d,show K++u::bD_ (K++[u]) l=(K++[u])++bD_ (K++[u]) l by simp]
     refine gK_ l (K++[u]) ?_;rw[List.nodup_append];exact⟨h,by simp,fun a v b m e=>by simp at m;subst m;subst e;exact d v⟩
theorem tH_ {K l:List Thg} (h:K.Nodup) {t:Thg} (e:t∈bD_ K l):t ∉ K:=fun d=>by
  have:=gK_ l K h;rw[List.nodup_append]at this;exact this.2.2 t d t e rfl
def pnd (K W:List Thg) (t:Thg):Bool:=decide (t ∉ K)||decide (t∈W)
theorem BI_ {K W l:List Thg} (h:K.Nodup) (t:Thg):pnd (K++bD_ K l) (W++bD_ K l) t=pnd K W t:=by
 unfold pnd;rw[Bool.eq_iff_iff];simp only[Bool.or_eq_true,decide_eq_true_eq,List.mem_append];constructor
 ·rintro (q|q|q)
  ·exact .inl fun z=>q (.inl z)
  ·exact .inr q
  exact .inl (tH_ h q)
 rintro (q|q)
 ·by_cases z:t∈bD_ K l
  ·exact .inr (.inr z)
  exact .inl fun w=>w.elim q z
 exact .inr (.inl q)
def eu_ (K W:List Thg) (x:Pc):Nat:=(ah_ x).countP (pnd K W)
theorem lS_ {K W l:List Thg} (h:K.Nodup) (x:Pc):eu_ (K++bD_ K l) (W++bD_ K l) x=eu_ K W x:=by
  unfold eu_
  congr 1
  funext t
  exact BI_ h t
structure KW (p:List Pc) (S:List Str) (K W:List Thg):Prop where
  snd:∀ t∈K,Rch p S t
  kn:K.Nodup
  sub:∀ t∈W,t∈K
  wn:W.Nodup
theorem KW.ext {p:List Pc} {S:List Str} {K W l:List Thg} (h:KW p S K W) (hl:∀ t∈l,Rch p S t):KW p S (K++bD_ K l) (W++bD_ K l) where
  snd t ht:=((gL_ l K t).1 ht).elim (h.snd t) (hl t)
  kn:=gK_ l K h.kn
  sub t ht:=(List.mem_append.1 ht).elim (fun q=>List.mem_append_left _ (h.sub t q)) (fun q=>List.mem_append_right _ q)
  wn:=by
    have d:=gK_ l K h.kn;rw[List.nodup_append]at d ⊢;exact⟨h.wn,d.2.1,fun a e b m=>d.2.2 a (h.sub a e) b m⟩
structure RK (p:List Pc) (S:List Str) (i:Nat) (K:List Thg) (U:List Bool):Prop where
  kw:KW p S K K
  bas:∀ t∈cZ_ S,t∈K
  ul:U.length=p.length
  use:∀ (j:Nat) x,p[j]? = some x→U[j]? = some (decide (j<i)&&decide (ah_ x=[]))
  giv:∀ (j:Nat) x,p[j]? = some x→j<i→ah_ x=[]→∀ t∈aE_ x,t∈K
structure RI (p:List Pc) (S:List Str) (K W:List Thg) (U:List Bool) (wl:List Int):Prop where
  kw:KW p S K W
  bas:∀ t∈cZ_ S,t∈K
  ul:U.length=p.length
  wll:wl.length=p.length
  cnt:∀ (i:Nat) x,p[i]? = some x→wl[i]? = some (eu_ K W x:Int)
  use:∀ (i:Nat) x,p[i]? = some x→U[i]? = some (decide (eu_ K W x=0))
  giv:∀ (i:Nat) x,p[i]? = some x→eu_ K W x=0→∀ t∈aE_ x,t∈K
theorem lT_ (K:List Thg) (x:Pc):eu_ K K x=(ah_ x).length:=by
  unfold eu_;rw[List.countP_eq_length];intro t _;unfold pnd
  by_cases h:t∈K<;>simp[h]
theorem RK.init {p:List Pc} {S:List Str} {K:List Thg} (e:KW p S K K) (d:∀ t∈cZ_ S,t∈K):RK p S 0 K (List.replicate p.length false) where
  kw:=e
  bas:=d
  ul:=by simp
  use j x hj:=by
    have:=(List.getElem?_eq_some_iff.1 hj).1;rw[List.getElem?_replicate,if_pos this];simp
  giv j x _ h:=absurd h (Nat.not_lt_zero _)
theorem RK.skip {p:List Pc} {S:List Str} {i:Nat} {K:List Thg} {U:List Bool} {x:Pc} (h:RK p S i K U) (d:p[i]? = some x) (m:ah_ x≠[]):RK p S (i+1) K U where
 kw:=h.kw
 bas:=h.bas
 ul:=h.ul
 use j y hj:=by
   rw[h.use j y hj]
   by_cases e:j=i
   · subst e
     rw[d,Option.some.injEq]at hj;subst hj;simp[m]
   · congr 2
     rw[decide_eq_decide];omega
 giv j y hj hlt he:=by
   by_cases e:j=i
   · subst e
     rw[d,Option.some.injEq]at hj;subst hj;exact absurd he m
   · exact h.giv j y hj zaa_ he
theorem nB_ {α:Type} {l:List α} {i:Nat} {v:α} (h:i<l.length) (j:Nat):(l.set i v)[j]? = if j=i then some v else l[j]? := by
 rw[List.getElem?_set]
 by_cases e:i=j
 ·subst e;rw[if_pos rfl,if_pos rfl,if_pos h]
 rw[if_neg e,if_neg (fun q=>e q.symm)]
theorem RK.take {p:List Pc} {S:List Str} {i:Nat} {K:List Thg} {U:List Bool} {x:Pc} (h:RK p S i K U) (v:p[i]? = some x) (A:ah_ x=[]):RK p S (i+1) (K++bD_ K (aE_ x)) (U.set i true) where
 kw:=h.kw.ext fun t d=>.give (List.mem_of_getElem? v) (by rw[A];simp) d
 bas t d:=List.mem_append_left _ (h.bas t d)
 ul:=by rw[List.length_set];exact h.ul
 use j y hj:=by
   have m:=(List.getElem?_eq_some_iff.1 v).1;rw[nB_ (by rw[h.ul];exact m)]
   by_cases e:j=i
   · subst e
     rw[v,Option.some.injEq]at hj;subst hj;simp[A]
   · rw[if_neg e,h.use j y hj]
     congr 2
     rw[decide_eq_decide];omega
 giv j y hj m he t d:=by
   by_cases e:j=i
   · subst e
     rw[v,Option.some.injEq]at hj;subst hj;exact (gL_ _ _ _).2 (.inr d)
   · exact List.mem_append_left _ (h.giv j y hj zaa_ he t d)
theorem RK.done {p:List Pc} {S:List Str} {K:List Thg} {U:List Bool} (h:RK p S p.length K U):RI p S K K U (p.map fun x=>((ah_ x).length:Int)) where
  kw:=h.kw
  bas:=h.bas
  ul:=h.ul
  wll:=by simp
  cnt i x hx:=by rw[List.getElem?_map,hx,lT_];rfl
  use i x hx:=by
    have:=(List.getElem?_eq_some_iff.1 hx).1;rw[h.use i x hx,lT_,decide_eq_true this,Bool.true_and]
    congr 1
    rw[decide_eq_decide,List.length_eq_zero_iff]
  giv i x hx h0:=by
    rw[lT_,List.length_eq_zero_iff]at h0;exact h.giv i x hx (List.getElem?_eq_some_iff.1 hx).1 h0
structure RJ (p:List Pc) (S:List Str) (t:Thg) (us:List Int) (j:Nat) (K W:List Thg) (U:List Bool) (wl:List Int):Prop where
  kw:KW p S K W
  bas:∀ t∈cZ_ S,t∈K
  ul:U.length=p.length
  wll:wl.length=p.length
  tk:t∈K
  tw:t ∉ W
  cnt:∀ (i:Nat) x,p[i]? = some x→wl[i]? = some ((eu_ K W x:Int)+((ah_ x).count t:Int) - ((us.take j).count (i:Int):Int))
  use:∀ (i:Nat) x,p[i]? = some x→U[i]? = some (decide ((eu_ K W x:Int)+((ah_ x).count t:Int) - ((us.take j).count (i:Int):Int)=0))
  giv:∀ (i:Nat) x,p[i]? = some x→(eu_ K W x:Int)+((ah_ x).count t:Int) - ((us.take j).count (i:Int):Int)=0→∀ u∈aE_ x,u∈K
theorem lR_ {p:List Pc} {S:List Str} {K W:List Thg} {t:Thg} (h:KW p S K (W++[t])) (x:Pc):eu_ K (W++[t]) x=eu_ K W x+(ah_ x).count t:=by
 have v:t∈K:=h.sub t zaf_
 have m:t ∉ W:=fun q=>by
   have:=h.wn;rw[List.nodup_append]at this;exact this.2.2 t q t zaf_ rfl
 unfold eu_
 induction ah_ x with
 | nil=>rfl
 | cons u l ih =>
   rw[List.countP_cons,List.countP_cons,List.count_cons,ih]
   by_cases e:u=t
   · subst e
     have d:pnd K (W++[u]) u=true:=by simp[pnd]
     have y:pnd K W u=false:=by simp[pnd,v,m]
     rw[d,y];simp
     omega
   · have d:pnd K (W++[t]) u=pnd K W u:=by simp[pnd,e]
     rw[d,beq_eq_false_iff_ne.2 e];simp
     omega
theorem RI.pop {p:List Pc} {S:List Str} {K W:List Thg} {U:List Bool} {wl:List Int} {t:Thg} (h:RI p S K (W++[t]) U wl) (us:List Int):RJ p S t us 0 K W U wl where
  kw:=⟨h.kw.snd,h.kw.kn,fun u d=>h.kw.sub u (List.mem_append_left _ d),(List.nodup_append.1 h.kw.wn).1⟩
  bas:=h.bas
  ul:=h.ul
  wll:=h.wll
  tk:=h.kw.sub t zaf_
  tw:=fun q=>(List.nodup_append.1 h.kw.wn).2.2 t q t zaf_ rfl
  cnt i x hx:=by rw[h.cnt i x hx,lR_ h.kw];simp
  use i x hx:=by
    rw[h.use i x hx,lR_ h.kw]
    congr 1
    rw[decide_eq_decide];simp
    omega
  giv i x hx h0:=h.giv i x hx (by rw[lR_ h.kw];simp at h0;omega)
def ob_ (p:List Pc) (us:List Int) (t:Thg):Prop:=(∀ m∈us,0≤m∧m<p.length)∧∀ (i:Nat) x,p[i]? = some x→us.count (i:Int)=(ah_ x).count t
theorem jX_ (us:List Int) (j:Nat) (m:Int):(us.take j).count m≤us.count m:=(List.take_sublist j us).count_le m
theorem ct_ {us:List Int} {j:Nat} {m:Int} (hm:us[j]? = some m) (k:Int):(us.take (j+1)).count k=(us.take j).count k+if k=m then 1 else 0:=by
 rw[List.take_add_one,hm,List.count_append];simp only[Option.toList_some,List.count_cons,List.count_nil,Nat.zero_add]
 by_cases e:k=m
 ·subst e;simp
 rw[if_neg e,if_neg (by rw[beq_iff_eq];exact fun q=>e q.symm)]
section
variable {p:List Pc} {S:List Str} {t:Thg} {us:List Int} {j:Nat} {K W:List Thg} {U:List Bool} {wl:List Int} {i:Nat} {x:Pc} {n:Int}
theorem RJ.pos (h:RJ p S t us j K W U wl) (m:ob_ p us t) (hm:us[j]? = some (i:Int)) (d:p[i]? = some x):∃ n:Int,wl[i]? = some n∧1≤n∧n≤(ah_ x).length+(ah_ x).length∧n=(eu_ K W x:Int)+((ah_ x).count t:Int) - ((us.take j).count (i:Int):Int):=by
  have e:=jX_ us (j+1) i;rw[ct_ hm,if_pos rfl,m.2 i x d]at e;have v:eu_ K W x≤(ah_ x).length:=List.countP_le_length;have y:(ah_ x).count t≤(ah_ x).length:=List.count_le_length;exact⟨_,h.cnt i x d,by omega,by omega,rfl⟩
theorem RJ.skip (h:RJ p S t us j K W U wl) (C:ob_ p us t) (hm:us[j]? = some (i:Int)) (d:p[i]? = some x) (v:wl[i]? = some n) (E:n - 1≠0):RJ p S t us (j+1) K W U (wl.set i (n - 1)) where
 kw:=h.kw
 bas:=h.bas
 ul:=h.ul
 wll:=by rw[List.length_set];exact h.wll
 tk:=h.tk
 tw:=h.tw
 cnt k y hy:=by
   have A:=(List.getElem?_eq_some_iff.1 d).1;rw[nB_ (by rw[h.wll];exact A),ct_ hm]
   by_cases e:k=i
   · subst e
     rw[d,Option.some.injEq]at hy;subst hy;rw[h.cnt k x d,Option.some.injEq]at v;rw[if_pos rfl,if_pos rfl,← v]
     congr 1
     omega
   · rw[if_neg e,if_neg zaa_,h.cnt k y hy]
     congr 1
 use k y hy:=by
   rw[h.use k y hy,ct_ hm]
   by_cases e:k=i
   · subst e
     obtain⟨m,B,G,F,H⟩:=h.pos C hm hy;rw[d,Option.some.injEq]at hy;subst hy;rw[v,Option.some.injEq]at B
     congr 1
     rw[decide_eq_decide,if_pos rfl];omega
   · rw[if_neg zaa_]
     rfl
 giv k y hy h0:=by
   rw[ct_ hm]at h0
   by_cases e:k=i
   · subst e
     rw[d,Option.some.injEq]at hy;subst hy;rw[h.cnt k x d,Option.some.injEq]at v;rw[if_pos rfl]at h0;omega
   · rw[if_neg zaa_]at h0
     exact h.giv k y hy h0
theorem uX_ {K W:List Thg} {x:Pc} (h:eu_ K W x=0) {u:Thg} (d:u∈ah_ x):u∈K:=by
 unfold eu_ at h;rw[List.countP_eq_zero]at h;have:=h u d
 by_cases q:u∈K
 ·exact q
 simp[pnd,q]at this
theorem RJ.take (h:RJ p S t us j K W U wl) (E:ob_ p us t) (hm:us[j]? = some (i:Int)) (d:p[i]? = some x) (A:wl[i]? = some n) (G:n - 1=0):RJ p S t us (j+1) (K++bD_ K (aE_ x)) (W++bD_ K (aE_ x)) (U.set i true) (wl.set i (n - 1)) where
 kw:=h.kw.ext fun u B=>.give (List.mem_of_getElem? d) (fun v C=>h.kw.snd v (by
   have F:=jX_ us (j+1) i;rw[ct_ hm,if_pos rfl,E.2 i x d]at F;rw[h.cnt i x d,Option.some.injEq]at A;exact uX_ (W:=W) zaa_ C)) B
 bas u hb:=List.mem_append_left _ (h.bas u hb)
 ul:=by rw[List.length_set];exact h.ul
 wll:=by rw[List.length_set];exact h.wll
 tk:=List.mem_append_left _ h.tk
 tw:=fun q=>(List.mem_append.1 q).elim h.tw fun q=>tH_ h.kw.kn q h.tk
 cnt k y hy:=by
   have m:=(List.getElem?_eq_some_iff.1 d).1;rw[nB_ (by rw[h.wll];exact m),ct_ hm,lS_ h.kw.kn]
   by_cases e:k=i
   · subst e
     rw[d,Option.some.injEq]at hy;subst hy;rw[h.cnt k x d,Option.some.injEq]at A;rw[if_pos rfl,if_pos rfl,← A]
     congr 1
     omega
   · rw[if_neg e,if_neg zaa_,h.cnt k y hy]
     congr 1
 use k y hy:=by
   have m:=(List.getElem?_eq_some_iff.1 d).1;rw[nB_ (by rw[h.ul];exact m),ct_ hm,lS_ h.kw.kn]
   by_cases e:k=i
   · subst e
     rw[d,Option.some.injEq]at hy;subst hy;rw[h.cnt k x d,Option.some.injEq]at A;rw[if_pos rfl,if_pos rfl]
     congr 1
     symm
     rw[decide_eq_true_eq];omega
   · rw[if_neg e,if_neg zaa_,h.use k y hy]
     rfl
 giv k y hy h0 u B:=by
   rw[ct_ hm,lS_ h.kw.kn]at h0
   by_cases e:k=i
   · subst e
     rw[d,Option.some.injEq]at hy;subst hy;exact (gL_ _ _ _).2 (.inr B)
   · rw[if_neg zaa_]at h0
     exact List.mem_append_left _ (h.giv k y hy h0 u B)
theorem RJ.done (h:RJ p S t us us.length K W U wl) (v:ob_ p us t):RI p S K W U wl:=by
  have e:∀ (i:Nat) x,p[i]? = some x→(eu_ K W x:Int)+((ah_ x).count t:Int) - ((us.take us.length).count (i:Int):Int)=(eu_ K W x:Int):=fun i x d=>by
    rw[List.take_length,v.2 i x d];omega
  refine⟨h.kw,h.bas,h.ul,h.wll,fun i x d=>by rw[h.cnt i x d,e i x d],fun i x d=>?_,fun i x d m=>h.giv i x d (by rw[e i x d,m];rfl)⟩;rw[h.use i x d,e i x d]
  congr 1
  rw[decide_eq_decide];omega
end
structure ReachR (p:List Pc) (S:List Str) (K:List Thg) (U:List Bool):Prop where
  known:∀ t,t∈K↔Rch p S t
  kn:K.Nodup
  ul:U.length=p.length
  use:∀ (i:Nat) x,p[i]? = some x→∃ b,U[i]? = some b∧(b=true↔Usb p S x)
theorem RI.end {p:List Pc} {S:List Str} {K:List Thg} {U:List Bool} {wl:List Int} (h:RI p S K [] U wl):ReachR p S K U:=by
  have v:∀ x,eu_ K [] x=0↔∀ u∈ah_ x,u∈K:=fun x=>by
    unfold eu_;rw[List.countP_eq_zero];simp[pnd]
  have d:∀ t,Rch p S t→t∈K:=fun t y=>by
    induction y with
    | base hb=>exact h.bas _ hb
    | give m hn hg ih =>
      obtain⟨i,hi⟩:=List.getElem?_of_mem m;exact h.giv i _ hi ((v _).2 ih) _ hg
  refine⟨fun t=>⟨h.kw.snd t,d t⟩,h.kw.kn,h.ul,fun i x m=>⟨_,h.use i x m,?_⟩⟩;rw[decide_eq_true_eq,v];exact⟨fun q u e=>h.kw.snd u (q u e),fun q u e=>d u (q u e)⟩
def oc_ (p:List Pc) (S:List Str):List Thg:=cZ_ S++p.flatMap aE_
theorem Rch.univ {p:List Pc} {S:List Str} {t:Thg} (h:Rch p S t):t∈oc_ p S:=by
  unfold oc_;cases h with
  | base h=>exact List.mem_append_left _ h
  | give hx _ ht=>exact List.mem_append_right _ (List.mem_flatMap.2 ⟨_,hx,ht⟩)
theorem hm_ {α:Type} [DecidableEq α]:∀ (l m:List α),l.Nodup→(∀ x∈l,x∈m)→l.length≤m.length
  | [],m,_,_=>Nat.zero_le _
  | a::l,m,h,hs=>by
    have d:=hs a List.mem_cons_self;have v:=List.nodup_cons.1 h;have:=hm_ l (m.erase a) v.2 fun x e=>(List.mem_erase_of_ne (by rintro rfl;exact v.1 e)).2 (hs x (List.mem_cons_of_mem _ e))
    rw[List.length_erase_of_mem d]at this;have:=List.length_pos_of_mem d;simp only[List.length_cons];omega
theorem KW.len {p:List Pc} {S:List Str} {K W:List Thg} (h:KW p S K W):K.length≤(oc_ p S).length:=hm_ K _ h.kn fun t d=>(h.snd t d).univ
theorem pd_ (x:Pc):(aE_ x).length≤2:=by
  unfold aE_
  repeat (first|(split;· simp)|simp)
theorem if_ (x:Pc):(ah_ x).length≤2:=by
  unfold ah_
  repeat (first|(split;· simp)|simp)
theorem jx_ (p:List Pc) (S:List Str):(oc_ p S).length≤2*p.length+S.length+2:=by
  have:∀ q:List Pc,(q.flatMap aE_).length≤2*q.length:=fun q=>by
    induction q with
    | nil=>simp
    | cons x q ih=>have:=pd_ x;rw[List.flatMap_cons,List.length_append,List.length_cons];omega
  have:=this p;simp only[oc_,cZ_,List.length_append,List.length_cons,List.length_nil,List.length_map];omega
end Go.Vs
namespace Go.Sx
open Go Go.Vs
section
variable {P:Program} {N:Nf} {v0:Vw} {H0:Hp} {R:Exit→Act→World→Prop} {Kk:List Kt} {fr:Fr} {H:Hp} {Γ:List Fct}
variable {ops:Array Oper} {lo:List Oper} {d:Nat} {ty:TypeId} {ps:String} {af:Array Edge}
variable {K:Type} [DecidableEq K] {kv:K→Value}
theorem IntE.at {y:TypeId} {es:Array MapEntry} {ks:List K} {vs:List Int} (C:KeyT P y kv) (h:IntE kv es ks vs) {k:K} {i:Nat} {n:Int} (hi:ks[i]? = some k) (B:vs[i]? = some n):∃ e,es[i]? = some e∧e.key=kv k∧e.val=.int .i64 n∧da_ P y (kv k) es.toList (some (i,.int .i64 n)):=by
  have x:i<es.toList.length:=by
    have:=(List.getElem?_eq_some_iff.1 hi).1;have e:=congrArg List.length h.keys;simp only[List.length_map]at e;omega
  have m:=List.getElem?_eq_getElem x;have v:=congrArg (fun l=>l[i]?) h.vals;simp only[List.getElem?_map,m,Option.map_some,B,Option.some.injEq]at v;have A:=congrArg (fun l=>l[i]?) h.keys;simp only[List.getElem?_map,m,Option.map_some,hi,Option.some.injEq]at A;refine⟨es.toList[i],by rw[← Array.getElem?_toList];exact m,A,v,?_⟩;have:=C.sf k es.toList ks i _ h.keys h.nd hi m;rwa [v]at this
theorem pQ_ {t e E:TypeId} {x y:Operand} {h c:Nat} {es:Array MapEntry} {ks:List K} {vs:List Int} {k:K} {i:Nat} {n:Int} (m:KeyT P e kv) (B:∀ w,(underlying t).run P w=.ok (.map e E) w) (C:Fr.ev fr x=some (.map (some h))) (F:Fr.ev fr y=some (kv k))
    (hE:IntE kv es ks vs) (hi:ks[i]? = some k) (G:vs[i]? = some n) (hm:∀ v,v.sat H→ad_ Γ v→v.w.heap[h]? = some (.map es c)):Yld P N fr H Γ (.lookup t x y false) ty (.int .i64 n):=by
  obtain⟨_,_,_,_,A⟩:=hE.at m hi G;exact eJ_ B C F hm (m.ok k) A
theorem uQ_ {kv:K→Value} {es:Array MapEntry} {ks:List K} {vs:List Int} (h:IntE kv es ks vs) {k:K} {i:Nat} (hi:ks[i]? = some k) (n:Int):IntE kv (es.modify i fun y=>{ y with key:=kv k,val:=.int .i64 n }) ks (vs.set i n):=by
 have v:=congrArg List.length h.vals;simp only[List.length_map]at v;have A:=congrArg List.length h.keys;simp only[List.length_map]at A;refine⟨?_,?_,h.nd⟩
 ·rw[← h.keys]
  apply List.ext_getElem?
  intro j;simp only[List.getElem?_map,Array.getElem?_toList,Array.getElem?_modify]
  by_cases m:i=j
  ·subst m
   rw[if_pos rfl];have B:=congrArg (fun l=>l[i]?) h.keys;simp only[List.getElem?_map,hi,Option.map_some,Array.getElem?_toList]at B;cases he:es[i]? with
   | none=>rfl
   | some e=>rw[he]at B;simpa using B.symm
  rw[if_neg m]
 apply List.ext_getElem?
 intro j;have E:=congrArg (fun l=>l[j]?) h.vals;simp only[List.getElem?_map,Array.getElem?_toList,Array.getElem?_modify,List.getElem?_set]at E ⊢
 by_cases m:i=j
 ·subst m
  rw[if_pos rfl,if_pos rfl]
  have C:i<es.size:=by
    have:=(List.getElem?_eq_some_iff.1 hi).1;rw[Array.length_toList]at A;omega
  have x:i<vs.length:=by rw[Array.length_toList]at v;omega
  rw[if_pos x,Array.getElem?_eq_getElem C];rfl
 rw[if_neg m,if_neg m];exact E
theorem uJ_ {o:Op} {t A J:TypeId} {x y z:Operand} {h c:Nat} (j:Nat) {es:Array MapEntry} {ks:List K} {vs:List Int} {k:K} {i:Nat} {m n:Int} (B:KeyT P A kv) (C:o=.insert t x y z∨o=.mapUpdate t x y z) (F:∀ w,(underlying t).run P w=.ok (.map A J) w)
    (G:Fr.ev fr x=some (.map (some h))) (L:Fr.ev fr y=some (kv k)) (Q:Fr.ev fr z=some (.int .i64 n)) (I:H[j]? = some (h,.map es c)) (hE:IntE kv es ks vs) (hi:ks[i]? = some k) (hm:vs[i]? = some m)
    (v:∀ es',IntE kv es' ks (vs.set i n)→Ops P R N v0 H0 ops lo Kk fr (H.set j (h,.map es' c)) Γ):Ops P R N v0 H0 ops (⟨none,o,ty,ps,af,none⟩::lo) Kk fr H Γ:=by
  obtain⟨e,M,O,S,E⟩:=hE.at B hi hm;exact fy_ j B C F G L Q I E M O (v _ (uQ_ hE hi n))
end
end Go.Sx
namespace Go.Vs
open Go Go.Sx
def Thg.eqb (p q:Thg):Bool:=(p.kind==q.kind)&&((p.name==q.name)&&true)
theorem Thg.eqb_eq (p q:Thg):p.eqb q=decide (p=q):=by
  rw[Bool.eq_iff_iff];cases p;cases q;simp[Thg.eqb]
theorem ln_:∀ (l m K:List Thg),bD_ K (l++m)=bD_ K l++bD_ (K++bD_ K l) m
 | [],m,K=>by simp[bD_]
 | u::l,m,K=>by
   rw[List.cons_append,bD_,bD_]
   by_cases d:u∈K
   · rw[if_pos d,if_pos d,ln_ l m K]
   · rw[if_neg d,if_neg d,ln_ l m (K++[u]),show K++u::bD_ (K++[u]) l=(K++[u])++bD_ (K++[u]) l by simp]
     rfl
theorem jf_:∀ (l K:List Thg),(bD_ K l).length≤l.length
 | [],K=>by simp[bD_]
 | u::l,K=>by
   rw[bD_]
   by_cases d:u∈K
   · rw[if_pos d];have:=jf_ l K;simp only[List.length_cons];omega
   · rw[if_neg d];have:=jf_ l (K++[u]);simp only[List.length_cons];omega
theorem take_snoc {α:Type} {l:List α} {i:Nat} {x:α} (h:l[i]? = some x):l.take (i+1)=l.take i++[x]:=by
  rw[List.take_add_one,h];rfl
theorem tG_ {W K l:List Thg} {j:Nat} {t:Thg} (h:l[j]? = some t):W++bD_ K (l.take (j+1))=(W++bD_ K (l.take j))++bD_ (K++bD_ K (l.take j)) [t]:=by
  rw[take_snoc h,ln_,List.append_assoc]
theorem vx_ {S:List Str} {j:Nat} {s:Str} (h:S[j]? = some s):cZ_ (S.take (j+1))=cZ_ (S.take j)++[⟨1,s⟩]:=by
  unfold cZ_;rw[take_snoc h,List.map_append,← List.append_assoc];rfl
theorem yo_ {S:List Str} {j:Nat} {s:Str} (h:S[j]? = some s):bD_ [] (cZ_ (S.take (j+1)))=bD_ [] (cZ_ (S.take j))++bD_ (bD_ [] (cZ_ (S.take j))) [⟨1,s⟩]:=by
  rw[vx_ h,ln_];rfl
theorem yn_:bD_ [] (cZ_ (([]:List Str).take 0))=([]++bD_ [] [⟨1,[42]⟩])++bD_ ([]++bD_ [] [⟨1,[42]⟩]) [⟨1,[33]⟩]:=by decide
theorem rX_ (p:List Pc) (S:List Str):KW p S (bD_ [] (cZ_ S)) (bD_ [] (cZ_ S)):=by
  have d:KW p S [] []:=⟨by simp,List.nodup_nil,by simp,List.nodup_nil⟩;have:=d.ext (l:=cZ_ S) fun t e=>.base e
  simpa using this
theorem tY_ (S:List Str):∀ t∈cZ_ S,t∈bD_ [] (cZ_ S):=fun t d=>by
  have:=(gL_ (cZ_ S) [] t).2 (.inr d);simpa using this
theorem KW.wlen {p:List Pc} {S:List Str} {K W:List Thg} (h:KW p S K W):W.length≤(oc_ p S).length:=hm_ W _ h.wn fun t d=>(h.snd t (h.sub t d)).univ
def ey_:Nat→List Pc→List (Thg×Int)
  | _,[]=>[]
  | k,x::l=>(ah_ x).map (fun t=>(t,(k:Int)))++ey_ (k+1) l
theorem sv_:∀ (l m:List Pc) (k:Nat),ey_ k (l++m)=ey_ k l++ey_ (k+l.length) m
  | [],m,k=>by simp[ey_]
  | x::l,m,k=>by
    rw[List.cons_append,ey_,ey_,sv_ l m (k+1),List.append_assoc,List.length_cons,show k+1+l.length=k+(l.length+1) by omega]
theorem pW_ {p:List Pc} {i:Nat} {x:Pc} (h:p[i]? = some x):ey_ 0 (p.take (i+1))=ey_ 0 (p.take i)++(ah_ x).map fun t=>(t,(i:Int)):=by
  have hl:=(List.getElem?_eq_some_iff.1 h).1;rw[take_snoc h,sv_,List.length_take,Nat.min_eq_left zaa_,Nat.zero_add];simp[ey_]
theorem pI_ {l:List Thg} {k:Int} {t:Thg}:lat (l.map fun u=>(u,k)) t=List.replicate (l.count t) k:=by
 induction l with
 | nil=>rfl
 | cons u l ih =>
   unfold lat at ih ⊢;rw[List.map_cons,List.count_cons,List.filter_cons]
   by_cases e:u=t
   · subst e
     rw[if_pos zaf_,List.map_cons,ih];simp[List.replicate_succ]
   · rw[if_neg zbc_,ih,beq_eq_false_iff_ne.2 e]
     simp
theorem kk_:∀ (l:List Pc) (k:Nat) (t:Thg) (m:Int),(lat (ey_ k l) t).count m=if h:(k:Int)≤m∧m<k+l.length then ((l[(m - k).toNat]?).map fun x=>(ah_ x).count t).getD 0 else 0
 | [],k,t,m=>by
   simp only[ey_,List.length_nil]
   split
   · rename_i h;exact absurd h.2 zaa_
   · rfl
 | x::l,k,t,m=>by
   rw[ey_,kB_,List.count_append,pI_,List.count_replicate,kk_ l (k+1) t m]
   by_cases e:m=(k:Int)
   · subst e
     rw[if_pos zaf_,dif_neg zaa_,dif_pos zby_];simp
   · rw[if_neg (by simpa using fun q:(k:Int)=m=>e q.symm)]
     by_cases h:((k+1:Nat):Int)≤m∧m<((k+1:Nat):Int)+l.length
     · rw[dif_pos h,dif_pos zby_,show (m - (k:Int)).toNat=(m - ((k+1:Nat):Int)).toNat+1 by omega]
       simp
     · rw[dif_neg h,dif_neg zby_]
theorem uo_ (p:List Pc) (t:Thg):ob_ p (lat (ey_ 0 p) t) t:=by
 constructor
 ·intro m hm
  have h:=List.count_pos_iff.2 hm;rw[kk_]at h
  by_cases e:((0:Nat):Int)≤m∧m<((0:Nat):Int)+p.length
  ·omega
  rw[dif_neg e]at h;omega
 intro i x d;have hl:=(List.getElem?_eq_some_iff.1 d).1;rw[kk_,dif_pos zaa_,show ((i:Int) - ((0:Nat):Int)).toNat=i by omega,d];rfl
theorem of_:∀ (l:List Pc) (k:Nat),(ey_ k l).length≤2*l.length
  | [],_=>by simp[ey_]
  | x::l,k=>by
    have e:=of_ l (k+1);have d:=if_ x;simp only[ey_,List.length_append,List.length_map,List.length_cons];omega
def StK (tk tw te:TypeId) (b4 b8 kb:Nat) (K W:List Thg) (H:Hp):Prop:=∃ es c sv Hw,H=(b4,.cells #[.map (some kb)] tk (0,0))::(b8,.cells #[sv] tw (0,0))::(kb,.map es c)::Hw∧SetE Thg.val es K∧Born es c∧az_ te 2 sv W.length (W.flatMap Thg.cells) Hw
def zN_ (p:List Pc):List Int:=p.map fun x=>((ah_ x).length:Int)
theorem qy_ {p:List Pc} {i:Nat} {x:Pc} (h:p[i]? = some x):zN_ (p.take (i+1))=zN_ (p.take i)++[((ah_ x).length:Int)]:=by
  unfold zN_;rw[take_snoc h,List.map_append];rfl
theorem Cc_ (n:Nat):¬ (n:Int)∈iot n:=fun h=>by
  obtain⟨k,d⟩:=List.getElem?_of_mem h;have e:=wh_ d;have hl:=(List.getElem?_eq_some_iff.1 d).1;rw[Cd_]at hl;omega
theorem ve_ {n i:Nat} (h:i<n):(iot n)[i]? = some (i:Int):=by
  unfold iot;rw[List.getElem?_map,List.getElem?_range h];rfl
def rq_ (p:List Pc) (K:List Thg):List Thg:=(p.filter fun x=>decide (∀ u∈ah_ x,u∈K)).flatMap aE_
def nm_ (p:List Pc):Nat→List Thg→List Thg
  | 0,K=>K
  | n+1,K=>nm_ p n (K++bD_ K (rq_ p K))
def uA_ (p:List Pc) (S:List Str):List Thg:=nm_ p (2*p.length+S.length+3) (bD_ [] (cZ_ S))
theorem zk_ {p:List Pc} {S:List Str} {K:List Thg} (h:∀ t∈K,Rch p S t):∀ t∈rq_ p K,Rch p S t:=fun t e=>by
  obtain⟨x,A,v⟩:=List.mem_flatMap.1 e;obtain⟨d,m⟩:=List.mem_filter.1 A;exact .give d (fun u y=>h u (of_decide_eq_true m u y)) v
theorem vQ_ {p:List Pc} {S:List Str}:∀ (n:Nat) (K:List Thg),KW p S K K→KW p S (nm_ p n K) (nm_ p n K)
  | 0,K,h=>h
  | n+1,K,h=>vQ_ n _ (h.ext (zk_ h.snd))
theorem sM_ {p:List Pc}:∀ (n:Nat) (K:List Thg),∀ t∈K,t∈nm_ p n K
  | 0,K,t,h=>h
  | n+1,K,t,h=>sM_ n _ t (List.mem_append_left _ h)
theorem sO_ {p:List Pc}:∀ (n:Nat) (K:List Thg),bD_ K (rq_ p K)=[]→nm_ p n K=K
  | 0,K,h=>rfl
  | n+1,K,h=>by rw[nm_,h,List.append_nil];exact sO_ n K h
theorem sN_ {p:List Pc}:∀ (n:Nat) (K:List Thg),bD_ (nm_ p n K) (rq_ p (nm_ p n K))=[]∨K.length+n≤(nm_ p n K).length
 | 0,K=>.inr (by simp[nm_])
 | n+1,K=>by
   by_cases h:bD_ K (rq_ p K)=[]
   · rw[sO_ (n+1) K h];exact .inl h
   · rw[nm_]
     rcases sN_ n (K++bD_ K (rq_ p K)) with q|q
     · exact .inl q
     · refine .inr ?_
       have:=List.length_pos_iff.2 h;rw[List.length_append]at q;omega
theorem sP_ (p:List Pc) (S:List Str) (t:Thg):t∈uA_ p S↔Rch p S t:=by
 have e:=vQ_ (2*p.length+S.length+3) _ (rX_ p S)
 have d:bD_ (uA_ p S) (rq_ p (uA_ p S))=[]:=by
   rcases sN_ (2*p.length+S.length+3) (bD_ [] (cZ_ S)) (p:=p) with h|h
   · exact h
   · have m:=e.len
     have v:=jx_ p S;omega
 refine⟨e.snd t,fun h=>?_⟩
 induction h with
 | base hb=>exact sM_ _ _ _ (tY_ S _ hb)
 | @give x t hx hn hg ih =>
   have hm:t∈rq_ p (uA_ p S):=List.mem_flatMap.2 ⟨x,List.mem_filter.2 ⟨hx,decide_eq_true ih⟩,hg⟩;have:=(gL_ (rq_ p (uA_ p S)) (uA_ p S) t).2 (.inr hm);rw[d,List.append_nil]at this;exact this
def usbB (p:List Pc) (S:List Str) (x:Pc):Bool:=(ah_ x).all fun u=>decide (u∈uA_ p S)
theorem st_ (p:List Pc) (S:List Str) (x:Pc):usbB p S x=true↔Usb p S x:=by
 unfold usbB Usb;rw[List.all_eq_true];constructor
 ·intro h u d;exact (sP_ p S u).1 (of_decide_eq_true (h u d))
 intro h u d;exact decide_eq_true ((sP_ p S u).2 (h u d))
end Go.Vs
