/-
  Part of the proof of the law CanonReaches over this seat: the small logic, the data, the contracts of functions (no condition).
-/
import Derived.Test.YtpbnmnfdgckaiaaGreatDoorQCanonReaches9
import Derived.Test.YtpbnmnfdgckaiaaGreatDoorQCanonReaches8
import Derived.Shelf.SlSortCmp.NoneTotal
import Derived.Test.YtpbnmnfdgckaiaaGreatDoorProg
import Derived.Test.YtpbnmnfdgckaiaaGreatDoorQCanonReaches7
import Derived.Test.YtpbnmnfdgckaiaaGreatDoorQCanonReaches6
import Derived.Test.YtpbnmnfdgckaiaaGreatDoorQCanonReaches2
import Derived.Lib.Bytealg
import Derived.Lib.Small
import Derived.Test.YtpbnmnfdgckaiaaGreatDoorQCanonReaches3
set_option linter.unusedVariables false
set_option linter.unusedSimpArgs false
set_option linter.unusedSectionVars false
set_option maxHeartbeats 1000000
namespace Go.Proofs.YtpbnmnfdgckaiaaGreatDoor
open Go Go.Sx Go.Proofs
attribute [local irreducible] Code.wp wpList wpAnyH
open Go.Vs
theorem lJ_ (x:Pc) (ro at':Str) (A:List (Ky×Pc)) (B v:Nat) (g pb kb ab ub ob ib rb sb fb:Nat) (ev:Value) (lv:Value) (P:Hp) (hm:cW_ Ky.val Pc.cells 174 10 A pb P) (F:A.length≤1000000000):Tri Tryz.prog 161 #[str ro,str at',zp_ B 0,zp_ v 0] ((B,.cells #[.int .i64 x.kind,str x.a,str x.b,str x.c,str x.r,str x.s,str x.t,.int .i64 x.lo,.int .i64 x.hi,.int .i64 x.frm] 174 (0,0))::(v,.cells #[zp_ g 0] 116 (0,0))::(g,.cells #[.map (some pb),lv,.map (some kb),ev,.map (some ab),.map (some ub),.map (some ob),.map (some ib),.map (some rb),.map (some sb),.map (some fb)] 124 (0,0))::P) [] (fun _:{H:Hp // cW_ Ky.val Pc.cells 174 10 (A++[((Ky.mk x.kind ro at'),x)]) pb H}=>.tuple #[]) (fun y=>(B,.cells #[.int .i64 x.kind,str x.a,str x.b,str x.c,str x.r,str x.s,str x.t,.int .i64 x.lo,.int .i64 x.hi,.int .i64 x.frm] 174 (0,0))::(v,.cells #[zp_ g 0] 116 (0,0))::(g,.cells #[.map (some pb),lv,.map (some kb),ev,.map (some ab),.map (some ub),.map (some ob),.map (some ib),.map (some rb),.map (some sb),.map (some fb)] 124 (0,0))::y.1) (fun _=>[]):=by
  refine i_ Tryz.func161 rfl rfl Tryz.ntmps161 rfl fun S=>?_;refine Zz 6 ?_;refine e_ (I_ eJ_ rfl rfl) rfl (G_ Tryz.zeroValue208 rfl fun E=>u_ 0 Tryz.sizeOf208 rfl rfl rfl rfl rfl rfl (Zz 2 ?_));refine af_ ((E,.cells #[.int .i64 x.kind,str ro,str at'] 208 (0,0))::((B,.cells #[.int .i64 x.kind,str x.a,str x.b,str x.c,str x.r,str x.s,str x.t,.int .i64 x.lo,.int .i64 x.hi,.int .i64 x.frm] 174 (0,0))::((v,.cells #[zp_ g 0] 116 (0,0))::((g,.cells #[.map (some pb),lv,.map (some kb),ev,.map (some ab),.map (some ub),.map (some ob),.map (some ib),.map (some rb),.map (some sb),.map (some fb)] 124 (0,0))::[])))) zk ?_;refine K_ 6 [0,1,2,3,4,5] zk zs (Zz 7 ?_);refine s_ 6 rfl zk (U_ D_ F_ P_ rfl rfl rfl rfl rfl rfl fun U=>Zz 2 ?_);refine O_ zs (s_ 7 rfl zk ?_);have C:=Nat.le_trans (dB_ A (Ky.mk x.kind ro at')) F;refine fk_ (k:=(Ky.mk x.kind ro at')) hS_ hm bL_ bT_ rfl rfl (c_ (c_ (c_ (c_ C_)))) rfl fun M I L R N O J h m=>Zz 2 ?_
  refine O_ (fun _ a b=>⟨Vw.sat.sub (a.perm (j_ (c_ (f_ (f_ (c_ d_)))) (j_ (c_ (f_ (f_ (c_ d_)))) (j_ (c_ (f_ (f_ (c_ d_)))) (c_ (f_ (f_ (c_ d_)))))))),b⟩) (K_ 2 [8,10] zk (fun _ a b=>⟨Vw.sat.sub (a.perm (j_ (c_ (f_ (f_ (c_ d_)))) (j_ (c_ (f_ (f_ (c_ d_)))) (j_ (c_ (f_ (f_ (c_ d_)))) (c_ (f_ (f_ (c_ d_)))))))),b⟩) (Zz 3 ?_));refine s_ 9 rfl zk (an_ (news:=List.flatMap Pc.cells [x]) wE_ m rfl rfl zp rfl (fh_ zp) (fun u T=>aA_ Pc.cells_one T) zE_ zs_ rfl fun Q K q=>?_);have e:=zsa q;refine Zz 2 ?_;refine O_ (fun _ a b=>⟨Vw.sat.sub (a.perm (j_ (f_ (c_ (f_ (c_ d_)))) (j_ (f_ (c_ (f_ (c_ d_)))) (j_ (f_ (c_ (f_ (c_ d_)))) (f_ (c_ (f_ (c_ d_)))))))),b⟩) (s_ 11 rfl zk (cZ_ (k:=(Ky.mk x.kind ro at')) (dd:=x) h (by rw[ee_];exact e) rfl rfl rfl (ec_ (j_ (f_ d_) (z_ t_ t_))) fun G d=>?_));refine Zz 2 ?_;refine O_ zs (Zz 2 ?_);exact co_ Tryz.results161 ⟨G,d⟩ rfl zp zt
theorem ic_ {G:Prop} (h:G:=by
 have k:lps=lps++av_ [x]:=by simp[av_, *]
 exact co_ Tryz.results114 ⟨(lv,d,F),h▸e,k▸hl⟩ rfl zp zt):G:=h
theorem id_ {G:Prop} (h:G:=by
 have k:lps=lps++av_ [x]:=by simp[av_, *]
 exact co_ Tryz.results114 ⟨(lv,A,F),h▸C,k▸hl⟩ rfl zp zt):G:=h
theorem ls_ {G:Prop} (h:G:=by
 refine ap_ (lJ_ x x.r [] m v q g pb kb ab ub ob ib rb sb fb ev lv E hm zK_) rfl rfl zp zt rfl fun⟨d,e⟩=>?_;dsimp only;simp only[List.cons_append];refine Zz 2 ?_;have h:(m++[((Ky.mk x.kind x.r []),x)])=m++dd_ x:=by simp[dd_, *]
 exact ic_):G:=h
theorem lt_ {G:Prop} (h:G:=by
 refine Zz 2 ?_;refine O_ zs (K_ 1 [9,10] zk zs (Zz 3 ?_));refine s_ 11 rfl zk (y_ (R_ (f_ d_) (R_ (f_ d_) (R_ (f_ d_) (bb_ (f_ d_))))) (dr_ 3 B bP_ rfl rfl rfl rfl (Zz 2 ?_)));refine O_ (fun _ a b=>⟨Vw.sat.sub (a.perm (j_ (c_ d_) (c_ d_))),b⟩) (Zz 2 ?_);have h:m=m++dd_ x:=by simp[dd_, *]
 have k:(lps++[x.r])=lps++av_ [x]:=by simp[av_, *]
 exact co_ Tryz.results114 ⟨(I,E,G),h▸hm,k▸B⟩ rfl (j_ (c_ (c_ (c_ d_))) (z_ (c_ (c_ (c_ aP_))) (c_ (c_ C_)))) zt):G:=h
theorem ie_ {G:Prop} (h:G:=by
 refine ap_ (lJ_ x [] x.a m v q g pb kb ab ub ob ib rb sb fb ev lv E hm zK_) rfl rfl zp zt rfl fun⟨d,e⟩=>?_;dsimp only;simp only[List.cons_append];refine Zz 2 ?_;have h:(m++[((Ky.mk x.kind [] x.a),x)])=m++dd_ x:=by simp[dd_, *]
 exact ic_):G:=h
theorem uM_ (x:Pc) (m:List (Ky×Pc)) (lps:List Str) (g pb kb ab ub ob ib rb sb fb:Nat) (ev:Value) (lv:Value) (E F:Hp) (hm:cW_ Ky.val Pc.cells 174 10 m pb E) (hl:zR 9 1 ag_ lv lps F) (V:m.length≤900000000) (U:lps.length≤900000000):Tri Tryz.prog 114 #[zp_ g 0,Pc.val x] ((g,.cells #[.map (some pb),lv,.map (some kb),ev,.map (some ab),.map (some ub),.map (some ob),.map (some ib),.map (some rb),.map (some sb),.map (some fb)] 124 (0,0))::(E++F)) [] (fun _:{y:Value×Hp×Hp // cW_ Ky.val Pc.cells 174 10 (m++dd_ x) pb y.2.1∧zR 9 1 ag_ y.1 (lps++av_ [x]) y.2.2}=>.tuple #[]) (fun y=>(g,.cells #[.map (some pb),y.1.1,.map (some kb),ev,.map (some ab),.map (some ub),.map (some ob),.map (some ib),.map (some rb),.map (some sb),.map (some fb)] 124 (0,0))::(y.1.2.1++y.1.2.2)) (fun _=>[]):=by
 refine i_ Tryz.func114 rfl rfl Tryz.ntmps114 rfl fun T=>?_;refine Zz 2 ?_;refine aa_ rfl rfl fun q=>aa_ rfl rfl fun v=>Zz 4 ?_
 refine e_ (bK_ rfl rfl) rfl (Zi 13 (fun J=>?_) fun J=>?_)
 ·refine Zi 6 (fun H=>?_) fun H=>?_
  ·refine Zi 5 (fun M=>?_) fun M=>?_
   ·refine Zi 6 (fun Q=>?_) fun Q=>?_
    ·refine Zi 6 (fun K=>?_) fun K=>?_
     ·refine Zi 7 (fun O=>?_) fun O=>?_
      ·refine Zi 5 (fun L=>?_) fun L=>?_
       ·refine Zi 6 (fun N=>?_) fun N=>?_
        ·refine Zi 6 (fun P=>?_) fun P=>?_
         ·refine Zz 6 ?_
          have h:m=m++dd_ x:=by simp[dd_, *]
          have k:lps=lps++av_ [x]:=by simp[av_, *]
          exact co_ Tryz.results114 ⟨(lv,E,F),h▸hm,k▸hl⟩ rfl zp zt
         refine Zz 4 ?_;refine af_ ((v,.cells #[.int .i64 x.kind,str x.a,str x.b,str x.c,str x.r,str x.s,str x.t,.int .i64 x.lo,.int .i64 x.hi,.int .i64 x.frm] 174 (0,0))::((q,.cells #[zp_ g 0] 116 (0,0))::[])) zk ?_;refine K_ 6 [0,1,2,3,5,6] zk zs (Zz 7 ?_);refine gG_ 4 7 rfl rfl zk ?_ ?_
         ·refine Zz 3 ?_
          refine O_ zs (s_ 7 rfl zk (U_ l_ E_ ax_ rfl rfl rfl rfl rfl rfl fun S=>Zz 2 ?_));refine O_ zs (s_ 8 rfl zk (an_ (news:=List.flatMap ag_ [x.r]) cE_ hl rfl rfl zp rfl (aO_ 0 rfl) (fun u R=>aA_ cj_ R) (by simp only[maxLen];first|omega|(simp;omega)) zK_ rfl fun I G J=>?_));have B:=zsa J;exact lt_
         refine U_ l_ E_ ax_ rfl rfl rfl rfl rfl rfl fun S=>Zz 2 ?_
         refine O_ zs (s_ 4 rfl zk (Zz 3 ?_));refine O_ zs (s_ 8 rfl zk (an_ (news:=List.flatMap ag_ [x.r]) cE_ hl rfl rfl zp rfl (aO_ 0 rfl) (fun u R=>aA_ cj_ R) (by simp only[maxLen];first|omega|(simp;omega)) zK_ rfl fun I G H=>?_));have B:=zsa H;exact lt_
        refine Zz 9 ?_;refine ap_ (lJ_ x x.r [] m v q g pb kb ab ub ob ib rb sb fb ev lv E hm zK_) rfl rfl zp zt rfl fun⟨d,e⟩=>?_;dsimp only;simp only[List.cons_append];refine Zz 6 ?_;refine ap_ (lJ_ x [] x.s (m++[((Ky.mk x.kind x.r []),x)]) v q g pb kb ab ub ob ib rb sb fb ev lv d e zK_) rfl rfl zp zt rfl fun⟨A,C⟩=>?_;dsimp only;simp only[List.cons_append];refine Zz 2 ?_;have h:((m++[((Ky.mk x.kind x.r []),x)])++[((Ky.mk x.kind [] x.s),x)])=m++dd_ x:=by simp[dd_, *]
        exact id_
       refine Zz 8 ?_;exact ls_
      refine Zz 11 ?_;exact ls_
     refine Zz 9 ?_;refine ap_ (lJ_ x [] x.a m v q g pb kb ab ub ob ib rb sb fb ev lv E hm zK_) rfl rfl zp zt rfl fun⟨d,e⟩=>?_;dsimp only;simp only[List.cons_append];refine Zz 8 ?_;refine ap_ (lJ_ x x.r x.a (m++[((Ky.mk x.kind [] x.a),x)]) v q g pb kb ab ub ob ib rb sb fb ev lv d e zK_) rfl rfl zp zt rfl fun⟨A,C⟩=>?_;dsimp only;simp only[List.cons_append];refine Zz 2 ?_;have h:((m++[((Ky.mk x.kind [] x.a),x)])++[((Ky.mk x.kind x.r x.a),x)])=m++dd_ x:=by simp[dd_, *]
     exact id_
    refine Zz 9 ?_;refine ap_ (lJ_ x [] x.a m v q g pb kb ab ub ob ib rb sb fb ev lv E hm zK_) rfl rfl zp zt rfl fun⟨d,e⟩=>?_;dsimp only;simp only[List.cons_append];refine Zi 8 (fun K=>?_) fun K=>?_
    ·refine Zz 5 ?_
     have h:(m++[((Ky.mk x.kind [] x.a),x)])=m++dd_ x:=by simp[dd_, *]
     exact ic_
    refine Zz 7 ?_;refine ap_ (lJ_ x [] x.b (m++[((Ky.mk x.kind [] x.a),x)]) v q g pb kb ab ub ob ib rb sb fb ev lv d e zK_) rfl rfl zp zt rfl fun⟨A,C⟩=>?_;dsimp only;simp only[List.cons_append];refine Zz 2 ?_;have h:((m++[((Ky.mk x.kind [] x.a),x)])++[((Ky.mk x.kind [] x.b),x)])=m++dd_ x:=by simp[dd_, *]
    exact id_
   refine Zz 8 ?_;exact ie_
  refine Zz 11 ?_;exact ie_
 refine Zz 11 ?_;exact ie_
structure NewE where
  g:Nat
  pb:Nat
  kb:Nat
  ab:Nat
  ub:Nat
  ob:Nat
  ib:Nat
  rb:Nat
  sb:Nat
  fb:Nat
  lv:Value
  hm:Hp
  hl:Hp
def NewE.ok (ps:List Pc) (y:NewE):Prop:=cW_ Ky.val Pc.cells 174 10 (aM_ ps) y.pb y.hm∧zR 9 1 ag_ y.lv (av_ ps) y.hl
def NewE.own (y:NewE):Hp:=(y.g,.cells #[.map (some y.pb),y.lv,.map (some y.kb),.nilFunc,.map (some y.ab),.map (some y.ub),.map (some y.ob),.map (some y.ib),.map (some y.rb),.map (some y.sb),.map (some y.fb)] 124 (0,0))::(y.kb,.map #[] 0)::(y.ab,.map #[] 0)::(y.ub,.map #[] 0)::(y.ob,.map #[] 0)::(y.ib,.map #[] 0)::(y.rb,.map #[] 0)::(y.sb,.map #[] 0)::(y.fb,.map #[] 0)::(y.hm++y.hl)
theorem fQ_ {p:List Pc} {i:Nat} {x:Pc} (h:p[i]? = some x):uniq [] (List.take (i+1) p)=if x.zf∈uniq [] (List.take i p) then uniq [] (List.take i p) else uniq [] (List.take i p)++[x.zf]:=by
  have d:∀ (l:List Pc) (r:List Pc),uniq l (r++[x])=if x.zf∈uniq l r then uniq l r else uniq l r++[x.zf]:=by
    intro l r
    induction r generalizing l with
    | nil=>rfl
    | cons y r ih=>exact ih _
  rw[List.take_add_one,h,Option.toList_some];exact d _ _
theorem ui_ (l:List Pc) (x:Pc):aM_ (l++[x])=aM_ l++dd_ x:=by simp[aM_]
theorem ps_ (l:List Pc) (x:Pc):av_ (l++[x])=av_ l++av_ [x]:=by simp[av_]
theorem vI_ (x:Pc):(dd_ x).length≤2:=by unfold dd_;(repeat' split)<;>simp
theorem ne_:∀ l:List Pc,(aM_ l).length≤2*l.length
  | []=>by simp[aM_]
  | x::l=>by
    have:=ne_ l;have d:=vI_ x;simp only[aM_,List.flatMap_cons,List.length_append,List.length_cons]at this ⊢;omega
theorem lN_ (l:List Pc):(av_ l).length≤l.length:=by
  simp only[av_,List.length_map];exact List.length_filter_le _ _
theorem qR_ (p:List Pc) (E:Option Addr) (O:Nat) (hp:p.length≤100000000):Tri Tryz.prog 72 #[.slice E (List.length p) O] [] [ah_ E (List.flatMap Pc.cells p)] (fun y:{y:NewE // y.ok (uniq [] p)}=>zp_ y.1.g 0) (fun y=>y.1.own) (fun _=>[]):=by
 refine i_ Tryz.func72 rfl rfl Tryz.ntmps72 rfl fun v_1=>?_;refine Zz 7 ?_;refine aY_ rfl fun A=>aY_ rfl fun J=>aY_ rfl fun H=>aY_ rfl fun G=>aY_ rfl fun F=>aY_ rfl fun I=>aY_ rfl fun K=>aY_ rfl fun M=>aY_ rfl fun L=>e_ (I_ xx_ rfl rfl) rfl ?_
 refine aa_ rfl rfl fun m=>Zz 5 ?_
 refine aY_ rfl fun N=>Zz 12 ?_
 refine M_ (ι:={y:Nat×Array MapEntry×Nat×Hp×Value×Hp // y.1≤List.length p∧SetE Pc.val y.2.1 (uniq [] (List.take y.1 p))∧cW_ Ky.val Pc.cells 174 10 (aM_ (uniq [] (List.take y.1 p))) A y.2.2.2.1∧zR 9 1 ag_ y.2.2.2.2.1 (av_ (uniq [] (List.take y.1 p))) y.2.2.2.2.2}) (fun y=>[(3,zp_ m 0),(4,.map (some N)),(19,.slice E (List.length p) O),(20,.int .i64 (List.length p:Int)),(21,.int .i64 (y.1.1:Int))]) (fun y=>((m,.cells #[.map (some A),y.1.2.2.2.2.1,.map (some J),.nilFunc,.map (some H),.map (some G),.map (some F),.map (some I),.map (some K),.map (some M),.map (some L)] 124 (0,0))::((N,.map y.1.2.1 y.1.2.2.1)::((J,.map #[] 0)::((H,.map #[] 0)::((G,.map #[] 0)::((F,.map #[] 0)::((I,.map #[] 0)::((K,.map #[] 0)::((M,.map #[] 0)::((L,.map #[] 0)::(y.1.2.2.2.1++y.1.2.2.2.2.2)))))))))))) (fun y=>[ah_ E (List.flatMap Pc.cells p)]) (fun y=>List.length p - y.1.1) ⟨((0:Nat),#[],0,[(A,.map #[] 0)],(.slice none 0 0),[]),by simp,by exact SetE.nil,by exact cW_.nil _ _,(ay_.nil 9 1)⟩ zl zp zh ?_;rintro ⟨⟨i,es,cs,Hm,C,Q⟩,hi,hE,hm,e⟩;dsimp only at hi hE hm e ⊢;have a0:=jV_ (List.take i p) [];have hbt:=List.length_take_le i p;simp only[List.length_nil]at a0;have a4:(aM_ (uniq [] (List.take i p))).length≤900000000:=by have:=ne_ (uniq [] (List.take i p));omega
 have a3:(av_ (uniq [] (List.take i p))).length≤900000000:=by have:=lN_ (uniq [] (List.take i p));omega
 refine Zi 2 (fun Y=>?_) fun Y=>?_
 ·refine Zz 13 ?_
  have Z:List.take i p=p:=List.take_of_length_le zs_;rw[Z]at hm e;exact ae_ Tryz.results72 ⟨NewE.mk m A J H G F I K M L C Hm Q,hm,e⟩ rfl (j_ d_ (j_ (c_ d_) (j_ (c_ d_) (j_ (c_ d_) (j_ (c_ d_) (j_ (c_ d_) (j_ (c_ d_) (j_ (c_ d_) (j_ (c_ d_) (z_ (c_ t_) C_)))))))))) zt
 obtain⟨B,P,d,a5⟩:=zge (show i<List.length p by omega);refine Zz 12 ?_;refine G_ P_ rfl fun b_12=>u_ 0 F_ rfl rfl rfl rfl rfl rfl (Zz 5 ?_)
 refine u_ 0 ak_ rfl rfl rfl rfl rfl rfl (Zz 6 ?_);refine B_ (bg_ (k:=Pc.zf P) (q:=(uniq [] (List.take i p))) wi_ jm_ as_ rfl rfl hE (fun v h _=>(h.own _ (List.mem_of_getElem? (i:=2) rfl)).1)) rfl fun a1 x=>e_ (aw_ rfl) rfl (Zz 2 ?_)
 cases a1
 ·replace x:=zdf x
  refine Zz 5 ?_;refine nj_ (k:=Pc.zf P) (q:=(uniq [] (List.take i p))) 2 wi_ (.inr rfl) jm_ rfl rfl rfl rfl hE fun U a2 T=>Zz 5 ?_
  refine g_ (uM_ P.zf (aM_ (uniq [] (List.take i p))) (av_ (uniq [] (List.take i p))) m A J H G F I K M L .nilFunc C Hm Q hm e  a4 a3) rfl (j_ (c_ d_) (z_ (c_ (c_ (c_ (c_ (c_ (c_ (c_ (c_ (c_ (c_ t_)))))))))) (c_ (c_ (c_ (c_ (c_ (c_ (c_ (c_ (c_ C_))))))))))) zt rfl fun⟨⟨X,R,S⟩,W,V⟩=>?_;dsimp only;simp only[List.cons_append,List.append_assoc];refine Zz 2 ?_;refine y_ (R_ d_ (R_ (f_ (f_ d_)) (R_ (f_ (f_ d_)) (R_ (f_ (f_ d_)) (R_ (f_ (f_ d_)) (R_ (f_ (f_ d_)) (R_ (f_ (f_ d_)) (R_ (f_ (f_ d_)) (R_ (f_ (f_ d_)) (R_ (f_ (f_ d_)) (bb_ (f_ aP_)))))))))))) (Zz 5 ?_);exact w_ ⟨(i+1,U,a2,R,X,S),B,by rw[fQ_ d];exact T,by rw[fQ_ d,if_neg zA_,ui_];exact W,(by rw[fQ_ d,if_neg zA_,ps_];exact V)⟩ zt_ zl zp zh
 replace x:=zdt x;refine Zz 8 ?_;exact w_ ⟨(i+1,es,cs,Hm,C,Q),B,by rw[fQ_ d,if_pos zA_];exact hE,by rw[fQ_ d,if_pos zA_];exact hm,(by rw[fQ_ d,if_pos zA_];exact e)⟩ zt_ zl (j_ (c_ d_) (j_ (c_ d_) (j_ (c_ d_) (j_ (c_ d_) (j_ (c_ d_) (j_ (c_ d_) (j_ (c_ d_) (j_ (c_ d_) (j_ (c_ d_) (j_ (c_ d_) (z_ (c_ t_) C_))))))))))) zh
theorem jw_ {P:Program} {N:Nf} {fr:Fr} {H:Hp} {Γ:List Fct} {ty:TypeId} {K:Type} [DecidableEq K] {y:K→Value} {t h e:TypeId} {x:Operand} {d c:Nat} {es:Array MapEntry} {q:List K} (hE:SetE y es q) (k:∀ w,(underlying t).run P w=.ok (.map h e) w) (m:Fr.ev fr x=some (.map (some d))) (hm:∀ v,v.sat H→Z_ Γ v→v.w.heap[d]? = some (.map es c)) :
    Yld P N fr H Γ (.call ⟨.builtin .len,#[x],#[t]⟩) ty (.int .i64 (q.length:Int)):=by
  rw[← hE.size];exact uW_ k m hm
def andF (a b:Fct):Fct where
  p v:=a.p v∧b.p v
  mono:=fun v v' h ⟨h1,h2⟩=>⟨a.mono v v' h h1,b.mono v v' h h2⟩
def StA (b9 kb fb:Nat) (nw fm:List Fc) (H:Hp):Prop:=∃ sv es c es' c' q Hq,H=(b9,.cells #[sv] 26 (0,0))::(kb,.map es c)::([(fb,.map es' c')]++Hq)∧ay_ 36 6 sv nw.length (nw.flatMap Fc.cells) Hq∧SetE Fc.val es nw∧SetE Fc.val es' q∧∀ f,f∈q↔f∈fm
theorem lr_ {G:Prop} (h:G:=by
 have d:bo_ m f nw=nw:=by unfold bo_;rw[if_neg (by rintro ⟨T,E⟩;first|omega|exact absurd zA_ E)]
 exact co_ Tryz.results73 ⟨_,sv,es,c,A,L,q,M,rfl,by rw[d];exact P,by rw[d];exact hE,S,N⟩ rfl zp zt):G:=h
theorem yy_ (f:Fc) (nw fm:List Fc) (m:Nat) (hm:m≤65536) (g V U K kb fb:Nat) (Z X c3 c4 c5 c6 c7 c8 c9 Q sv:Value) (es A:Array MapEntry) (c L:Nat) (q:List Fc) (M:Hp) (P:ay_ 36 6 sv nw.length (nw.flatMap Fc.cells) M) (hE:SetE Fc.val es nw) (S:SetE Fc.val A q) (N:∀ f,f∈q↔f∈fm):Tri Tryz.prog 73 #[Fc.val f,zp_ V 0,zp_ U 0,zp_ K 0] ((K,.cells #[sv] 26 (0,0))::(kb,.map es c)::([(fb,.map A L)]++M)) [bW_ V (.cells #[zp_ g 0] 116 (0,0)),bW_ U (.cells #[.int .i64 (m:Int)] 3 (0,0)),bW_ g (.cells #[Z,X,.map (some kb),c3,c4,c5,c6,c7,c8,c9,Q] 124 (0,0))] (fun _:{H:Hp // StA K kb fb (bo_ m f nw) fm H}=>.tuple #[]) (fun y=>y.1) (fun _=>[]):=by
 refine i_ Tryz.func73 rfl rfl Tryz.ntmps73 rfl fun W=>?_;refine Zz 2 ?_;refine aa_ rfl rfl fun R=>Zz 4 ?_
 refine K_ 8 [0,1,2,3,4,5,6,7] zk zs (Zz 4 ?_);refine N_ rfl (jw_ hE bf_ rfl (fun v h _=>(h.own _ (List.mem_of_getElem? (i:=2) rfl)).1)) rfl (Zi 1 (fun x=>?_) fun x=>?_)
 ·refine Zz 2 ?_
  refine K_ 0 [8,9,10,11,12,13,14,15] zk zs (Zz 14 ?_);exact lr_
 refine Zz 2 ?_;refine K_ 0 [8,9,10,11,12,13,14,15] zk zs (Zz 5 ?_);refine em_ rfl rfl rfl (bg_ (k:=f) kj_ bf_ as_ rfl rfl hE (fun v h _=>(h.own _ (List.mem_of_getElem? (i:=2) rfl)).1)) rfl fun O e=>bu_ rfl rfl rfl (aw_ rfl) rfl (Zz 4 ?_)
 cases O
 ·replace e:=zdf e
  refine Zz 2 ?_;refine af_ ((R,.cells #[.int .i64 f.kind,str f.a,str f.b,str f.r,.int .i64 f.lo,.int .i64 f.hi] 36 (0,0))::((K,.cells #[sv] 26 (0,0))::[])) zk ?_;refine K_ 1 [0,1,2,3,4] zk zs (Zz 6 ?_);refine s_ 5 rfl zk (nj_ (k:=f) 2 kj_ (.inr rfl) bf_ rfl rfl rfl rfl hE fun J F B=>Zz 8 ?_);refine U_ x_ A_ Y_ rfl rfl rfl rfl rfl rfl fun a0=>?_;refine an_ (news:=List.flatMap Fc.cells [f]) eg_ P rfl rfl (c_ (c_ (c_ (c_ aP_)))) rfl (aO_ 0 rfl) (fun u Y=>aA_ Fc.cells_one Y) zE_ zs_ rfl fun I G x=>?_;have C:=zsa x;refine y_ (R_ (f_ d_) (R_ (f_ d_) (R_ (f_ d_) (bb_ (f_ d_))))) (dr_ 2 C ck_ rfl rfl rfl rfl (Zz 2 ?_));have d:bo_ m f nw=nw++[f]:=by unfold bo_;rw[if_pos ⟨by omega,by assumption⟩]
  exact co_ Tryz.results73 ⟨_,I,J,F,A,L,q,G,rfl,by rw[d];exact C,by rw[d];rw[if_neg zA_]at B;exact B,S,N⟩ rfl (j_ (c_ (c_ d_)) (j_ (c_ (c_ d_)) (z_ (c_ (c_ aP_)) (c_ C_)))) zt
 replace e:=zdt e;refine Zz 3 ?_;exact lr_
def EA (m:Nat) (hm:m≤65536) (B:EngB) (b7 b8 b9 kb fb:Nat):Emt Tryz.prog 36 where
 stp:=bo_ m
 kof:=idk
 St:=StA b9 kb fb
 fn:=73
 caps:=[zp_ b7 0,zp_ b8 0,zp_ b9 0]
 ef:=andF (bW_ b7 (.cells #[zp_ B.g 0] 116 (0,0))) (andF (bW_ b8 (.cells #[.int .i64 (m:Int)] 3 (0,0))) (bW_ B.g (.cells #[.map (some B.pb),.slice B.lad B.lps.length B.lcap,.map (some kb),.func (.func 73) #[] #[zp_ b7 0,zp_ b8 0,zp_ b9 0],.map (some B.ab),.map (some B.ub),.map (some B.ob),.map (some B.ib),.map (some B.rb),.map (some B.sb),.map (some fb)] 124 (0,0))))
 kb:=kb
 fb:=fb
 grows:=fH_ m
 emit:=fun f nw fm H hS=>by
   obtain⟨sv,es,c,es2,c2,q,Hq,rfl,h1,h2,h3,h4⟩:=hS;exact ql_ [] (yy_ f nw fm m hm B.g b7 b8 b9 kb fb _ _ _ _ _ _ _ _ _ _ sv es es2 c c2 q Hq h1 h2 h3 h4) (fun v _ h=>⟨h.1.1,h.1.2.1,h.1.2.2,trivial⟩)
 known:=fun hS=>by
   obtain⟨sv,es,c,es2,c2,q,Hq,rfl,h1,h2,h3,h4⟩:=hS;exact⟨es,c,by simp,h2⟩
 firm:=fun hS=>by
   obtain⟨sv,es,c,es2,c2,q,Hq,rfl,h1,h2,h3,h4⟩:=hS;exact⟨es2,c2,q,by simp,h3,h4⟩
 setf:=fun {nw fm H} f hS=>by
   obtain⟨sv,es,c,es2,c2,q,Hq,rfl,h1,h2,h3,h4⟩:=hS;refine⟨es2,c2,q,(b9,.cells #[sv] 26 (0,0))::(kb,.map es c)::Hq,bb_ zp,h3,h4,fun es' c' h5=>⟨(b9,.cells #[sv] 26 (0,0))::(kb,.map es c)::([(fb,.map es' c')]++Hq),⟨sv,es,c,es',c',_,Hq,rfl,h1,h2,h5,?_⟩,bb_ zp⟩⟩;intro z
   split
   · rename_i hz;rw[h4,List.mem_cons];constructor
     · exact .inr
     · rintro (rfl|h)
       · exact (h4 _).1 hz
       · exact h
   · rw[List.mem_append,List.mem_singleton,h4,List.mem_cons,or_comm]
def fvC (v:Value):List Value:=[v]
theorem iX_ (v:Value):(fvC v).length=1:=rfl
theorem tO_ {P:Program} {N:Nf} {fr:Fr} {H:Hp} {Γ:List Fct} {ty:TypeId} {t e:TypeId} {n sz:Nat} {parts:List (Nat×Operand)} {vs:List (Nat×Value)} {z cs:List Value} (k:∀ w,(zeroValue t).run P w=.ok (.agg z.toArray) w) (m:∀ w,(underlying t).run P w=.ok (.array n e) w) (h:∀ w,(sizeOf e).run P w=.ok sz w) (v:Fr.evp fr parts=some vs) (q:lR_ (fun i=>some (i*sz,sz)) z vs=some cs) :
    Yld P N fr H Γ (.build t parts.toArray) ty (.agg cs.toArray) :=
  ol_ (fun a x w=>by
    have:=x.evp v;rw[List.map_toArray,this];have d:=iF_ _ _ _ _ q;simp only[Instr.build,Sem.run_bind,k,Result.andThen_ok,m,h,Value.cells,d,Sem.run_pure])
def rlV (g:Nat) (k:Nat):List Value:=if k=1 then [(Value.func (.func 120) #[zp_ g 0] #[]),(Value.func (.func 121) #[zp_ g 0] #[]),(Value.func (.func 122) #[zp_ g 0] #[]),(Value.func (.func 123) #[zp_ g 0] #[]),(Value.func (.func 124) #[zp_ g 0] #[]),(Value.func (.func 125) #[zp_ g 0] #[])] else if k=2 then [(Value.func (.func 126) #[zp_ g 0] #[]),(Value.func (.func 127) #[zp_ g 0] #[]),(Value.func (.func 128) #[zp_ g 0] #[]),(Value.func (.func 129) #[zp_ g 0] #[])] else [(Value.func (.func 130) #[zp_ g 0] #[]),(Value.func (.func 131) #[zp_ g 0] #[])]
theorem xG_ (g:Nat):Tri Tryz.prog 76 #[zp_ g 0] [] [] (fun y:Nat×Nat×Nat=>.agg #[.slice none 0 0,.slice (some ⟨y.1,0,none⟩) 6 6,.slice (some ⟨y.2.1,0,none⟩) 4 4,.slice (some ⟨y.2.2,0,none⟩) 2 2]) (fun _=>[]) (fun y=>[ah_ (some ⟨y.1,0,none⟩) (List.flatMap fvC (rlV g 1)),ah_ (some ⟨y.2.1,0,none⟩) (List.flatMap fvC (rlV g 2)),ah_ (some ⟨y.2.2,0,none⟩) (List.flatMap fvC (rlV g 3))]):=by
  refine i_ Tryz.func76 rfl rfl Tryz.ntmps76 rfl fun q=>?_;refine Zz 2 ?_;refine G_ Tryz.zeroValue128 rfl fun x=>Zz 5 ?_
  refine e_ (bK_ (us:=[zp_ g 0]) (vs:=[]) rfl rfl) rfl (Zz 1 ?_);refine e_ (bK_ (us:=[zp_ g 0]) (vs:=[]) rfl rfl) rfl (Zz 1 ?_);refine e_ (bK_ (us:=[zp_ g 0]) (vs:=[]) rfl rfl) rfl (Zz 1 ?_);refine e_ (bK_ (us:=[zp_ g 0]) (vs:=[]) rfl rfl) rfl (Zz 1 ?_);refine e_ (bK_ (us:=[zp_ g 0]) (vs:=[]) rfl rfl) rfl (Zz 1 ?_);refine e_ (bK_ (us:=[zp_ g 0]) (vs:=[]) rfl rfl) rfl (U_ aX_ eK_ Tryz.zeroValue120 rfl rfl rfl rfl rfl rfl fun d=>?_);refine cQ_ (List.flatMap fvC [(Value.func (.func 120) #[zp_ g 0] #[]),(Value.func (.func 121) #[zp_ g 0] #[]),(Value.func (.func 122) #[zp_ g 0] #[]),(Value.func (.func 123) #[zp_ g 0] #[]),(Value.func (.func 124) #[zp_ g 0] #[]),(Value.func (.func 125) #[zp_ g 0] #[])]) d_ rfl ?_;refine Zz 1 ?_;refine e_ (bK_ (us:=[zp_ g 0]) (vs:=[]) rfl rfl) rfl (Zz 1 ?_);refine e_ (bK_ (us:=[zp_ g 0]) (vs:=[]) rfl rfl) rfl (Zz 1 ?_);refine e_ (bK_ (us:=[zp_ g 0]) (vs:=[]) rfl rfl) rfl (Zz 1 ?_);refine e_ (bK_ (us:=[zp_ g 0]) (vs:=[]) rfl rfl) rfl (U_ aX_ eK_ Tryz.zeroValue120 rfl rfl rfl rfl rfl rfl fun e=>?_);refine cQ_ (List.flatMap fvC [(Value.func (.func 126) #[zp_ g 0] #[]),(Value.func (.func 127) #[zp_ g 0] #[]),(Value.func (.func 128) #[zp_ g 0] #[]),(Value.func (.func 129) #[zp_ g 0] #[])]) d_ rfl ?_;refine Zz 1 ?_;refine e_ (bK_ (us:=[zp_ g 0]) (vs:=[]) rfl rfl) rfl (Zz 1 ?_);refine e_ (bK_ (us:=[zp_ g 0]) (vs:=[]) rfl rfl) rfl (U_ aX_ eK_ Tryz.zeroValue120 rfl rfl rfl rfl rfl rfl fun h=>?_);refine cQ_ (List.flatMap fvC [(Value.func (.func 130) #[zp_ g 0] #[]),(Value.func (.func 131) #[zp_ g 0] #[])]) d_ rfl ?_;refine e_ (tO_ Tryz.zeroValue128 tZ_ Tryz.sizeOf127 rfl rfl) rfl (u_ 0 Tryz.sizeOf128 rfl rfl rfl rfl rfl rfl (Zz 3 ?_));exact gW_ (d,e,h) (fun A v m k=>ei_ (us:=[.slice none 0 0,.slice (some ⟨d,0,none⟩) (List.length [(Value.func (.func 120) #[zp_ g 0] #[]),(Value.func (.func 121) #[zp_ g 0] #[]),(Value.func (.func 122) #[zp_ g 0] #[]),(Value.func (.func 123) #[zp_ g 0] #[]),(Value.func (.func 124) #[zp_ g 0] #[]),(Value.func (.func 125) #[zp_ g 0] #[])]) 6,.slice (some ⟨e,0,none⟩) (List.length [(Value.func (.func 126) #[zp_ g 0] #[]),(Value.func (.func 127) #[zp_ g 0] #[]),(Value.func (.func 128) #[zp_ g 0] #[]),(Value.func (.func 129) #[zp_ g 0] #[])]) 4,.slice (some ⟨h,0,none⟩) (List.length [(Value.func (.func 130) #[zp_ g 0] #[]),(Value.func (.func 131) #[zp_ g 0] #[])]) 2]) 0 Tryz.results76 Tryz.isAgg128 Tryz.sizeOf128 rfl rfl rfl A v m k) m_ zf
theorem fE_ (B:EngB) (E:Emt Tryz.prog 36) (F:EngA) (Y:List (Ky×Pc)) (x:Ix) (f:Fc) (nw fm:List Fc) (Hs:Hp) (hS:E.St nw fm Hs) (L Q m J Hr T:Hp) (hI:IxO 9 36 B x ⟨L,Q,m,J,Hr,T⟩) {n:FuncId} {args:Array Value} {e:Hp→Prop} (Z:∀ A:EngA,A.p=F.p→Tri Tryz.prog n args Hs [gF B E,pF B Y A,aF B x A,uF B x A,oF B x A,iF B x A,rF B x A,sF B x A,E.ef] (fun _:{H':Hp // e H'}=>.tuple #[]) (fun y=>y.1) (fun _=>[])) :
    Tri Tryz.prog n args ((L++(Q++(m++(J++(Hr++T)))))++Hs) [gF B E,pF B Y F,E.ef] (fun _:{H':Hp // e H'}=>.tuple #[]) (fun y=>(L++(Q++(m++(J++(Hr++T)))))++y.1) (fun _=>[]):=by
  obtain⟨U,W,X,hi,V,hm⟩:=hI;dsimp only at U W X hi V hm;obtain⟨S,K⟩:=U.lent (P:=Tryz.prog) mb_;obtain⟨k,I⟩:=W.lent (P:=Tryz.prog) mb_;obtain⟨C,N⟩:=X.lent (P:=Tryz.prog) dT_;obtain⟨G,R⟩:=hi.lent (P:=Tryz.prog) dT_;obtain⟨M,O⟩:=V.lent (P:=Tryz.prog) dT_;obtain⟨q,H⟩:=hm.lent (P:=Tryz.prog) dT_;refine ql_ _ (Z ⟨F.p,S,k,C,G,M,q⟩ rfl) fun v hB h=>⟨h.1,h.2.1,K v fun p d=>hB p zaa_,I v fun p d=>hB p zaa_,N v fun p d=>hB p zaa_,R v fun p d=>hB p zaa_,O v fun p d=>hB p zaa_,H v fun p d=>hB p zaa_,h.2.2.1,trivial⟩
theorem rl10_c (B:EngB) (E:Emt Tryz.prog 36) (J:EngA) (d:List (Ky×Pc)) (x:Ix) (f:Fc) (nw fm:List Fc) (Hs:Hp) (hS:E.St nw fm Hs) (m v q F Hr C:Hp) (K:IxO 9 36 B x ⟨m,v,q,F,Hr,C⟩) (G:∀ k,(lat d k).length≤1000000000) (H:∀ k,(lat x.above k).length≤1000000000∧(lat x.under k).length≤1000000000) (I:∀ k,(lat x.frm k).length≤1000000000∧(lat x.into k).length≤1000000000∧(lat x.ranges k).length≤1000000000∧(lat x.firms k).length≤1000000000) (M:f.kind=3→-1099511627776≤f.lo∧f.lo≤f.hi∧f.hi≤1099511627776) (L:f.kind=3→∀ y∈lat d (Ky.mk 9 f.r []),-1099511627776≤y.lo∧y.lo≤y.hi∧y.hi≤1099511627776) (hk:f.kind=1):Tri Tryz.prog 120 #[zp_ B.g 0,f.val] ((m++(v++(q++(F++(Hr++C)))))++Hs) [gF B E,pF B d J,E.ef] (fun _:{H':Hp // E.St (rl E.stp E.kof d x f 0 (nw,fm)).1 (rl E.stp E.kof d x f 0 (nw,fm)).2 H'}=>.tuple #[]) (fun y=>(m++(v++(q++(F++(Hr++C)))))++y.1) (fun _=>[]):=by
  refine fE_ B E J d x f nw fm Hs hS m v q F Hr C K fun A N=>?_;have h:=uH_ B E A d x f nw fm Hs hS G H I;have e:rl E.stp E.kof d x f 0 (nw,fm)=_:=if_pos hk;rw[e];exact h
theorem rl11_c (B:EngB) (E:Emt Tryz.prog 36) (J:EngA) (d:List (Ky×Pc)) (x:Ix) (f:Fc) (nw fm:List Fc) (Hs:Hp) (hS:E.St nw fm Hs) (m v q F Hr C:Hp) (K:IxO 9 36 B x ⟨m,v,q,F,Hr,C⟩) (G:∀ k,(lat d k).length≤1000000000) (H:∀ k,(lat x.above k).length≤1000000000∧(lat x.under k).length≤1000000000) (I:∀ k,(lat x.frm k).length≤1000000000∧(lat x.into k).length≤1000000000∧(lat x.ranges k).length≤1000000000∧(lat x.firms k).length≤1000000000) (M:f.kind=3→-1099511627776≤f.lo∧f.lo≤f.hi∧f.hi≤1099511627776) (L:f.kind=3→∀ y∈lat d (Ky.mk 9 f.r []),-1099511627776≤y.lo∧y.lo≤y.hi∧y.hi≤1099511627776) (hk:f.kind=1):Tri Tryz.prog 121 #[zp_ B.g 0,f.val] ((m++(v++(q++(F++(Hr++C)))))++Hs) [gF B E,pF B d J,E.ef] (fun _:{H':Hp // E.St (rl E.stp E.kof d x f 1 (nw,fm)).1 (rl E.stp E.kof d x f 1 (nw,fm)).2 H'}=>.tuple #[]) (fun y=>(m++(v++(q++(F++(Hr++C)))))++y.1) (fun _=>[]):=by
  refine fE_ B E J d x f nw fm Hs hS m v q F Hr C K fun A N=>?_;have h:=both_c B E A d x f nw fm Hs hS G H I;have e:rl E.stp E.kof d x f 1 (nw,fm)=_:=if_pos hk;rw[e];exact h
theorem rl12_c (B:EngB) (E:Emt Tryz.prog 36) (J:EngA) (d:List (Ky×Pc)) (x:Ix) (f:Fc) (nw fm:List Fc) (Hs:Hp) (hS:E.St nw fm Hs) (m v q F Hr C:Hp) (K:IxO 9 36 B x ⟨m,v,q,F,Hr,C⟩) (G:∀ k,(lat d k).length≤1000000000) (H:∀ k,(lat x.above k).length≤1000000000∧(lat x.under k).length≤1000000000) (I:∀ k,(lat x.frm k).length≤1000000000∧(lat x.into k).length≤1000000000∧(lat x.ranges k).length≤1000000000∧(lat x.firms k).length≤1000000000) (M:f.kind=3→-1099511627776≤f.lo∧f.lo≤f.hi∧f.hi≤1099511627776) (L:f.kind=3→∀ y∈lat d (Ky.mk 9 f.r []),-1099511627776≤y.lo∧y.lo≤y.hi∧y.hi≤1099511627776) (hk:f.kind=1):Tri Tryz.prog 122 #[zp_ B.g 0,f.val] ((m++(v++(q++(F++(Hr++C)))))++Hs) [gF B E,pF B d J,E.ef] (fun _:{H':Hp // E.St (rl E.stp E.kof d x f 2 (nw,fm)).1 (rl E.stp E.kof d x f 2 (nw,fm)).2 H'}=>.tuple #[]) (fun y=>(m++(v++(q++(F++(Hr++C)))))++y.1) (fun _=>[]):=by
  refine fE_ B E J d x f nw fm Hs hS m v q F Hr C K fun A N=>?_;have h:=some_c B E A d x f nw fm Hs hS G H I;have e:rl E.stp E.kof d x f 2 (nw,fm)=_:=if_pos hk;rw[e];exact h
theorem rl13_c (B:EngB) (E:Emt Tryz.prog 36) (J:EngA) (d:List (Ky×Pc)) (x:Ix) (f:Fc) (nw fm:List Fc) (Hs:Hp) (hS:E.St nw fm Hs) (m v q F Hr C:Hp) (K:IxO 9 36 B x ⟨m,v,q,F,Hr,C⟩) (G:∀ k,(lat d k).length≤1000000000) (H:∀ k,(lat x.above k).length≤1000000000∧(lat x.under k).length≤1000000000) (I:∀ k,(lat x.frm k).length≤1000000000∧(lat x.into k).length≤1000000000∧(lat x.ranges k).length≤1000000000∧(lat x.firms k).length≤1000000000) (M:f.kind=3→-1099511627776≤f.lo∧f.lo≤f.hi∧f.hi≤1099511627776) (L:f.kind=3→∀ y∈lat d (Ky.mk 9 f.r []),-1099511627776≤y.lo∧y.lo≤y.hi∧y.hi≤1099511627776) (hk:f.kind=1):Tri Tryz.prog 123 #[zp_ B.g 0,f.val] ((m++(v++(q++(F++(Hr++C)))))++Hs) [gF B E,pF B d J,E.ef] (fun _:{H':Hp // E.St (rl E.stp E.kof d x f 3 (nw,fm)).1 (rl E.stp E.kof d x f 3 (nw,fm)).2 H'}=>.tuple #[]) (fun y=>(m++(v++(q++(F++(Hr++C)))))++y.1) (fun _=>[]):=by
  refine fE_ B E J d x f nw fm Hs hS m v q F Hr C K fun A N=>?_;have h:=sD_ B E A d x f nw fm Hs hS G H I;have e:rl E.stp E.kof d x f 3 (nw,fm)=_:=if_pos hk;rw[e];exact h
theorem rl14_c (B:EngB) (E:Emt Tryz.prog 36) (J:EngA) (d:List (Ky×Pc)) (x:Ix) (f:Fc) (nw fm:List Fc) (Hs:Hp) (hS:E.St nw fm Hs) (m v q F Hr C:Hp) (K:IxO 9 36 B x ⟨m,v,q,F,Hr,C⟩) (G:∀ k,(lat d k).length≤1000000000) (H:∀ k,(lat x.above k).length≤1000000000∧(lat x.under k).length≤1000000000) (I:∀ k,(lat x.frm k).length≤1000000000∧(lat x.into k).length≤1000000000∧(lat x.ranges k).length≤1000000000∧(lat x.firms k).length≤1000000000) (M:f.kind=3→-1099511627776≤f.lo∧f.lo≤f.hi∧f.hi≤1099511627776) (L:f.kind=3→∀ y∈lat d (Ky.mk 9 f.r []),-1099511627776≤y.lo∧y.lo≤y.hi∧y.hi≤1099511627776) (hk:f.kind=1):Tri Tryz.prog 124 #[zp_ B.g 0,f.val] ((m++(v++(q++(F++(Hr++C)))))++Hs) [gF B E,pF B d J,E.ef] (fun _:{H':Hp // E.St (rl E.stp E.kof d x f 4 (nw,fm)).1 (rl E.stp E.kof d x f 4 (nw,fm)).2 H'}=>.tuple #[]) (fun y=>(m++(v++(q++(F++(Hr++C)))))++y.1) (fun _=>[]):=by
  refine fE_ B E J d x f nw fm Hs hS m v q F Hr C K fun A N=>?_;have h:=rr_ B E A d x f nw fm Hs hS G H I;have e:rl E.stp E.kof d x f 4 (nw,fm)=_:=if_pos hk;rw[e];exact h
theorem rl15_c (B:EngB) (E:Emt Tryz.prog 36) (J:EngA) (d:List (Ky×Pc)) (x:Ix) (f:Fc) (nw fm:List Fc) (Hs:Hp) (hS:E.St nw fm Hs) (m v q F Hr C:Hp) (K:IxO 9 36 B x ⟨m,v,q,F,Hr,C⟩) (G:∀ k,(lat d k).length≤1000000000) (H:∀ k,(lat x.above k).length≤1000000000∧(lat x.under k).length≤1000000000) (I:∀ k,(lat x.frm k).length≤1000000000∧(lat x.into k).length≤1000000000∧(lat x.ranges k).length≤1000000000∧(lat x.firms k).length≤1000000000) (M:f.kind=3→-1099511627776≤f.lo∧f.lo≤f.hi∧f.hi≤1099511627776) (L:f.kind=3→∀ y∈lat d (Ky.mk 9 f.r []),-1099511627776≤y.lo∧y.lo≤y.hi∧y.hi≤1099511627776) (hk:f.kind=1):Tri Tryz.prog 125 #[zp_ B.g 0,f.val] ((m++(v++(q++(F++(Hr++C)))))++Hs) [gF B E,pF B d J,E.ef] (fun _:{H':Hp // E.St (rl E.stp E.kof d x f 5 (nw,fm)).1 (rl E.stp E.kof d x f 5 (nw,fm)).2 H'}=>.tuple #[]) (fun y=>(m++(v++(q++(F++(Hr++C)))))++y.1) (fun _=>[]):=by
  refine fE_ B E J d x f nw fm Hs hS m v q F Hr C K fun A N=>?_;have h:=xo_ B E A d x f nw fm Hs hS G H I;have e:rl E.stp E.kof d x f 5 (nw,fm)=_:=if_pos hk;rw[e];exact h
theorem rl20_c (B:EngB) (E:Emt Tryz.prog 36) (J:EngA) (d:List (Ky×Pc)) (x:Ix) (f:Fc) (nw fm:List Fc) (Hs:Hp) (hS:E.St nw fm Hs) (m v q F Hr C:Hp) (K:IxO 9 36 B x ⟨m,v,q,F,Hr,C⟩) (G:∀ k,(lat d k).length≤1000000000) (H:∀ k,(lat x.above k).length≤1000000000∧(lat x.under k).length≤1000000000) (I:∀ k,(lat x.frm k).length≤1000000000∧(lat x.into k).length≤1000000000∧(lat x.ranges k).length≤1000000000∧(lat x.firms k).length≤1000000000) (M:f.kind=3→-1099511627776≤f.lo∧f.lo≤f.hi∧f.hi≤1099511627776) (L:f.kind=3→∀ y∈lat d (Ky.mk 9 f.r []),-1099511627776≤y.lo∧y.lo≤y.hi∧y.hi≤1099511627776) (hk:f.kind=2):Tri Tryz.prog 126 #[zp_ B.g 0,f.val] ((m++(v++(q++(F++(Hr++C)))))++Hs) [gF B E,pF B d J,E.ef] (fun _:{H':Hp // E.St (rl E.stp E.kof d x f 0 (nw,fm)).1 (rl E.stp E.kof d x f 0 (nw,fm)).2 H'}=>.tuple #[]) (fun y=>(m++(v++(q++(F++(Hr++C)))))++y.1) (fun _=>[]):=by
  refine fE_ B E J d x f nw fm Hs hS m v q F Hr C K fun A N=>?_;have h:=uB_ B E A d x f nw fm Hs hS G H I;have e:rl E.stp E.kof d x f 0 (nw,fm)=_:=(if_neg zao_).trans (if_pos hk);rw[e];exact h
theorem rl21_c (B:EngB) (E:Emt Tryz.prog 36) (J:EngA) (d:List (Ky×Pc)) (x:Ix) (f:Fc) (nw fm:List Fc) (Hs:Hp) (hS:E.St nw fm Hs) (m v q F Hr C:Hp) (K:IxO 9 36 B x ⟨m,v,q,F,Hr,C⟩) (G:∀ k,(lat d k).length≤1000000000) (H:∀ k,(lat x.above k).length≤1000000000∧(lat x.under k).length≤1000000000) (I:∀ k,(lat x.frm k).length≤1000000000∧(lat x.into k).length≤1000000000∧(lat x.ranges k).length≤1000000000∧(lat x.firms k).length≤1000000000) (M:f.kind=3→-1099511627776≤f.lo∧f.lo≤f.hi∧f.hi≤1099511627776) (L:f.kind=3→∀ y∈lat d (Ky.mk 9 f.r []),-1099511627776≤y.lo∧y.lo≤y.hi∧y.hi≤1099511627776) (hk:f.kind=2):Tri Tryz.prog 127 #[zp_ B.g 0,f.val] ((m++(v++(q++(F++(Hr++C)))))++Hs) [gF B E,pF B d J,E.ef] (fun _:{H':Hp // E.St (rl E.stp E.kof d x f 1 (nw,fm)).1 (rl E.stp E.kof d x f 1 (nw,fm)).2 H'}=>.tuple #[]) (fun y=>(m++(v++(q++(F++(Hr++C)))))++y.1) (fun _=>[]):=by
  refine fE_ B E J d x f nw fm Hs hS m v q F Hr C K fun A N=>?_;have h:=yH_ B E A d x f nw fm Hs hS G H I;have e:rl E.stp E.kof d x f 1 (nw,fm)=_:=(if_neg zao_).trans (if_pos hk);rw[e];exact h
theorem rl22_c (B:EngB) (E:Emt Tryz.prog 36) (J:EngA) (d:List (Ky×Pc)) (x:Ix) (f:Fc) (nw fm:List Fc) (Hs:Hp) (hS:E.St nw fm Hs) (m v q F Hr C:Hp) (K:IxO 9 36 B x ⟨m,v,q,F,Hr,C⟩) (G:∀ k,(lat d k).length≤1000000000) (H:∀ k,(lat x.above k).length≤1000000000∧(lat x.under k).length≤1000000000) (I:∀ k,(lat x.frm k).length≤1000000000∧(lat x.into k).length≤1000000000∧(lat x.ranges k).length≤1000000000∧(lat x.firms k).length≤1000000000) (M:f.kind=3→-1099511627776≤f.lo∧f.lo≤f.hi∧f.hi≤1099511627776) (L:f.kind=3→∀ y∈lat d (Ky.mk 9 f.r []),-1099511627776≤y.lo∧y.lo≤y.hi∧y.hi≤1099511627776) (hk:f.kind=2):Tri Tryz.prog 128 #[zp_ B.g 0,f.val] ((m++(v++(q++(F++(Hr++C)))))++Hs) [gF B E,pF B d J,E.ef] (fun _:{H':Hp // E.St (rl E.stp E.kof d x f 2 (nw,fm)).1 (rl E.stp E.kof d x f 2 (nw,fm)).2 H'}=>.tuple #[]) (fun y=>(m++(v++(q++(F++(Hr++C)))))++y.1) (fun _=>[]):=by
  refine fE_ B E J d x f nw fm Hs hS m v q F Hr C K fun A N=>?_;have h:=sC_ B E A d x f nw fm Hs hS G H I;have e:rl E.stp E.kof d x f 2 (nw,fm)=_:=(if_neg zao_).trans (if_pos hk);rw[e];exact h
theorem rl23_c (B:EngB) (E:Emt Tryz.prog 36) (J:EngA) (d:List (Ky×Pc)) (x:Ix) (f:Fc) (nw fm:List Fc) (Hs:Hp) (hS:E.St nw fm Hs) (m v q F Hr C:Hp) (K:IxO 9 36 B x ⟨m,v,q,F,Hr,C⟩) (G:∀ k,(lat d k).length≤1000000000) (H:∀ k,(lat x.above k).length≤1000000000∧(lat x.under k).length≤1000000000) (I:∀ k,(lat x.frm k).length≤1000000000∧(lat x.into k).length≤1000000000∧(lat x.ranges k).length≤1000000000∧(lat x.firms k).length≤1000000000) (M:f.kind=3→-1099511627776≤f.lo∧f.lo≤f.hi∧f.hi≤1099511627776) (L:f.kind=3→∀ y∈lat d (Ky.mk 9 f.r []),-1099511627776≤y.lo∧y.lo≤y.hi∧y.hi≤1099511627776) (hk:f.kind=2):Tri Tryz.prog 129 #[zp_ B.g 0,f.val] ((m++(v++(q++(F++(Hr++C)))))++Hs) [gF B E,pF B d J,E.ef] (fun _:{H':Hp // E.St (rl E.stp E.kof d x f 3 (nw,fm)).1 (rl E.stp E.kof d x f 3 (nw,fm)).2 H'}=>.tuple #[]) (fun y=>(m++(v++(q++(F++(Hr++C)))))++y.1) (fun _=>[]):=by
  refine fE_ B E J d x f nw fm Hs hS m v q F Hr C K fun A N=>?_;have h:=rq_ B E A d x f nw fm Hs hS G H I;have e:rl E.stp E.kof d x f 3 (nw,fm)=_:=(if_neg zao_).trans (if_pos hk);rw[e];exact h
theorem rl30_c (B:EngB) (E:Emt Tryz.prog 36) (J:EngA) (d:List (Ky×Pc)) (x:Ix) (f:Fc) (nw fm:List Fc) (Hs:Hp) (hS:E.St nw fm Hs) (m v q F Hr C:Hp) (K:IxO 9 36 B x ⟨m,v,q,F,Hr,C⟩) (G:∀ k,(lat d k).length≤1000000000) (H:∀ k,(lat x.above k).length≤1000000000∧(lat x.under k).length≤1000000000) (I:∀ k,(lat x.frm k).length≤1000000000∧(lat x.into k).length≤1000000000∧(lat x.ranges k).length≤1000000000∧(lat x.firms k).length≤1000000000) (M:f.kind=3→-1099511627776≤f.lo∧f.lo≤f.hi∧f.hi≤1099511627776) (L:f.kind=3→∀ y∈lat d (Ky.mk 9 f.r []),-1099511627776≤y.lo∧y.lo≤y.hi∧y.hi≤1099511627776) (hk:f.kind=3):Tri Tryz.prog 130 #[zp_ B.g 0,f.val] ((m++(v++(q++(F++(Hr++C)))))++Hs) [gF B E,pF B d J,E.ef] (fun _:{H':Hp // E.St (rl E.stp E.kof d x f 0 (nw,fm)).1 (rl E.stp E.kof d x f 0 (nw,fm)).2 H'}=>.tuple #[]) (fun y=>(m++(v++(q++(F++(Hr++C)))))++y.1) (fun _=>[]):=by
  refine fE_ B E J d x f nw fm Hs hS m v q F Hr C K fun A N=>?_;have h:=meet_c B E A d x f nw fm Hs hS G H I;have e:rl E.stp E.kof d x f 0 (nw,fm)=_:=(if_neg zao_).trans (if_neg zao_);rw[e];exact h
theorem rl31_c (B:EngB) (E:Emt Tryz.prog 36) (J:EngA) (d:List (Ky×Pc)) (x:Ix) (f:Fc) (nw fm:List Fc) (Hs:Hp) (hS:E.St nw fm Hs) (m v q F Hr C:Hp) (L:IxO 9 36 B x ⟨m,v,q,F,Hr,C⟩) (G:∀ k,(lat d k).length≤1000000000) (H:∀ k,(lat x.above k).length≤1000000000∧(lat x.under k).length≤1000000000) (I:∀ k,(lat x.frm k).length≤1000000000∧(lat x.into k).length≤1000000000∧(lat x.ranges k).length≤1000000000∧(lat x.firms k).length≤1000000000) (M:f.kind=3→-1099511627776≤f.lo∧f.lo≤f.hi∧f.hi≤1099511627776) (K:f.kind=3→∀ y∈lat d (Ky.mk 9 f.r []),-1099511627776≤y.lo∧y.lo≤y.hi∧y.hi≤1099511627776) (hk:f.kind=3):Tri Tryz.prog 131 #[zp_ B.g 0,f.val] ((m++(v++(q++(F++(Hr++C)))))++Hs) [gF B E,pF B d J,E.ef] (fun _:{H':Hp // E.St (rl E.stp E.kof d x f 1 (nw,fm)).1 (rl E.stp E.kof d x f 1 (nw,fm)).2 H'}=>.tuple #[]) (fun y=>(m++(v++(q++(F++(Hr++C)))))++y.1) (fun _=>[]):=by
  refine fE_ B E J d x f nw fm Hs hS m v q F Hr C L fun A N=>?_;have h:=out_c B E A d x f nw fm Hs hS G H I (M hk) (K hk);have e:rl E.stp E.kof d x f 1 (nw,fm)=_:=(if_neg zao_).trans (if_neg zao_);rw[e];exact h
section
variable {N:Nf} {v0:Vw} {H0:Hp} {fr:Fr}
theorem nn_ {k:Act→World→Prop} {F:Hp}:∀ (B:Hp) {H:Hp} {Γ:List Fct},H.Perm (B++F)→Ok N v0 H0 k fr F (B.reverse.map (fun p=>bW_ p.1 p.2)++Γ)→Ok N v0 H0 k fr H Γ
  | [],H,Γ,hH,h=>y_ hH h
  | (b,o)::B,H,Γ,hH,h=>by
    refine eO_ (bW_ b o) (F:=B++F) hH (fun _ d e _=>⟨d,e⟩) ?_;refine nn_ B (.refl _) ?_;simpa using h
end
end Go.Proofs.YtpbnmnfdgckaiaaGreatDoor
namespace Go.Proofs.YtpbnmnfdgckaiaaGreatDoor
open Go Go.Sx Go.Proofs
attribute [local irreducible] Code.wp wpList wpAnyH
open Go.Vs
theorem uE_ {P:Program} (w:World) (d:Nat) (t e:TypeId) (a:Option Addr) (l c:Nat) (h:P.underlying t=some (.slice e)):(Op.equalIn (d+1) t (.slice a l c) (.slice none 0 0)).run P w=.ok a.isNone w:=by
  cases a<;>simp[Op.equalIn,run_underlying h]
theorem ty_ {P:Program} (w:World) (t e:TypeId) (a:Option Addr) (l c:Nat) (h:P.underlying t=some (.slice e)):(Op.equal t (.slice a l c) (.slice none 0 0)).run P w=.ok a.isNone w:=uE_ w 9999 t e a l c h
theorem mD_ {P:Program} {N:Nf} {fr:Fr} {H:Hp} {Γ:List Fct} {ty t k e:TypeId} {x y:Operand} {ad:Option Addr} {m c:Nat} (q:P.underlying t=some (.slice e)) (A:Fr.ev fr x=some (.slice ad m c)) (B:Fr.ev fr y=some (.slice none 0 0)):Yld P N fr H Γ (.binOp .eql t x y k) ty (.bool (decide (ad=none))) :=
  fun a v d _ _ _ _ _=>by
    have h:decide (ad=none)=ad.isNone:=by cases ad<;>simp
    simp[execOp,d.ev A,d.ev B,eqGuard,binOp,ty_ v.w t e ad m c q,h]
theorem qw_ {v:Vw} {cs:List Value} (h:bx_ v none cs):cs=[]:=by
 rcases h with h|⟨b,off,e,T,fz,d,_⟩
 ·exact h
 cases d
theorem qq_ (b:Nat) (e:TypeId) (sz:Nat):ay_ e sz (.slice (some ⟨b,0,none⟩) 0 0) 0 [] [(b,.cells #[] e (0,0))]:=⟨by simp,.inr ⟨b,0,#[],rfl,rfl,Nat.le_refl _,by simp[maxLen],by simp,by simp⟩⟩
theorem nR_ (l:List Str) (ad:Option Addr) (cap:Nat) (C:l.length≤cap) (hl:l.length≤1000000000):Tri Tryz.prog 115 #[.slice ad (List.length l) cap] [] [ah_ ad (List.flatMap ag_ l)] (fun y:{y:Value×Hp // zR 9 1 ag_ y.1 l y.2}=>y.1.1) (fun y=>y.1.2) (fun _=>[]):=by
 refine i_ Tryz.func115 rfl rfl Tryz.ntmps115 rfl fun E=>?_;refine Zz 9 ?_;refine B_ (mD_ il_ rfl rfl) rfl fun A d=>Zz 2 ?_
 cases A
 ·replace d:=zdf d
  refine Zz 5 ?_;refine oD_ l_ E_ rfl fun B=>y_ d_ (Zz 1 ?_)
  refine fx_ (news:=List.flatMap ag_ l) cE_ (qq_ B 9 1) rfl rfl (fun q=>absurd q d) C ac_ (by rw[dv_ ag_ 1 aq_]) zf (fun u G=>aA_ cj_ G) zE_ zs_ rfl fun k e d=>?_;refine y_ List.perm_append_comm ?_;have x:ay_ 9 1 k (List.length (([]:List Str)++l)) (List.flatMap ag_ (([]:List Str)++l)) e:=by rw[List.length_append,List.flatMap_append];exact d
  refine Zz 4 ?_;exact ae_ Tryz.results115 ⟨(k,e),by simpa using x⟩ rfl ac_ zt
 replace d:=zdt d;refine Zz 7 ?_;refine vS_ (p:=List.flatMap ag_ l=[]) (fun v _ h=>by have q:=h.1;subst d;exact qw_ q) fun F=>?_;have m:l=[]:=List.eq_nil_of_length_eq_zero (by have:=congrArg List.length F;rwa [dv_ ag_ 1 aq_,Nat.mul_one]at this);exact ae_ Tryz.results115 ⟨(.slice none 0 0,[]),by subst m;exact ay_.nil _ _⟩ rfl m_ zt
def atS (p:List Pc):List Str:=Lib.compact ((ev_ p++[[42],[33]]).mergeSort fun x y=>decide (x≤y))
theorem tH_ (p:List Pc):(atS p).length≤3*p.length+2:=by
  have:=gD_ ((ev_ p++[[42],[33]]).mergeSort fun x y=>decide (x≤y));have d:=fq_ p;rw[List.length_mergeSort,List.length_append]at this;simp only[List.length_cons,List.length_nil]at this;unfold atS;omega
theorem nV_ (p:List Pc):(atS p).Pairwise fun x y=>x<y:=hJ_ (fY_ _)
theorem hN_ (p:List Pc) (x:Str):x∈atS p↔x∈ev_ p∨x=[42]∨x=[33]:=by
  unfold atS;rw[iJ_,List.mem_mergeSort,List.mem_append];simp
theorem atS_c (p:List Pc) (m:Option Addr) (k:Nat) (U:p.length≤100000000):Tri Tryz.prog 74 #[.slice m (List.length p) k] [] [ah_ m (List.flatMap Pc.cells p)] (fun y:{y:Option Addr×Nat // (atS p).length≤y.2∧y.2≤maxLen∧(y.1=none→y.2=0)}=>.slice y.1.1 (atS p).length y.1.2) (fun _=>[]) (fun y=>[ah_ y.1.1 ((atS p).flatMap ag_)]):=by
  refine i_ Tryz.func74 rfl rfl Tryz.ntmps74 rfl fun O=>?_;refine Zz 8 ?_;refine g_ (yP_ p m k zs_) rfl m_ zf rfl fun⟨⟨aad,acap⟩,J,S⟩=>?_;dsimp only;refine g_ (nR_ (ev_ p) aad acap J (by have:=fq_ p;omega)) rfl m_ zf rfl fun⟨⟨T,P⟩,L⟩=>?_;dsimp only;refine y_ dS_ (U_ l_ E_ ax_ rfl rfl rfl rfl rfl rfl fun R=>?_);refine an_ (news:=List.flatMap ag_ [[42],[33]]) cE_ L rfl rfl C_ rfl (aO_ 0 rfl) (fun u Q=>aA_ cj_ Q) (by simp only[maxLen];(have:=fq_ p;(try simp only[List.length_append,List.length_cons,List.length_nil]);omega)) zav_ rfl fun G M H=>?_;refine y_ List.perm_append_comm ?_;have E:=zsa H;refine Zz 6 ?_;refine g_ (mo_ E zav_) rfl C_ zt rfl fun⟨v,C⟩=>?_;dsimp only;have q:ay_ 9 1 G (List.length ((((ev_ p)++[[42],[33]])).mergeSort fun x y=>decide (x≤y))) (List.flatMap ag_ ((((ev_ p)++[[42],[33]])).mergeSort fun x y=>decide (x≤y))) v:=by rw[List.length_mergeSort];exact C
  refine Zz 2 ?_;refine y_ (bb_ aP_) (Zz 3 ?_);refine g_ (jM_ q (by rw[List.length_mergeSort];(have:=fq_ p;(try simp only[List.length_append,List.length_cons,List.length_nil]);omega))) rfl C_ zt rfl fun⟨⟨K,N⟩,F⟩=>?_;dsimp only;refine Zz 4 ?_;refine bl_ F t_ fun B I A d e h=>?_;exact ae_ Tryz.results74 ⟨(B,I),d,e,h⟩ (fM_ rfl A) m_ zf
end Go.Proofs.YtpbnmnfdgckaiaaGreatDoor
namespace Go.Proofs
open Go.Shelf
def Tryz.sortFc_ren:Go.Shelf.Ren:=⟨fun|6=>78|15=>133|14=>132|28=>172|29=>173|20=>164|21=>165|22=>166|23=>167|24=>168|25=>169|26=>170|27=>171|46=>196|47=>197|48=>198|49=>199|50=>200|57=>220|n=>n,fun|22=>26|24=>36|25=>131|3=>3|39=>44|0=>0|53=>219|55=>221|4=>4|46=>213|45=>212|50=>157|5=>5|9=>9|66=>237|70=>150|76=>261|77=>262|n=>n,fun|n=>n⟩
theorem Tryz.sortFc:Go.Proofs.SlLaysF0.n6 Tryz.prog Tryz.sortFc_ren:={
  mixed:=by kernel_rfl
  f6:=⟨Tryz.f78.name,by decide,Tryz.func78.trans (congrArg some zv_)⟩
  f14:=⟨Tryz.f132.name,by decide,Tryz.func132.trans (congrArg some zv_)⟩
  f15:=Tryz.func133.trans (congrArg some zv_)
  f20:=⟨Tryz.f164.name,by decide,Tryz.func164.trans (congrArg some zv_)⟩
  f21:=⟨Tryz.f165.name,by decide,Tryz.func165.trans (congrArg some zv_)⟩
  f22:=⟨Tryz.f166.name,by decide,Tryz.func166.trans (congrArg some zv_)⟩
  f23:=⟨Tryz.f167.name,by decide,Tryz.func167.trans (congrArg some zv_)⟩
  f24:=⟨Tryz.f168.name,by decide,Tryz.func168.trans (congrArg some zv_)⟩
  f25:=⟨Tryz.f169.name,by decide,Tryz.func169.trans (congrArg some zv_)⟩
  f26:=⟨Tryz.f170.name,by decide,Tryz.func170.trans (congrArg some zv_)⟩
  f27:=⟨Tryz.f171.name,by decide,Tryz.func171.trans (congrArg some zv_)⟩
  f28:=Tryz.func172.trans (congrArg some zv_)
  f29:=Tryz.func173.trans (congrArg some zv_)
  f46:=⟨Tryz.f196.name,by decide,Tryz.func196.trans (congrArg some zv_)⟩
  f47:=Tryz.func197.trans (congrArg some zv_)
  f48:=Tryz.func198.trans (congrArg some zv_)
  f49:=⟨Tryz.f199.name,by decide,Tryz.func199.trans (congrArg some zv_)⟩
  f50:=⟨Tryz.f200.name,by decide,Tryz.func200.trans (congrArg some zv_)⟩
  f57:=⟨Tryz.f220.name,by decide,Tryz.func220.trans (congrArg some zv_)⟩
  t0:=Tryz.underlying0
  a0:=Tryz.isAgg0
  z0:=Tryz.sizeOf0
  v0:=Tryz.zeroValue0
  t3:=Tryz.underlying3
  a3:=Tryz.isAgg3
  z3:=Tryz.sizeOf3
  v3:=Tryz.zeroValue3
  t4:=Tryz.underlying4
  a4:=Tryz.isAgg4
  z4:=Tryz.sizeOf4
  v4:=Tryz.zeroValue4
  t5:=Tryz.underlying5
  a5:=Tryz.isAgg5
  z5:=Tryz.sizeOf5
  v5:=Tryz.zeroValue5
  t9:=Tryz.underlying9
  a9:=Tryz.isAgg9
  z9:=Tryz.sizeOf9
  v9:=Tryz.zeroValue9
  t22:=Tryz.underlying26
  a22:=Tryz.isAgg26
  z22:=Tryz.sizeOf26
  v22:=Tryz.zeroValue26
  t25:=Tryz.underlying131
  a25:=Tryz.isAgg131
  z25:=Tryz.sizeOf131
  v25:=Tryz.zeroValue131
  t39:=Tryz.underlying44
  a39:=Tryz.isAgg44
  z39:=Tryz.sizeOf44
  v39:=Tryz.zeroValue44
  t45:=Tryz.underlying212
  a45:=Tryz.isAgg212
  z45:=Tryz.sizeOf212
  v45:=Tryz.zeroValue212
  t46:=Tryz.underlying213
  a46:=Tryz.isAgg213
  z46:=Tryz.sizeOf213
  v46:=Tryz.zeroValue213
  t50:=Tryz.underlying157
  a50:=Tryz.isAgg157
  z50:=Tryz.sizeOf157
  v50:=Tryz.zeroValue157
  t53:=Tryz.underlying219
  a53:=Tryz.isAgg219
  z53:=Tryz.sizeOf219
  v53:=Tryz.zeroValue219
  t55:=Tryz.underlying221
  a55:=Tryz.isAgg221
  z55:=Tryz.sizeOf221
  v55:=Tryz.zeroValue221
  t66:=Tryz.underlying237
  a66:=Tryz.isAgg237
  z66:=Tryz.sizeOf237
  v66:=Tryz.zeroValue237
  t70:=Tryz.underlying150
  a70:=Tryz.isAgg150
  z70:=Tryz.sizeOf150
  v70:=Tryz.zeroValue150
  t76:=Tryz.underlying261
  a76:=Tryz.isAgg261
  z76:=Tryz.sizeOf261
  v76:=Tryz.zeroValue261
  t77:=Tryz.underlying262
  a77:=Tryz.isAgg262
  z77:=Tryz.sizeOf262
  v77:=Tryz.zeroValue262 }
end Go.Proofs
namespace Go.Sx
open Go
section
variable {K:Type} [DecidableEq K] {kv:K→Value}
structure KeyE (kv:K→Value) (es:Array MapEntry) (q:List K):Prop where
  keys:es.toList.map (·.key)=q.map kv
  nd:q.Nodup
theorem KeyE.nil:KeyE kv #[] ([]:List K):=⟨rfl,List.nodup_nil⟩
theorem SetE.ke {es:Array MapEntry} {q:List K} (h:SetE kv es q):KeyE kv es q:=⟨h.keys,h.nd⟩
theorem KeyE.ofKey {es:Array MapEntry} {q:List K} (hE:KeyE kv es q) {e:MapEntry} (d:e∈es.toList):∃ k∈q,e.key=kv k:=by
  have:e.key∈es.toList.map (·.key):=List.mem_map_of_mem d;rw[hE.keys]at this;obtain⟨k,hk,h⟩:=List.mem_map.1 this;exact⟨k,hk,h.symm⟩
theorem KeyE.entry {es:Array MapEntry} {q:List K} (hE:KeyE kv es q) (hi:∀ x y,kv x=kv y→x=y) {x e:MapEntry} (C:x∈es.toList) (E:e∈es.toList) (h:x.key=e.key):x=e:=by
 obtain⟨i,m,k⟩:=List.getElem_of_mem C;obtain⟨j,A,d⟩:=List.getElem_of_mem E
 have v:(es.toList.map (·.key)).Nodup:=by
   rw[hE.keys];unfold List.Nodup;rw[List.pairwise_map];exact List.Pairwise.imp (fun {a b} hab e=>hab (hi _ _ e)) hE.nd
 have B:i=j:=by
   rcases Nat.lt_trichotomy i j with g|g|g
   · exact ((List.pairwise_iff_getElem.1 v i j (by simpa using m) zaQ_ g) (by simp only[List.getElem_map,k,d,h])).elim
   · exact g
   · exact ((List.pairwise_iff_getElem.1 v j i zaQ_ (by simpa using m) g) (by simp only[List.getElem_map,k,d,h])).elim
 subst B;rw[← k,← d]
theorem ItS.stepK {es:Array MapEntry} {q:List K} {c:Nat} {v:Array Nat} {done:List K} {e:MapEntry} (hi:∀ x y,kv x=kv y→x=y) (hE:KeyE kv es q) (hB:Born es c) (h:ItS kv es v done) (L:e∈(leftOf es v).toList) :
    ∃ k,k∈q∧k ∉ done∧e.key=kv k∧e∈es.toList∧ItS kv es (v.push e.born) (done++[k]):=by
  unfold leftOf at L;rw[Array.toList_filter,List.mem_filter]at L;obtain⟨E,N⟩:=L;obtain⟨k,hk,m⟩:=hE.ofKey E
  have G:k ∉ done:=fun hm=>by
    have:=(h.mem e E).2 ⟨k,hm,m⟩;rw[this]at N;simp at N
  have same:∀ x∈es.toList,x.born=e.born→x=e:=fun x I J=>by
    have O:=hB.nd;obtain⟨i,H,B⟩:=List.getElem_of_mem I;obtain⟨j,F,C⟩:=List.getElem_of_mem E
    have M:i=j:=by
      rcases Nat.lt_trichotomy i j with g|g|g
      · exact ((List.pairwise_iff_getElem.1 O i j (by simpa using H) (by simpa using F) g) (by simp only[List.getElem_map,B,C,J])).elim
      · exact g
      · exact ((List.pairwise_iff_getElem.1 O j i (by simpa using F) (by simpa using H) g) (by simp only[List.getElem_map,B,C,J])).elim
    subst M;rw[← B,← C]
  refine⟨k,hk,G,m,E,⟨?_,fun x I=>?_,fun y d=>?_⟩⟩
  · rw[List.nodup_append];exact⟨h.nd,by simp,fun a P b J e=>by simp at J;subst J;subst e;exact G P⟩
  · rw[Array.contains_push,Bool.or_eq_true,h.mem x I,beq_iff_eq]
    constructor
    · rintro (⟨y,d,A⟩|Q)
      · exact⟨y,by simp[d],A⟩
      · have:=same x I Q
        exact⟨k,by simp,this▸m⟩
    · rintro ⟨y,d,A⟩
      rcases List.mem_append.1 d with d|d
      · exact .inl ⟨y,d,A⟩
      · rw[List.mem_singleton]at d
        subst d;exact .inr (congrArg MapEntry.born (hE.entry hi I E (A.trans m.symm)))
  · rcases List.mem_append.1 d with d|d
    · exact h.sub y d
    · rw[List.mem_singleton]at d
      subst d;exact⟨e,E,m⟩
theorem ItS.endK {es:Array MapEntry} {q:List K} {d:Array Nat} {done:List K} (hi:∀ x y,kv x=kv y→x=y) (hE:KeyE kv es q) (h:ItS kv es d done) (G:(leftOf es d).size=0):done.Perm q:=by
 refine (List.perm_ext_iff_of_nodup h.nd hE.nd).2 fun k=>⟨fun hk=>?_,fun hk=>?_⟩
 ·obtain⟨e,B,v⟩:=h.sub k hk
  obtain⟨E,A,m⟩:=hE.ofKey B;exact hi _ _ (v.symm.trans m)▸A
 have:kv k∈es.toList.map (·.key):=by rw[hE.keys];exact List.mem_map_of_mem hk
 obtain⟨e,B,v⟩:=List.mem_map.1 this
 have C:d.contains e.born=true:=by
   cases hc:d.contains e.born
   · exfalso
     have:e∈(leftOf es d).toList:=by unfold leftOf;rw[Array.toList_filter,List.mem_filter];exact⟨B,by simp only[hc];rfl⟩
     have F:=List.length_pos_of_mem this;simp only[Array.length_toList]at F;omega
   · rfl
 obtain⟨E,A,m⟩:=(h.mem e B).1 C;exact hi _ _ (v.symm.trans m)▸A
end
end Go.Sx
namespace Go.Vs
open Go Go.Sx
structure Thg where
  kind:Int
  name:Str
deriving DecidableEq
def Thg.cells (t:Thg):List Value:=[.int .i64 t.kind,str t.name]
theorem Thg.cells_len (t:Thg):t.cells.length=2:=rfl
def Thg.val (t:Thg):Value:=.agg t.cells.toArray
def cH_ (x:Pc):List Thg :=
  if x.kind=1∨x.kind=3∨x.kind=8 then [⟨1,x.a⟩]
  else if x.kind=2 then [⟨1,x.a⟩,⟨1,x.b⟩]
  else if x.kind=4 then [⟨2,x.r⟩,⟨1,x.a⟩]
  else if x.kind=5 then [⟨2,x.r⟩]
  else if x.kind=6 then [⟨2,x.r⟩,⟨2,x.s⟩]
  else if x.kind=9 then [⟨3,x.r⟩] else []
def bN_ (x:Pc):List Thg :=
  if x.kind=1∨x.kind=2∨x.kind=4∨x.kind=9 then [⟨1,x.c⟩]
  else if x.kind=3 then [⟨2,x.r⟩,⟨1,x.c⟩]
  else if x.kind=5∨x.kind=6 then [⟨2,x.t⟩]
  else if x.kind=7 then [⟨2,x.r⟩]
  else if x.kind=8 then [⟨3,x.r⟩] else []
def nT_ (S:List Str):List Thg:=[⟨1,[42]⟩,⟨1,[33]⟩]++S.map (fun s=>⟨1,s⟩)
inductive Rch (p:List Pc) (S:List Str):Thg→Prop
  | base {t:Thg} (h:t∈nT_ S):Rch p S t
  | give {x:Pc} {t:Thg} (hx:x∈p) (hn:∀ u∈cH_ x,Rch p S u) (ht:t∈bN_ x):Rch p S t
def Usb (p:List Pc) (S:List Str) (x:Pc):Prop:=∀ u∈cH_ x,Rch p S u
def gi_ (K:List Thg):List Thg→List Thg
  | []=>[]
  | t::l=>if t∈K then gi_ K l else t::gi_ (K++[t]) l
theorem iG_:∀ (l K:List Thg) (t:Thg),t∈K++gi_ K l↔t∈K∨t∈l
 | [],K,t=>by simp[gi_]
 | u::l,K,t=>by
   rw[gi_]
   by_cases h:u∈K
   · rw[if_pos h,iG_ l K t]
     constructor
     · rintro (q|q)
       · exact .inl q
       · exact .inr (List.mem_cons_of_mem _ q)
     · rintro (q|q)
       · exact .inl q
       · rcases List.mem_cons.1 q with rfl|q
         · exact .inl h
         · exact .inr q
   · rw[if_neg h,show K++u::gi_ (K++[u]) l=(K++[u])++gi_ (K++[u]) l by simp,iG_ l (K++[u]) t]
     simp only[List.mem_append,List.mem_cons,List.not_mem_nil,or_false,or_assoc]
theorem gh_:∀ (l K:List Thg),K.Nodup→(K++gi_ K l).Nodup
 | [],K,h=>by simpa [gi_] using h
 | u::l,K,h=>by
   rw[gi_]
   by_cases d:u∈K
   · rw[if_pos d];exact gh_ l K h
   · rw[if_neg d,show K++u::gi_ (K++[u]) l=(K++[u])++gi_ (K++[u]) l by simp]
     refine gh_ l (K++[u]) ?_;rw[List.nodup_append];exact⟨h,by simp,fun a m b k e=>by simp at k;subst k;subst e;exact d m⟩
theorem rn_ {K l:List Thg} (h:K.Nodup) {t:Thg} (d:t∈gi_ K l):t ∉ K:=fun hk=>by
  have:=gh_ l K h;rw[List.nodup_append]at this;exact this.2.2 t hk t d rfl
def pnd (K W:List Thg) (t:Thg):Bool:=decide (t ∉ K)||decide (t∈W)
theorem xU_ {K W l:List Thg} (h:K.Nodup) (t:Thg):pnd (K++gi_ K l) (W++gi_ K l) t=pnd K W t:=by
 unfold pnd;rw[Bool.eq_iff_iff];simp only[Bool.or_eq_true,decide_eq_true_eq,List.mem_append];constructor
 ·rintro (q|q|q)
  ·exact .inl fun z=>q (.inl z)
  ·exact .inr q
  exact .inl (rn_ h q)
 rintro (q|q)
 ·by_cases z:t∈gi_ K l
  ·exact .inr (.inr z)
  exact .inl fun w=>w.elim q z
 exact .inr (.inl q)
def eE_ (K W:List Thg) (x:Pc):Nat:=(cH_ x).countP (pnd K W)
theorem kW_ {K W l:List Thg} (h:K.Nodup) (x:Pc):eE_ (K++gi_ K l) (W++gi_ K l) x=eE_ K W x:=by
  unfold eE_
  congr 1
  funext t
  exact xU_ h t
structure KW (p:List Pc) (S:List Str) (K W:List Thg):Prop where
  snd:∀ t∈K,Rch p S t
  kn:K.Nodup
  sub:∀ t∈W,t∈K
  wn:W.Nodup
theorem KW.ext {p:List Pc} {S:List Str} {K W l:List Thg} (h:KW p S K W) (hl:∀ t∈l,Rch p S t):KW p S (K++gi_ K l) (W++gi_ K l) where
  snd t ht:=((iG_ l K t).1 ht).elim (h.snd t) (hl t)
  kn:=gh_ l K h.kn
  sub t ht:=(List.mem_append.1 ht).elim (fun q=>List.mem_append_left _ (h.sub t q)) (fun q=>List.mem_append_right _ q)
  wn:=by
    have d:=gh_ l K h.kn;rw[List.nodup_append]at d ⊢;exact⟨h.wn,d.2.1,fun a e b k=>d.2.2 a (h.sub a e) b k⟩
structure RK (p:List Pc) (S:List Str) (i:Nat) (K:List Thg) (U:List Bool):Prop where
  kw:KW p S K K
  bas:∀ t∈nT_ S,t∈K
  ul:U.length=p.length
  use:∀ (j:Nat) x,p[j]? = some x→U[j]? = some (decide (j<i)&&decide (cH_ x=[]))
  giv:∀ (j:Nat) x,p[j]? = some x→j<i→cH_ x=[]→∀ t∈bN_ x,t∈K
structure RI (p:List Pc) (S:List Str) (K W:List Thg) (U:List Bool) (wl:List Int):Prop where
  kw:KW p S K W
  bas:∀ t∈nT_ S,t∈K
  ul:U.length=p.length
  wll:wl.length=p.length
  cnt:∀ (i:Nat) x,p[i]? = some x→wl[i]? = some (eE_ K W x:Int)
  use:∀ (i:Nat) x,p[i]? = some x→U[i]? = some (decide (eE_ K W x=0))
  giv:∀ (i:Nat) x,p[i]? = some x→eE_ K W x=0→∀ t∈bN_ x,t∈K
theorem kX_ (K:List Thg) (x:Pc):eE_ K K x=(cH_ x).length:=by
  unfold eE_;rw[List.countP_eq_length];intro t _;unfold pnd
  by_cases h:t∈K<;>simp[h]
theorem RK.init {p:List Pc} {S:List Str} {K:List Thg} (e:KW p S K K) (d:∀ t∈nT_ S,t∈K):RK p S 0 K (List.replicate p.length false) where
  kw:=e
  bas:=d
  ul:=by simp
  use j x hj:=by
    have:=(List.getElem?_eq_some_iff.1 hj).1;rw[List.getElem?_replicate,if_pos this];simp
  giv j x _ h:=absurd h (Nat.not_lt_zero _)
theorem RK.skip {p:List Pc} {S:List Str} {i:Nat} {K:List Thg} {U:List Bool} {x:Pc} (h:RK p S i K U) (d:p[i]? = some x) (k:cH_ x≠[]):RK p S (i+1) K U where
 kw:=h.kw
 bas:=h.bas
 ul:=h.ul
 use j y hj:=by
   rw[h.use j y hj]
   by_cases e:j=i
   · subst e
     rw[d,Option.some.injEq]at hj;subst hj;simp[k]
   · congr 2
     rw[decide_eq_decide];omega
 giv j y hj hlt he:=by
   by_cases e:j=i
   · subst e
     rw[d,Option.some.injEq]at hj;subst hj;exact absurd he k
   · exact h.giv j y hj zs_ he
theorem mp_ {α:Type} {l:List α} {i:Nat} {v:α} (h:i<l.length) (j:Nat):(l.set i v)[j]? = if j=i then some v else l[j]? := by
 rw[List.getElem?_set]
 by_cases e:i=j
 ·subst e;rw[if_pos rfl,if_pos rfl,if_pos h]
 rw[if_neg e,if_neg (fun q=>e q.symm)]
theorem RK.take {p:List Pc} {S:List Str} {i:Nat} {K:List Thg} {U:List Bool} {x:Pc} (h:RK p S i K U) (m:p[i]? = some x) (q:cH_ x=[]):RK p S (i+1) (K++gi_ K (bN_ x)) (U.set i true) where
 kw:=h.kw.ext fun t d=>.give (List.mem_of_getElem? m) (by rw[q];simp) d
 bas t d:=List.mem_append_left _ (h.bas t d)
 ul:=by rw[List.length_set];exact h.ul
 use j y hj:=by
   have k:=(List.getElem?_eq_some_iff.1 m).1;rw[mp_ (by rw[h.ul];exact k)]
   by_cases e:j=i
   · subst e
     rw[m,Option.some.injEq]at hj;subst hj;simp[q]
   · rw[if_neg e,h.use j y hj]
     congr 2
     rw[decide_eq_decide];omega
 giv j y hj k he t d:=by
   by_cases e:j=i
   · subst e
     rw[m,Option.some.injEq]at hj;subst hj;exact (iG_ _ _ _).2 (.inr d)
   · exact List.mem_append_left _ (h.giv j y hj zs_ he t d)
theorem RK.done {p:List Pc} {S:List Str} {K:List Thg} {U:List Bool} (h:RK p S p.length K U):RI p S K K U (p.map fun x=>((cH_ x).length:Int)) where
  kw:=h.kw
  bas:=h.bas
  ul:=h.ul
  wll:=by simp
  cnt i x hx:=by rw[List.getElem?_map,hx,kX_];rfl
  use i x hx:=by
    have:=(List.getElem?_eq_some_iff.1 hx).1;rw[h.use i x hx,kX_,decide_eq_true this,Bool.true_and]
    congr 1
    rw[decide_eq_decide,List.length_eq_zero_iff]
  giv i x hx h0:=by
    rw[kX_,List.length_eq_zero_iff]at h0;exact h.giv i x hx (List.getElem?_eq_some_iff.1 hx).1 h0
structure RJ (p:List Pc) (S:List Str) (t:Thg) (us:List Int) (j:Nat) (K W:List Thg) (U:List Bool) (wl:List Int):Prop where
  kw:KW p S K W
  bas:∀ t∈nT_ S,t∈K
  ul:U.length=p.length
  wll:wl.length=p.length
  tk:t∈K
  tw:t ∉ W
  cnt:∀ (i:Nat) x,p[i]? = some x→wl[i]? = some ((eE_ K W x:Int)+((cH_ x).count t:Int) - ((us.take j).count (i:Int):Int))
  use:∀ (i:Nat) x,p[i]? = some x→U[i]? = some (decide ((eE_ K W x:Int)+((cH_ x).count t:Int) - ((us.take j).count (i:Int):Int)=0))
  giv:∀ (i:Nat) x,p[i]? = some x→(eE_ K W x:Int)+((cH_ x).count t:Int) - ((us.take j).count (i:Int):Int)=0→∀ u∈bN_ x,u∈K
theorem kV_ {p:List Pc} {S:List Str} {K W:List Thg} {t:Thg} (h:KW p S K (W++[t])) (x:Pc):eE_ K (W++[t]) x=eE_ K W x+(cH_ x).count t:=by
 have k:t∈K:=h.sub t zB_
 have m:t ∉ W:=fun q=>by
   have:=h.wn;rw[List.nodup_append]at this;exact this.2.2 t q t zB_ rfl
 unfold eE_
 induction cH_ x with
 | nil=>rfl
 | cons u l ih =>
   rw[List.countP_cons,List.countP_cons,List.count_cons,ih]
   by_cases e:u=t
   · subst e
     have d:pnd K (W++[u]) u=true:=by simp[pnd]
     have v:pnd K W u=false:=by simp[pnd,k,m]
     rw[d,v];simp
     omega
   · have d:pnd K (W++[t]) u=pnd K W u:=by simp[pnd,e]
     rw[d,beq_eq_false_iff_ne.2 e];simp
     omega
theorem RI.pop {p:List Pc} {S:List Str} {K W:List Thg} {U:List Bool} {wl:List Int} {t:Thg} (h:RI p S K (W++[t]) U wl) (us:List Int):RJ p S t us 0 K W U wl where
  kw:=⟨h.kw.snd,h.kw.kn,fun u d=>h.kw.sub u (List.mem_append_left _ d),(List.nodup_append.1 h.kw.wn).1⟩
  bas:=h.bas
  ul:=h.ul
  wll:=h.wll
  tk:=h.kw.sub t zB_
  tw:=fun q=>(List.nodup_append.1 h.kw.wn).2.2 t q t zB_ rfl
  cnt i x hx:=by rw[h.cnt i x hx,kV_ h.kw];simp
  use i x hx:=by
    rw[h.use i x hx,kV_ h.kw]
    congr 1
    rw[decide_eq_decide];simp
    omega
  giv i x hx h0:=h.giv i x hx (by rw[kV_ h.kw];simp at h0;omega)
def pc_ (p:List Pc) (us:List Int) (t:Thg):Prop:=(∀ m∈us,0≤m∧m<p.length)∧∀ (i:Nat) x,p[i]? = some x→us.count (i:Int)=(cH_ x).count t
theorem jp_ (us:List Int) (j:Nat) (m:Int):(us.take j).count m≤us.count m:=(List.take_sublist j us).count_le m
theorem cl_ {us:List Int} {j:Nat} {m:Int} (hm:us[j]? = some m) (k:Int):(us.take (j+1)).count k=(us.take j).count k+if k=m then 1 else 0:=by
 rw[List.take_add_one,hm,List.count_append];simp only[Option.toList_some,List.count_cons,List.count_nil,Nat.zero_add]
 by_cases e:k=m
 ·subst e;simp
 rw[if_neg e,if_neg (by rw[beq_iff_eq];exact fun q=>e q.symm)]
section
variable {p:List Pc} {S:List Str} {t:Thg} {us:List Int} {j:Nat} {K W:List Thg} {U:List Bool} {wl:List Int} {i:Nat} {x:Pc} {n:Int}
theorem RJ.pos (h:RJ p S t us j K W U wl) (k:pc_ p us t) (hm:us[j]? = some (i:Int)) (d:p[i]? = some x):∃ n:Int,wl[i]? = some n∧1≤n∧n≤(cH_ x).length+(cH_ x).length∧n=(eE_ K W x:Int)+((cH_ x).count t:Int) - ((us.take j).count (i:Int):Int):=by
  have e:=jp_ us (j+1) i;rw[cl_ hm,if_pos rfl,k.2 i x d]at e;have q:eE_ K W x≤(cH_ x).length:=List.countP_le_length;have m:(cH_ x).count t≤(cH_ x).length:=List.count_le_length;exact⟨_,h.cnt i x d,by omega,by omega,rfl⟩
theorem RJ.skip (h:RJ p S t us j K W U wl) (B:pc_ p us t) (hm:us[j]? = some (i:Int)) (d:p[i]? = some x) (q:wl[i]? = some n) (G:n - 1≠0):RJ p S t us (j+1) K W U (wl.set i (n - 1)) where
 kw:=h.kw
 bas:=h.bas
 ul:=h.ul
 wll:=by rw[List.length_set];exact h.wll
 tk:=h.tk
 tw:=h.tw
 cnt k y hy:=by
   have v:=(List.getElem?_eq_some_iff.1 d).1;rw[mp_ (by rw[h.wll];exact v),cl_ hm]
   by_cases e:k=i
   · subst e
     rw[d,Option.some.injEq]at hy;subst hy;rw[h.cnt k x d,Option.some.injEq]at q;rw[if_pos rfl,if_pos rfl,← q]
     congr 1
     omega
   · rw[if_neg e,if_neg zs_,h.cnt k y hy]
     congr 1
 use k y hy:=by
   rw[h.use k y hy,cl_ hm]
   by_cases e:k=i
   · subst e
     obtain⟨m,A,E,F,C⟩:=h.pos B hm hy;rw[d,Option.some.injEq]at hy;subst hy;rw[q,Option.some.injEq]at A
     congr 1
     rw[decide_eq_decide,if_pos rfl];omega
   · rw[if_neg zs_]
     rfl
 giv k y hy h0:=by
   rw[cl_ hm]at h0
   by_cases e:k=i
   · subst e
     rw[d,Option.some.injEq]at hy;subst hy;rw[h.cnt k x d,Option.some.injEq]at q;rw[if_pos rfl]at h0;omega
   · rw[if_neg zs_]at h0
     exact h.giv k y hy h0
theorem sr_ {K W:List Thg} {x:Pc} (h:eE_ K W x=0) {u:Thg} (d:u∈cH_ x):u∈K:=by
 unfold eE_ at h;rw[List.countP_eq_zero]at h;have:=h u d
 by_cases q:u∈K
 ·exact q
 simp[pnd,q]at this
theorem RJ.take (h:RJ p S t us j K W U wl) (F:pc_ p us t) (hm:us[j]? = some (i:Int)) (d:p[i]? = some x) (A:wl[i]? = some n) (G:n - 1=0):RJ p S t us (j+1) (K++gi_ K (bN_ x)) (W++gi_ K (bN_ x)) (U.set i true) (wl.set i (n - 1)) where
 kw:=h.kw.ext fun u B=>.give (List.mem_of_getElem? d) (fun v C=>h.kw.snd v (by
   have E:=jp_ us (j+1) i;rw[cl_ hm,if_pos rfl,F.2 i x d]at E;rw[h.cnt i x d,Option.some.injEq]at A;exact sr_ (W:=W) zs_ C)) B
 bas u hb:=List.mem_append_left _ (h.bas u hb)
 ul:=by rw[List.length_set];exact h.ul
 wll:=by rw[List.length_set];exact h.wll
 tk:=List.mem_append_left _ h.tk
 tw:=fun q=>(List.mem_append.1 q).elim h.tw fun q=>rn_ h.kw.kn q h.tk
 cnt k y hy:=by
   have m:=(List.getElem?_eq_some_iff.1 d).1;rw[mp_ (by rw[h.wll];exact m),cl_ hm,kW_ h.kw.kn]
   by_cases e:k=i
   · subst e
     rw[d,Option.some.injEq]at hy;subst hy;rw[h.cnt k x d,Option.some.injEq]at A;rw[if_pos rfl,if_pos rfl,← A]
     congr 1
     omega
   · rw[if_neg e,if_neg zs_,h.cnt k y hy]
     congr 1
 use k y hy:=by
   have m:=(List.getElem?_eq_some_iff.1 d).1;rw[mp_ (by rw[h.ul];exact m),cl_ hm,kW_ h.kw.kn]
   by_cases e:k=i
   · subst e
     rw[d,Option.some.injEq]at hy;subst hy;rw[h.cnt k x d,Option.some.injEq]at A;rw[if_pos rfl,if_pos rfl]
     congr 1
     symm
     rw[decide_eq_true_eq];omega
   · rw[if_neg e,if_neg zs_,h.use k y hy]
     rfl
 giv k y hy h0 u B:=by
   rw[cl_ hm,kW_ h.kw.kn]at h0
   by_cases e:k=i
   · subst e
     rw[d,Option.some.injEq]at hy;subst hy;exact (iG_ _ _ _).2 (.inr B)
   · rw[if_neg zs_]at h0
     exact List.mem_append_left _ (h.giv k y hy h0 u B)
theorem RJ.done (h:RJ p S t us us.length K W U wl) (m:pc_ p us t):RI p S K W U wl:=by
  have e:∀ (i:Nat) x,p[i]? = some x→(eE_ K W x:Int)+((cH_ x).count t:Int) - ((us.take us.length).count (i:Int):Int)=(eE_ K W x:Int):=fun i x d=>by
    rw[List.take_length,m.2 i x d];omega
  refine⟨h.kw,h.bas,h.ul,h.wll,fun i x d=>by rw[h.cnt i x d,e i x d],fun i x d=>?_,fun i x d k=>h.giv i x d (by rw[e i x d,k];rfl)⟩;rw[h.use i x d,e i x d]
  congr 1
  rw[decide_eq_decide];omega
end
structure ReachR (p:List Pc) (S:List Str) (K:List Thg) (U:List Bool):Prop where
  known:∀ t,t∈K↔Rch p S t
  kn:K.Nodup
  ul:U.length=p.length
  use:∀ (i:Nat) x,p[i]? = some x→∃ b,U[i]? = some b∧(b=true↔Usb p S x)
def td_ (p:List Pc) (S:List Str):List Thg:=nT_ S++p.flatMap bN_
theorem Rch.univ {p:List Pc} {S:List Str} {t:Thg} (h:Rch p S t):t∈td_ p S:=by
  unfold td_;cases h with
  | base h=>exact List.mem_append_left _ h
  | give hx _ ht=>exact List.mem_append_right _ (List.mem_flatMap.2 ⟨_,hx,ht⟩)
theorem gL_ {α:Type} [DecidableEq α]:∀ (l m:List α),l.Nodup→(∀ x∈l,x∈m)→l.length≤m.length
  | [],m,_,_=>Nat.zero_le _
  | a::l,m,h,hs=>by
    have k:=hs a List.mem_cons_self;have e:=List.nodup_cons.1 h;have:=gL_ l (m.erase a) e.2 fun x d=>(List.mem_erase_of_ne (by rintro rfl;exact e.1 d)).2 (hs x (List.mem_cons_of_mem _ d))
    rw[List.length_erase_of_mem k]at this;have:=List.length_pos_of_mem k;simp only[List.length_cons];omega
theorem KW.len {p:List Pc} {S:List Str} {K W:List Thg} (h:KW p S K W):K.length≤(td_ p S).length:=gL_ K _ h.kn fun t d=>(h.snd t d).univ
end Go.Vs
namespace Go.Sx
open Go Go.Vs
section
variable {P:Program} {N:Nf} {v0:Vw} {H0:Hp} {R:Exit→Act→World→Prop} {Kk:List Kt} {fr:Fr} {H:Hp} {Γ:List Fct}
variable {ops:Array Oper} {lo:List Oper} {d:Nat} {ty:TypeId} {ps:String} {af:Array Edge}
variable {K:Type} [DecidableEq K] {kv:K→Value}
theorem IntE.at {x:TypeId} {es:Array MapEntry} {ks:List K} {vs:List Int} (A:KeyT P x kv) (h:IntE kv es ks vs) {k:K} {i:Nat} {n:Int} (hi:ks[i]? = some k) (y:vs[i]? = some n):∃ e,es[i]? = some e∧e.key=kv k∧e.val=.int .i64 n∧db_ P x (kv k) es.toList (some (i,.int .i64 n)):=by
  have q:i<es.toList.length:=by
    have:=(List.getElem?_eq_some_iff.1 hi).1;have e:=congrArg List.length h.keys;simp only[List.length_map]at e;omega
  have m:=List.getElem?_eq_getElem q;have v:=congrArg (fun l=>l[i]?) h.vals;simp only[List.getElem?_map,m,Option.map_some,y,Option.some.injEq]at v;have hk:=congrArg (fun l=>l[i]?) h.keys;simp only[List.getElem?_map,m,Option.map_some,hi,Option.some.injEq]at hk;refine⟨es.toList[i],by rw[← Array.getElem?_toList];exact m,hk,v,?_⟩;have:=A.sf k es.toList ks i _ h.keys h.nd hi m;rwa [v]at this
end
end Go.Sx
namespace Go.Vs
open Go Go.Sx
def Thg.eqb (p q:Thg):Bool:=(p.kind==q.kind)&&((p.name==q.name)&&true)
theorem Thg.eqb_eq (p q:Thg):p.eqb q=decide (p=q):=by
  rw[Bool.eq_iff_iff];cases p;cases q;simp[Thg.eqb]
theorem take_snoc {α:Type} {l:List α} {i:Nat} {x:α} (h:l[i]? = some x):l.take (i+1)=l.take i++[x]:=by
  rw[List.take_add_one,h];rfl
abbrev SrS (l:List Str):Prop:=l.Pairwise fun x y=>x<y
theorem im_ (a:Str):¬ a<a:=List.lt_irrefl a
theorem kS_hit {l:List Str} {s:Str} (h:SrS l) (m:s∈l):l[kS l s]? = some s:=by
 obtain⟨j,d⟩:=List.getElem?_of_mem m;have hl:=(List.getElem?_eq_some_iff.1 d).1;rcases Nat.lt_trichotomy (kS l s) j with q|q|q
 ·have hk:kS l s<l.length:=by omega
  have e:=List.getElem?_eq_getElem hk;have v:=pf_ l _ e;have k:=List.pairwise_iff_getElem.1 h (kS l s) j hk hl q;rw[(List.getElem?_eq_some_iff.1 d).2]at k;exact absurd k v
 ·rw[q];exact d
 have:s∈l.take (kS l s):=by
   refine List.mem_of_getElem? (i:=j) ?_;rw[List.getElem?_take_of_lt q];exact d
 exact absurd (rP_ l s this) (im_ s)
theorem qf_ {l:List Str} {s:Str} (h:SrS l) (d:s∈l):dR_ l s=l:=by
  unfold dR_;rw[if_pos (.inr (kS_hit h d))]
theorem om_ {l:List Str} {s:Str} (d:s≠[]) (e:s ∉ l):dR_ l s=l.take (kS l s)++[s]++l.drop (kS l s):=by
  unfold dR_;rw[if_neg (by rintro (q|q);exact d q;exact e (List.mem_of_getElem? q))]
theorem mH_ {l:List Str} {s:Str} (e:s≠[]) (d:s ∉ l):(dR_ l s).length=l.length+1:=by
  have:=kS_le l s;rw[om_ e d];simp only[List.length_append,List.length_take,List.length_cons,List.length_nil,List.length_drop];omega
structure Rcd where
  a:List Str
  aad:Option Addr
  acap:Nat
  r:List Str
  rad:Option Addr
  rcap:Nat
  f:List Str
  fad:Option Addr
  fcap:Nat
def Rcd.cells (x:Rcd):List Value:=[.slice x.aad x.a.length x.acap,.slice x.rad x.r.length x.rcap,.slice x.fad x.f.length x.fcap]
theorem Rcd.cells_len (x:Rcd):x.cells.length=3:=rfl
def Rcd.val (x:Rcd):Value:=.agg x.cells.toArray
def nG_ (a r f:List Str) (t:Thg):Prop:=(t.kind=1∧t.name∈a)∨(t.kind=2∧t.name∈r)∨(t.kind=3∧t.name∈f)
instance (a r f:List Str) (t:Thg):Decidable (nG_ a r f t):=by unfold nG_;infer_instance
def usbL (a r f:List Str) (x:Pc):Bool:=decide (∀ u∈cH_ x,nG_ a r f u)
def pe_ (a:List Str) (x:Pc):List Str:=if x.kind=1∨x.kind=2∨x.kind=4∨x.kind=9∨x.kind=3 then dR_ a x.c else a
def lW_ (r:List Str) (x:Pc):List Str:=if x.kind=3∨x.kind=7 then dR_ r x.r else if x.kind=5∨x.kind=6 then dR_ r x.t else r
def pd_ (f:List Str) (x:Pc):List Str:=if x.kind=8 then dR_ f x.r else f
def PcN (x:Pc):Prop:=(1≤x.kind∧x.kind≤9)∧∀ t∈bN_ x,t.name≠[]
theorem hn_ {l:List Str} {s:Str} (h:SrS l) (k:s≠[]):SrS (dR_ l s)∧l.length≤(dR_ l s).length∧((dR_ l s).length=l.length→dR_ l s=l)∧∀ n,n∈dR_ l s↔n∈l∨n=s:=by
 refine⟨vb_ h,?_,?_,fun n=>by rw[tP_];constructor;(rintro (q|q);exact .inl q;exact .inr q.1);(rintro (q|q);exact .inl q;exact .inr ⟨q,q▸k⟩)⟩
 ·by_cases d:s∈l
  ·rw[qf_ h d];exact Nat.le_refl _
  rw[mH_ k d];omega
 intro e
 by_cases d:s∈l
 ·exact qf_ h d
 rw[mH_ k d]at e;omega
theorem ss_ {x:Pc} (h:1≤x.kind∧x.kind≤9):x.kind=1∨x.kind=2∨x.kind=3∨x.kind=4∨x.kind=5∨x.kind=6∨x.kind=7∨x.kind=8∨x.kind=9:=by omega
theorem op_ {a:List Str} {x:Pc} (d:SrS a) (y:PcN x):SrS (pe_ a x)∧a.length≤(pe_ a x).length∧((pe_ a x).length=a.length→pe_ a x=a)∧∀ n,n∈pe_ a x↔n∈a∨(⟨1,n⟩:Thg)∈bN_ x:=by
 obtain⟨hk,A⟩:=y
 by_cases c:x.kind=1∨x.kind=2∨x.kind=4∨x.kind=9∨x.kind=3
 ·have e:pe_ a x=dR_ a x.c:=if_pos c
  have h:(⟨1,x.c⟩:Thg)∈bN_ x:=by rcases c with k|k|k|k|k<;>simp[bN_,k]
  have g:∀ n,(⟨1,n⟩:Thg)∈bN_ x↔n=x.c:=fun n=>by rcases c with k|k|k|k|k<;>simp[bN_,k]
  obtain⟨B,m,v,C⟩:=hn_ d (A _ h);rw[e];exact⟨B,m,v,fun n=>by rw[C,g]⟩
 have e:pe_ a x=a:=if_neg c;rw[e];refine⟨d,Nat.le_refl _,fun _=>rfl,fun n=>⟨.inl,?_⟩⟩;rintro (q|q)
 ·exact q
 rcases ss_ hk with k|k|k|k|k|k|k|k|k<;>simp[bN_,k]at q c
theorem on_ {r:List Str} {x:Pc} (m:SrS r) (E:PcN x):SrS (lW_ r x)∧r.length≤(lW_ r x).length∧((lW_ r x).length=r.length→lW_ r x=r)∧∀ n,n∈lW_ r x↔n∈r∨(⟨2,n⟩:Thg)∈bN_ x:=by
 obtain⟨hk,C⟩:=E
 by_cases c:x.kind=3∨x.kind=7
 ·have e:lW_ r x=dR_ r x.r:=if_pos c
  have h:(⟨2,x.r⟩:Thg)∈bN_ x:=by rcases c with k|k<;>simp[bN_,k]
  have g:∀ n,(⟨2,n⟩:Thg)∈bN_ x↔n=x.r:=fun n=>by rcases c with k|k<;>simp[bN_,k]
  obtain⟨A,v,y,B⟩:=hn_ m (C _ h);rw[e];exact⟨A,v,y,fun n=>by rw[B,g]⟩
 by_cases d:x.kind=5∨x.kind=6
 ·have e:lW_ r x=dR_ r x.t:=by unfold lW_;rw[if_neg c,if_pos d]
  have h:(⟨2,x.t⟩:Thg)∈bN_ x:=by rcases d with k|k<;>simp[bN_,k]
  have g:∀ n,(⟨2,n⟩:Thg)∈bN_ x↔n=x.t:=fun n=>by rcases d with k|k<;>simp[bN_,k]
  obtain⟨A,v,y,B⟩:=hn_ m (C _ h);rw[e];exact⟨A,v,y,fun n=>by rw[B,g]⟩
 have e:lW_ r x=r:=by unfold lW_;rw[if_neg c,if_neg d]
 rw[e];refine⟨m,Nat.le_refl _,fun _=>rfl,fun n=>⟨.inl,?_⟩⟩;rintro (q|q)
 ·exact q
 rcases ss_ hk with k|k|k|k|k|k|k|k|k<;>simp[bN_,k]at q c d
theorem oo_ {f:List Str} {x:Pc} (d:SrS f) (y:PcN x):SrS (pd_ f x)∧f.length≤(pd_ f x).length∧((pd_ f x).length=f.length→pd_ f x=f)∧∀ n,n∈pd_ f x↔n∈f∨(⟨3,n⟩:Thg)∈bN_ x:=by
 obtain⟨hk,A⟩:=y
 by_cases c:x.kind=8
 ·have e:pd_ f x=dR_ f x.r:=if_pos c
  have h:(⟨3,x.r⟩:Thg)∈bN_ x:=by simp[bN_,c]
  have g:∀ n,(⟨3,n⟩:Thg)∈bN_ x↔n=x.r:=fun n=>by simp[bN_,c]
  obtain⟨B,m,v,C⟩:=hn_ d (A _ h);rw[e];exact⟨B,m,v,fun n=>by rw[C,g]⟩
 have e:pd_ f x=f:=if_neg c;rw[e];refine⟨d,Nat.le_refl _,fun _=>rfl,fun n=>⟨.inl,?_⟩⟩;rintro (q|q)
 ·exact q
 rcases ss_ hk with k|k|k|k|k|k|k|k|k<;>simp[bN_,k]at q c
theorem rh_ {x:Pc} {t:Thg} (h:t∈bN_ x):t.kind=1∨t.kind=2∨t.kind=3:=by
  unfold bN_ at h
  repeat' split at h
  all_goals simp at h
  all_goals first|(rcases h with rfl|rfl<;>simp)|(subst h;simp)
theorem wy_ {a r f:List Str} {x:Pc} (m:SrS a) (v:SrS r) (h:SrS f) (d:PcN x) (t:Thg):nG_ (pe_ a x) (lW_ r x) (pd_ f x) t↔nG_ a r f t∨t∈bN_ x:=by
 obtain⟨k,n⟩:=t;unfold nG_;rw[(op_ m d).2.2.2,(on_ v d).2.2.2,(oo_ h d).2.2.2];dsimp only;constructor
 ·rintro (⟨rfl,q|q⟩|⟨rfl,q|q⟩|⟨rfl,q|q⟩)
  ·exact .inl (.inl ⟨rfl,q⟩)
  ·exact .inr q
  ·exact .inl (.inr (.inl ⟨rfl,q⟩))
  ·exact .inr q
  ·exact .inl (.inr (.inr ⟨rfl,q⟩))
  exact .inr q
 rintro ((⟨rfl,q⟩|⟨rfl,q⟩|⟨rfl,q⟩)|q)
 ·exact .inl ⟨rfl,.inl q⟩
 ·exact .inr (.inl ⟨rfl,.inl q⟩)
 ·exact .inr (.inr ⟨rfl,.inl q⟩)
 rcases rh_ q with e|e|e
 ·dsimp only at e;subst e;exact .inl ⟨rfl,.inr q⟩
 ·dsimp only at e;subst e;exact .inr (.inl ⟨rfl,.inr q⟩)
 dsimp only at e;subst e;exact .inr (.inr ⟨rfl,.inr q⟩)
structure RdI (p:List Pc) (S:List Str) (a r f:List Str):Prop where
  sa:SrS a
  sr:SrS r
  sf:SrS f
  snd:∀ t,nG_ a r f t→Rch p S t
  bas:∀ t∈nT_ S,nG_ a r f t
structure RdR (p:List Pc) (S:List Str) (n:Int) (i:Nat) (a r f:List Str):Prop where
  inv:RdI p S a r f
  le:n≤((a.length+r.length+f.length:Nat):Int)
  cl:n=((a.length+r.length+f.length:Nat):Int)→∀ (j:Nat) x,p[j]? = some x→j<i→usbL a r f x=true→∀ t∈bN_ x,nG_ a r f t
theorem RdR.skip {p:List Pc} {S a r f:List Str} {n:Int} {i:Nat} {x:Pc} (h:RdR p S n i a r f) (q:p[i]? = some x) (A:usbL a r f x=false):RdR p S n (i+1) a r f:=⟨h.inv,h.le,fun v j y k m d=>by
 by_cases e:j=i
 ·subst e
  rw[q,Option.some.injEq]at k;subst k;rw[A]at d;cases d
 exact h.cl v j y k zs_ d⟩
theorem RdR.take {p:List Pc} {S a r f:List Str} {n:Int} {i:Nat} {x:Pc} (h:RdR p S n i a r f) (F:p[i]? = some x) (k:PcN x) (M:usbL a r f x=true):RdR p S n (i+1) (pe_ a x) (lW_ r x) (pd_ f x):=by
 obtain⟨O,U,I,_⟩:=op_ h.inv.sa k;obtain⟨N,T,Q,_⟩:=on_ h.inv.sr k;obtain⟨L,R,K,_⟩:=oo_ h.inv.sf k;have v:=wy_ h.inv.sa h.inv.sr h.inv.sf k;have m:∀ u∈cH_ x,Rch p S u:=fun u q=>h.inv.snd u (of_decide_eq_true M u q)
 refine⟨⟨O,N,L,fun t d=>?_,fun t d=>(v t).2 (.inl (h.inv.bas t d))⟩,by have:=h.le;omega,fun G=>?_⟩
 ·rcases (v t).1 d with q|q
  ·exact h.inv.snd t q
  exact .give (List.mem_of_getElem? F) m q
 have P:=h.le;have H:=I zs_;have C:=Q zs_;have ef:=K zs_;have A:n=((a.length+r.length+f.length:Nat):Int):=by rw[H,C,ef]at G;exact G
 intro j y B J E t d
 by_cases e:j=i
 ·subst e
  rw[F,Option.some.injEq]at B;subst B;exact (v t).2 (.inr d)
 rw[H,C,ef]at E ⊢;exact h.cl A j y B zs_ E t d
theorem RdR.done {p:List Pc} {S a r f:List Str} (h:RdR p S ((a.length+r.length+f.length:Nat):Int) p.length a r f):∀ t,nG_ a r f t↔Rch p S t:=fun t=>by
  refine⟨h.inv.snd t,fun e=>?_⟩
  induction e with
  | base hb=>exact h.inv.bas _ hb
  | give hx hn hg ih =>
    obtain⟨j,d⟩:=List.getElem?_of_mem hx;exact h.cl rfl j _ d (List.getElem?_eq_some_iff.1 d).1 (decide_eq_true ih) _ hg
theorem RdI.len {p:List Pc} {S a r f:List Str} (h:RdI p S a r f):a.length+r.length+f.length≤(td_ p S).length:=by
 have nd:∀ {l:List Str},SrS l→l.Nodup:=fun hl=>List.Pairwise.imp (fun {x y} hxy=>fun e:x=y=>by subst e;exact im_ _ hxy) hl
 have mk:∀ (k:Int) {l:List Str},SrS l→(l.map fun n=>(⟨k,n⟩:Thg)).Nodup:=fun k l hl=>by
   unfold List.Nodup;rw[List.pairwise_map];exact List.Pairwise.imp (fun {x y} hxy=>fun e=>hxy (Thg.mk.inj e).2) (nd hl)
 have e:((a.map fun n=>(⟨1,n⟩:Thg))++((r.map fun n=>(⟨2,n⟩:Thg))++f.map fun n=>(⟨3,n⟩:Thg))).length=a.length+r.length+f.length:=by simp;omega
 rw[← e];refine gL_ _ _ ?_ fun t A=>(h.snd t ?_).univ
 ·rw[List.nodup_append,List.nodup_append]
  refine⟨mk 1 h.sa,⟨mk 2 h.sr,mk 3 h.sf,fun x q y d e=>?_⟩,fun x q y d e=>?_⟩
  ·obtain⟨u,_,rfl⟩:=List.mem_map.1 q
   obtain⟨v,_,rfl⟩:=List.mem_map.1 d;have:=(Thg.mk.inj e).1;omega
  obtain⟨u,_,rfl⟩:=List.mem_map.1 q;rcases List.mem_append.1 d with d|d<;>obtain⟨v,_,rfl⟩:=List.mem_map.1 d<;>(have:=(Thg.mk.inj e).1;omega)
 simp only[List.mem_append,List.mem_map]at A;unfold nG_;rcases A with⟨u,m,rfl⟩|⟨u,m,rfl⟩|⟨u,m,rfl⟩
 ·exact .inl ⟨rfl,m⟩
 ·exact .inr (.inl ⟨rfl,m⟩)
 exact .inr (.inr ⟨rfl,m⟩)
end Go.Vs
namespace Go.Proofs.YtpbnmnfdgckaiaaGreatDoor
open Go Go.Sx Go.Proofs
attribute [local irreducible] Code.wp wpList wpAnyH
open Go.Vs
theorem sP_ {p:List Pc} {s:Str} (h:s∈atS p):s≠[]:=by
 rcases (hN_ p s).1 h with h|rfl|rfl
 ·obtain⟨x,_,d⟩:=List.mem_flatMap.1 ((fp_ p s).1 h)
  simpa using (List.mem_filter.1 d).2
 ·decide
 decide
theorem nK_:∀ {l:List Ax} {i:Nat} {q:Pc},q∈cc_ i l↔∃ (j:Nat) (a:Ax),l[j]? = some a∧q∈a.pieces ((i+j:Nat):Int)
 | [],i,q=>by simp[cc_]
 | x::l,i,q=>by
   rw[cc_,List.mem_append,nK_];constructor
   · rintro (h|⟨j,a,d,e⟩)
     · exact⟨0,x,rfl,h⟩
     · exact⟨j+1,a,by simpa using d,by rwa [show i+(j+1)=i+1+j by omega]⟩
   · rintro ⟨j,a,d,e⟩
     match j with
     | 0 =>
       obtain rfl:x=a:=by simpa using d
       exact .inl e
     | j+1=>exact .inr ⟨j,a,by simpa using d,by rwa [show i+1+j=i+(j+1) by omega]⟩
end Go.Proofs.YtpbnmnfdgckaiaaGreatDoor
namespace Go.Vs
open Go Go.Sx
def orF:List Int→Int
  | []=>0
  | x::l=>if x=0 then orF l else x
theorem vP_:∀ {l:List Int} {i:Nat} {x:Int},(∀ y∈l.take i,y=0)→l[i]? = some x→x≠0→orF l=x
  | [],_,_,_,h,_=>by simp at h
  | y::l,0,x,_,h,hx=>by simp at h;subst h;simp[orF,hx]
  | y::l,i+1,x,h0,h,hx=>by
    have d:y=0:=h0 y zB_;rw[orF,if_pos d];exact vP_ (i:=i) (fun z e=>h0 z (by rw[List.take_succ_cons];exact List.mem_cons_of_mem _ e)) zV_ hx
theorem qH_:∀ {l:List Int},(∀ y∈l,y=0)→orF l=0
  | [],_=>rfl
  | y::l,h=>by rw[orF,if_pos (h y zB_)];exact qH_ fun z d=>h z zaa_
theorem cI_neg (x y:Int):Lib.compareInt x y<0↔x<y:=by unfold Lib.compareInt;(repeat' split)<;>omega
theorem yI_ (x y:Int):Lib.compareInt x y=0↔x=y:=by unfold Lib.compareInt;(repeat' split)<;>omega
theorem sL_:∀ (x y:Str),Lib.compareBytes x y<0↔x<y
 | [],[]=>by simp[Lib.compareBytes]
 | [],b::y=>by simp[Lib.compareBytes]
 | a::x,[]=>by simp[Lib.compareBytes]
 | a::x,b::y=>by
   rw[Lib.compareBytes,List.cons_lt_cons_iff]
   by_cases d:a<b
   · rw[if_pos d];simp[d]
   · by_cases h:b<a
     · rw[if_neg d,if_pos h]
       have:a≠b:=fun e=>by subst e;exact d h
       simp[d,this]
     · have e:a=b:=UInt8.le_antisymm (UInt8.not_lt.1 h) (UInt8.not_lt.1 d)
       rw[if_neg d,if_neg h,sL_ x y];simp[e]
theorem tE_:∀ (x y:Str),Lib.compareBytes x y=0↔x=y
 | [],[]=>by simp[Lib.compareBytes]
 | [],b::y=>by simp[Lib.compareBytes]
 | a::x,[]=>by simp[Lib.compareBytes]
 | a::x,b::y=>by
   rw[Lib.compareBytes]
   by_cases d:a<b
   · rw[if_pos d]
     have:a≠b:=fun e=>by subst e;exact absurd d (UInt8.lt_irrefl a)
     simp[this]
   · by_cases h:b<a
     · rw[if_neg d,if_pos h]
       have:a≠b:=fun e=>by subst e;exact d h
       simp[this]
     · have e:a=b:=UInt8.le_antisymm (UInt8.not_lt.1 h) (UInt8.not_lt.1 d)
       rw[if_neg d,if_neg h,tE_ x y];simp[e]
theorem iR_ (x:Int) (l:List Int):orF (x::l)<0↔x<0∨x=0∧orF l<0:=by
  rw[orF];split<;>omega
theorem pT_:∀ (x y:Str),Lib.compareBytes x y=if x<y then -1 else if y<x then 1 else 0
 | [],[]=>by simp[Lib.compareBytes]
 | [],b::y=>by simp[Lib.compareBytes]
 | a::x,[]=>by simp[Lib.compareBytes]
 | a::x,b::y=>by
   rw[Lib.compareBytes]
   by_cases d:a<b
   · have l:a::x<b::y:=by rw[List.cons_lt_cons_iff];exact .inl d
     rw[if_pos d,if_pos l]
   · by_cases h:b<a
     · have l:b::y<a::x:=by rw[List.cons_lt_cons_iff];exact .inl h
       have k:¬ a::x<b::y:=fun q=>absurd (List.lt_trans q l) (List.lt_irrefl _)
       rw[if_neg d,if_pos h,if_neg k,if_pos l]
     · have e:a=b:=UInt8.le_antisymm (UInt8.not_lt.1 h) (UInt8.not_lt.1 d)
       subst e;rw[if_neg d,if_neg h,pT_ x y];simp only[List.cons_lt_cons_iff,d,false_or,true_and]
def Tr3 (x y z:Int):Prop:=(x≤0→y≤0→z≤0∧(z=0→x=0∧y=0))∧(x=0→y=0→z=0)
theorem Tr3.nil:Tr3 0 0 0:=by unfold Tr3;omega
namespace Con
end Con
end Go.Vs
namespace Go.Proofs.YtpbnmnfdgckaiaaGreatDoor
open Go Go.Sx Go.Proofs
attribute [local irreducible] Code.wp wpList wpAnyH
open Go.Vs
instance:Inhabited Fc:=⟨⟨0,[],[],[],0,0⟩⟩
theorem hd_ (x y:Int):Fn0 Tryz.prog 135 #[.int .i64 x,.int .i64 y] (.int .i64 (Lib.compareInt x y)) :=
  cT_ (callable Tryz.func135 rfl rfl) fun v _ _=>(Tryz.cmp_Compare_int x y v.w).mono zC_
theorem kv_ (x y:Str):Fn0 Tryz.prog 86 #[str x,str y] (.int .i64 (Lib.compareBytes x y)) :=
  cT_ (callable Tryz.func86 rfl rfl) fun v _ _=>(Tryz.strings_Compare ⟨x.toArray⟩ ⟨y.toArray⟩ v.w).mono zC_
def hK_ (x y:Fc):Int:=orF [Lib.compareInt x.kind y.kind,Lib.compareBytes x.a y.a,Lib.compareBytes x.b y.b,Lib.compareBytes x.r y.r,Lib.compareInt x.lo y.lo,Lib.compareInt x.hi y.hi]
theorem rw_ (x y:Fc):hK_ x y<0↔x.lt y:=by
  unfold hK_ Fc.lt;rw[iR_,iR_,iR_,iR_,iR_,iR_];simp only[cI_neg,yI_,sL_,tE_,orF,Int.lt_irrefl,and_false,or_false]
theorem zh_ (l:List Int) (ad:Option Addr) (cap:Nat) (hl:l.length≤1000):Tri Tryz.prog 134 #[.slice ad (List.length l) cap] [] [ah_ ad (List.flatMap fF_ l)] (fun _:Unit=>.int .i64 (orF l)) (fun _=>[]) (fun _=>[]):=by
 refine i_ Tryz.func134 rfl rfl Tryz.ntmps134 rfl fun A=>?_;refine Zz 19 ?_;refine M_ (ι:={y:Nat // y≤l.length∧∀ z∈l.take y,z=0}) (fun y=>[(3,.int .i64 0),(6,.slice ad (List.length l) cap),(7,.int .i64 (List.length l:Int)),(8,.int .i64 (y.1:Int))]) (fun y=>([])) (fun y=>[ah_ ad (List.flatMap fF_ l)]) (fun y=>l.length - y.1) ⟨(0:Nat),by simp,by simp⟩ zl m_ zh ?_;rintro ⟨i,hi,d⟩;dsimp only at hi d ⊢;refine Zi 2 (fun q=>?_) fun q=>?_
 ·refine Zz 13 ?_
  exact ae_ Tryz.results134 () (cf_ rfl (qH_ fun y k=>d y (by rw[List.take_of_length_le zs_];exact k)).symm) m_ zt
 obtain⟨h,x,e,v⟩:=zge (show i<List.length l by omega);refine Zi 19 (fun m=>?_) fun m=>?_
 ·refine Zz 10 ?_
  exact w_ ⟨i+1,h,fun y k=>by rw[List.take_add_one,e]at k;simp only[Option.toList_some,List.mem_append,List.mem_singleton]at k;rcases k with k|rfl;exact d y k;omega⟩ zt_ zl m_ zh
 refine Zz 10 ?_;exact ae_ Tryz.results134 () (cf_ rfl (vP_ d e zA_).symm) m_ zt
theorem cmpF_c (x y:Fc):Fn0 Tryz.prog 79 #[Fc.val x,Fc.val y] (.int .i64 (hK_ x y)):=by
  refine i_ Tryz.func79 rfl rfl Tryz.ntmps79 rfl fun h=>?_;refine Zz 2 ?_;refine aa_ rfl rfl fun k=>aa_ rfl rfl fun e=>Zz 5 ?_
  refine K_ 9 [0,1,2,3,5,6,7,8,10,11,12,13,15,16,17,18,20,21,22,23,25,26,27,28] zk zs (Zz 25 ?_);refine s_ 4 rfl zk (g_ (hd_ x.kind y.kind) rfl m_ zt rfl fun _=>Zz 3 ?_);refine s_ 9 rfl zk (g_ (kv_ x.a y.a) rfl m_ zt rfl fun _=>Zz 3 ?_);refine s_ 14 rfl zk (g_ (kv_ x.b y.b) rfl m_ zt rfl fun _=>Zz 3 ?_);refine s_ 19 rfl zk (g_ (kv_ x.r y.r) rfl m_ zt rfl fun _=>Zz 3 ?_);refine s_ 24 rfl zk (g_ (hd_ x.lo y.lo) rfl m_ zt rfl fun _=>Zz 3 ?_);refine s_ 29 rfl zk (g_ (hd_ x.hi y.hi) rfl m_ zt rfl fun _=>Zz 3 ?_);refine s_ 30 rfl zk (U_ at_ ak_ kE_ rfl rfl rfl rfl rfl rfl fun d=>?_);refine cQ_ (List.flatMap fF_ [(Lib.compareInt x.kind y.kind),(Lib.compareBytes x.a y.a),(Lib.compareBytes x.b y.b),(Lib.compareBytes x.r y.r),(Lib.compareInt x.lo y.lo),(Lib.compareInt x.hi y.hi)]) d_ rfl ?_;refine Zz 3 ?_;refine s_ 31 rfl zk (g_ (zh_ [(Lib.compareInt x.kind y.kind),(Lib.compareBytes x.a y.a),(Lib.compareBytes x.b y.b),(Lib.compareBytes x.r y.r),(Lib.compareInt x.lo y.lo),(Lib.compareInt x.hi y.hi)] (some ⟨d,0,none⟩) 6 zB_) rfl m_ zf rfl fun _=>Zz 3 ?_);refine K_ 0 [32] zk zs (Zz 5 ?_);exact ae_ Tryz.results79 () (cf_ rfl (by rfl)) m_ zt
structure Cl where
  atoms:List Str
  aad:Option Addr
  acap:Nat
  facts:List Fc
  fad:Option Addr
  fcap:Nat
def Cl.cells (c:Cl):List Value:=[.slice c.aad c.atoms.length c.acap,.slice c.fad c.facts.length c.fcap]
theorem Cl.cells_len (c:Cl):c.cells.length=2:=rfl
def Cl.val (c:Cl):Value:=.agg c.cells.toArray
def Cl.row (c:Cl):List Fct:=[ah_ c.aad (List.flatMap ag_ c.atoms),ah_ c.fad (List.flatMap Fc.cells c.facts)]
def Cl.no:Cl:=Cl.mk [] none 0 [] none 0
structure Cl.ok (c:Cl):Prop where
  al:c.atoms.length≤c.acap
  am:c.acap≤maxLen
  az:c.aad=none→c.acap=0
  fl:c.facts.length≤c.fcap
  fm:c.fcap≤maxLen
  fz:c.fad=none→c.fcap=0
theorem Cl.no_ok:Cl.no.ok:=⟨Nat.le_refl _,by simp[Cl.no],fun _=>rfl,Nat.le_refl _,by simp[Cl.no],fun _=>rfl⟩
theorem xK_ {s:Str} (h:cn_ s=true):s≠[]:=fun e=>by subst e;revert h;decide
theorem ul_ {s:Str} (h:aK_ s=true):s≠[]:=fun e=>by subst e;revert h;decide
theorem gP_ {p:Pc} (h:p.valid=true):p.vok:=by
 unfold Pc.valid at h
 split at h
 ·simp at h
 rename_i e
 split at h
 ·simp at h
 rename_i d
 split at h
 ·simp at h
 have hk:p.kind=1∨p.kind=2∨p.kind=3∨p.kind=4∨p.kind=5∨p.kind=6∨p.kind=7∨p.kind=8∨p.kind=9:=by omega
 have k:∀ {b:Bool} {s:Str},cb_ b s cn_=true→b=true→s≠[]:=fun e d=>by
   subst d;simp[cb_]at e;exact xK_ e
 have v:∀ {b:Bool} {s:Str},cb_ b s aK_=true→b=true→s≠[]:=fun e d=>by
   subst d;simp[cb_]at e;exact ul_ e
 simp only[Bool.and_eq_true]at h;obtain⟨⟨⟨⟨⟨_,_⟩,_⟩,m⟩,y⟩,x⟩:=h;unfold Pc.rok at *;refine⟨⟨fun q=>?_,fun q=>?_,fun q=>?_⟩,fun q=>?_⟩
 ·rcases q with q|q|q|q|q|q|q<;>rw[q]at m
  ·exact k m zw_
  ·exact k m zw_
  ·exact k m zw_
  ·exact v m zw_
  ·exact k m zw_
  ·exact k m zw_
  exact v m zw_
 ·rw[q]at y x;exact⟨k y zw_,k x zw_⟩
 ·rw[q]at x;exact k x zw_
 rcases q with q|q<;>rw[q]at d<;>have:(nus 8).numbers=true∧(nus 9).numbers=true:=by decide
 all_goals simp only[this.1,this.2,true_and]at d;omega
theorem rA_ {p:List Pc} (h:de_ p=0):p.length≤16384∧p.all Pc.valid=true:=by
 unfold de_ at h
 split at h
 ·simp at h
 split at h
 ·exact⟨by omega,by assumption⟩
 simp at h
theorem oX_ {p:List Pc} (h:de_ p=0):∀ x∈p,x.vok:=fun x d=>gP_ (List.all_eq_true.1 (rA_ h).2 x d)
section
variable {P:Program} {N:Nf} {v0:Vw} {H0:Hp} {fr:Fr} {H F Ha Hu Ho Hi Hr Hm Hs:Hp} {Γ:List Fct}
theorem fD_ {fn:Func} {t s b n:Nat} {ty T:TypeId} {us:List Value} {u:Value} (i:Nat) (A:fn.results=#[.cell t ty,.tmp s]) (k:∀ w,(isAgg ty).run P w=.ok true w) (h:∀ w,(sizeOf ty).run P w=.ok n w) (E:us.length=n) (C:Fr.get fr t=some (zp_ b 0)) (B:Fr.get fr s=some u)
    (hi:H[i]? = some (b,.cells us.toArray T (0,0))) (a:Act) (v:Vw) (d:Fr.sat N fr a) (x:v.sat H):(results fn a.tmps).run P v.w=.ok (.tuple #[.agg us.toArray,u]) v.w:=by
  have e:=d.val t _ C;have q:=d.val s _ B;have hl:=dM_ (t:=ty) (w:=v.w) (b:=b) (off:=0) k h E (fun j y m=>by rw[Nat.zero_add,gb_ x hi];simpa using m);simp[results,A,e,q,asAddr,hl]
theorem pf_six (h:H.Perm ((Ha++(Hu++(Ho++(Hi++(Hr++(Hm++Hs))))))++F)):H.Perm (((Ha++(Hu++(Ho++(Hi++(Hr++Hm)))))++Hs)++F):=by simpa [List.append_assoc] using h
theorem xW_:(((Ha++(Hu++(Ho++(Hi++(Hr++Hm)))))++Hs)++F).Perm (Ha++(Hu++(Ho++(Hi++(Hr++(Hm++(Hs++F))))))):=by simp[List.append_assoc]
theorem xX_ {a b c:Nat×Obj} {d:Hp}:((Ha++(Hu++(Ho++(Hi++(Hr++(Hm++(a::b::([c]++d))))))))++F).Perm (Ha++(Hu++(Ho++(Hi++(Hr++(Hm++(a::b::([c]++(d++F))))))))):=by simp[List.append_assoc]
end
theorem jz_:hX_ Tryz.prog 67 [(0,1),(1,1)] [.slice none 0 0,.slice none 0 0]:=⟨_,Tryz.zeroValue67,cM_,fun w=>by simp[bP_,ck_]⟩
end Go.Proofs.YtpbnmnfdgckaiaaGreatDoor
namespace Go.Proofs.YtpbnmnfdgckaiaaGreatDoor
open Go Go.Sx Go.Proofs
attribute [local irreducible] Code.wp wpList wpAnyH
open Go.Vs Go.Shelf Go.RowKit
theorem ij_ {v d:Vw} (h:v.to [] d []) (A:¬ v.sl):∃ q os,d.w=Sort.grow (v.w.drewN q) os:=by
 have y:v.w.drawn≤d.w.drawn:=h.dr.resolve_left A;refine⟨d.w.drawn - v.w.drawn,d.w.heap.extract v.w.heap.size d.w.heap.size,?_⟩
 have x:d.w.heap=v.w.heap++d.w.heap.extract v.w.heap.size d.w.heap.size:=by
   apply Array.ext_getElem?
   intro i;have C:=h.size;rw[Array.getElem?_append]
   split
   · rename_i hi;exact h.block i hi zB_
   · rename_i hi
     rw[Array.getElem?_extract]
     split
     · congr 1;omega
     · rw[Array.getElem?_eq_none zs_]
 have k:=h.os;have m:=h.tape;have e:=h.output;obtain⟨B,⟨G,H,dn,E,I⟩,F⟩:=d;simp only at k m e x y;simp only[Sort.grow,World.drewN,World.mk.injEq];exact⟨x,m,by omega,k,e⟩
theorem yD_ (d off size:Nat) (w:World):CmpLays Tryz.prog 79 #[] Fc.cells 6 hK_ d off size w:=fun m os B _ x y=>by
  have h:=(cmpF_c x y).run ⟨fun _=>False,sortWorldK Fc.cells 6 w d off m B os,False⟩ ⟨by simp,by simp,fun _ h=>h.elim⟩ trivial;refine h.mono ?_;rintro e w' ⟨_,C,rfl,rfl,_,_,v⟩;obtain⟨q,k,A⟩:=ij_ v (fun h=>h);exact⟨rfl,q,k,A⟩
theorem ltF (x y:Fc):ltOf hK_ x y=decide (x.lt y):=by unfold ltOf;rw[decide_eq_decide];exact rw_ x y
theorem xs_:Sort.SWO (ltOf hK_) where
 irrefl x:=by rw[ltF];exact decide_eq_false x.lt_irr
 trans x y z h1 h2:=by rw[ltF,decide_eq_true_eq]at *;exact Fc.lt_trans h1 h2
 ntrans x y z h1 h2:=by
   rw[ltF,decide_eq_false_iff_not]at *;intro h;rcases Fc.lt_tri x y with g|g|g
   · exact h1 g
   · subst g;exact h2 h
   · exact h2 (Fc.lt_trans g h)
theorem totF (x y:Fc) (d:ltOf hK_ x y=false) (e:ltOf hK_ y x=false):x=y:=by
 rw[ltF,decide_eq_false_iff_not]at d e;rcases Fc.lt_tri x y with g|g|g
 ·exact absurd g d
 ·exact g
 exact absurd g e
theorem hF_ (d:List Fc):Sort.flatK Fc.cells 6 d.toArray=(d.flatMap Fc.cells).toArray:=by
 apply Array.ext_getElem?
 intro t;have e:(d.flatMap Fc.cells).toArray[t]? = (d.flatMap Fc.cells)[t]? := by simp
 rw[e]
 by_cases k:t<d.length*6
 ·have h:t / 6<d.length:=by omega
  have:=la_ Fc.cells 6 Fc.cells_len d (t / 6) (t%6) d[t / 6] (List.getElem?_eq_getElem h) (Nat.mod_lt _ zw_);rw[show t / 6*6+t%6=t by omega]at this;rw[this];simp only[Sort.flatK,Array.getElem?_map,List.size_toArray];rw[Array.getElem?_eq_getElem zax_];simp only[Array.getElem_range,Option.map_some];rw[getElem!_pos d.toArray (t / 6) zV_];have hl:t%6<(Fc.cells d[t / 6]).length:=by rw[Fc.cells_len];omega
  rw[List.getElem?_eq_getElem hl];simp only[List.getElem_toArray];rw[getElem!_pos (Fc.cells d[t / 6]) (t%6) hl]
 rw[List.getElem?_eq_none (by rw[dv_ Fc.cells 6 Fc.cells_len];omega),Array.getElem?_eq_none (by simp[Sort.flatK];omega)]
theorem lG_ {P:Program} {Γ:List Fct} {f:FuncId} {args:Array Value} {r:Value} {g:Nat} {cur:Array Value} {T:TypeId} {d:Array Value} (G:hh_ P f)
    (h:∀ v:Vw,v.sat [(g,.cells cur T (0,0))]→Calls P f args v.w fun e w'=>e=.returned r∧∃ n os,w'=Sort.grow (Sort.putRow id (Sort.ahead v.w n) g 0 d) os) :
    Tri P f args [(g,.cells cur T (0,0))] Γ (fun _:Unit=>r) (fun _=>[(g,.cells (Sort.putCells id 0 d cur) T (0,0))]) (fun _=>[]) :=
  ⟨G,fun v C _=>(h v C).mono fun e w' ⟨H,n,os,m⟩=>by
    have B:=(C.own _ List.mem_cons_self);have A:g<v.w.heap.size:=(Array.getElem?_eq_some_iff.1 B.1).1
    have y:∀ b,b<v.w.heap.size→w'.heap[b]? = if b=g then some (.cells (Sort.putCells id 0 d cur) T (0,0)) else v.w.heap[b]? := fun b y=>by
      rw[m];simp only[Sort.grow,Sort.putRow,Sort.mapBlock,Sort.ahead];rw[Array.getElem?_append_left zaO_,Array.getElem?_modify]
      by_cases e:b=g
      · subst e
        simp only[if_true,B.1,Option.map_some,Sort.onCells]
      · rw[if_neg (fun q=>e q.symm),if_neg e]
    have x:v.w.heap.size≤w'.heap.size:=by rw[m];simp[Sort.grow,Sort.putRow,Sort.mapBlock,Sort.ahead]
    refine⟨(),⟨v.im,w',v.sl⟩,H,rfl,⟨fun p F=>?_,by simp,fun b k=>Nat.lt_of_lt_of_le (C.lt b k) x⟩,trivial,⟨by rw[m];rfl,by rw[m];rfl,by rw[m];rfl,x,fun b k I=>?_,fun _ h=>h,fun _ h=>.inl h,fun b hm=>.inl (by simpa using hm),rfl,.inr (by rw[m];exact Nat.le_add_right _ _)⟩⟩
    · simp only[List.mem_singleton]at F
      subst F;exact⟨by show w'.heap[g]? = _;rw[y g A,if_pos rfl],B.2⟩
    · have E:b≠g:=by simpa using I
      show w'.heap[b]? = _
      rw[y b k,if_neg E]⟩
theorem oy_ {cur:Array Value} {d:List Value} (h:d.length≤cur.size):(Sort.putCells id 0 d.toArray cur).toList.take d.length=d:=by
 apply List.ext_getElem?
 intro j;rw[List.getElem?_take]
 split
 ·rename_i e
  simp only[Sort.putCells,Array.getElem?_toList,Array.getElem?_mapIdx];rw[Array.getElem?_eq_getElem zs_];simp only[Option.map_some,Nat.zero_le,true_and,Nat.zero_add,List.size_toArray,e,if_true,Nat.sub_zero];rw[List.getElem?_eq_getElem e,getElem!_pos d.toArray j zag_];rfl
 rename_i e
 rw[List.getElem?_eq_none zs_]
theorem oz_ {cur d:Array Value}:(Sort.putCells id 0 d cur).size=cur.size:=by simp[Sort.putCells]
theorem wx_ {g:Nat} {cur:Array Value} {T:TypeId} {d:List Value} {v:Vw} (q:v.sat [(g,.cells cur T (0,0))]) (m:cur.toList.take d.length=d):Sort.Holds id v.w g 0 d.toArray:=by
 intro j e;have h:=(q.own _ List.mem_cons_self).1;simp only[List.size_toArray]at e
 have k:cur[j]? = some d[j]:=by
   have:=congrArg (fun l=>l[j]?) m;simp only[List.getElem?_take,e,if_true,Array.getElem?_toList]at this;rw[this,List.getElem?_eq_getElem e]
 refine⟨?_,?_⟩
 ·simp only[World.cell?,Nat.zero_add,h,Option.isSome_none,Bool.false_eq_true,if_false]
  rw[k,getElem!_pos d.toArray j zag_];rfl
 simp[World.frozen?,h]
def eU_ (xs:List Fc):List Fc:=xs.mergeSort fun x y=>!(ltOf hK_) y x
theorem dL_ (d:List Fc):(eU_ d).length=d.length:=List.length_mergeSort _
theorem qp_ (d:List Fc) (x:Fc):x∈eU_ d↔x∈d:=List.mem_mergeSort
theorem vo_ {k:List Fc} (h:k.Nodup):Srt (eU_ k):=by
 have e:(eU_ k).Pairwise fun x y=>(!(ltOf hK_) y x)=true:=List.pairwise_mergeSort
   (fun a b c e d=>by simp only[Bool.not_eq_true']at *;exact xs_.ntrans c b a d e)
   (fun a b=>by
     simp only[Bool.or_eq_true,Bool.not_eq_true'];rw[ltF,ltF,decide_eq_false_iff_not,decide_eq_false_iff_not];rcases Fc.lt_tri a b with g|g|g
     · exact .inl fun q=>Fc.lt_irr a (Fc.lt_trans g q)
     · subst g;exact .inl a.lt_irr
     · exact .inr fun q=>Fc.lt_irr a (Fc.lt_trans q g)) k
 have d:(eU_ k).Nodup:=(List.mergeSort_perm k _).nodup_iff.2 h;refine (e.and d).imp ?_;rintro x y ⟨a,b⟩;simp only[Bool.not_eq_true',ltF,decide_eq_false_iff_not]at a;rcases Fc.lt_tri x y with g|g|g
 ·exact g
 ·exact absurd g b
 exact absurd g a
theorem xC_ {sv:Value} {k:List Fc} {Hr:Hp} (h:ay_ 36 6 sv k.length (k.flatMap Fc.cells) Hr) (hl:k.length≤1000000000000) :
    Tri Tryz.prog 78 #[sv,.func (.func 79) #[] #[]] Hr [] (fun _:{y:Hp // ay_ 36 6 sv (eU_ k).length ((eU_ k).flatMap Fc.cells) y}=>.tuple #[]) (fun y=>y.1) (fun _=>[]):=by
  rcases h.2 with⟨rfl,L,rfl⟩|⟨g,cap,cur,rfl,rfl,K,I,E,F⟩
  · obtain rfl:k=[]:=List.eq_nil_of_length_eq_zero L
    have T:=cT_ (P:=Tryz.prog) (H:=[]) (Γ:=[]) (callable Tryz.func78 rfl rfl) (fun v _ _=>(AnyF.slices_SortFunc_none Tryz.sortFc none 0 (.func (.func 79) #[] #[]) v.w).mono zC_);exact⟨T.callable,fun v a b=>(T.run v a b).mono zap_⟩
  · have Q:(k.flatMap Fc.cells).length=k.length*6:=dv_ Fc.cells 6 Fc.cells_len k
    have T:=lG_ (P:=Tryz.prog) (Γ:=[]) (r:=.tuple #[]) (g:=g) (cur:=cur) (T:=36) (d:=((eU_ k).flatMap Fc.cells).toArray) (f:=78) (args:=#[.slice (some ⟨g,0,none⟩) k.length cap,.func (.func 79) #[] #[]]) (callable Tryz.func78 rfl rfl) (fun v M=>by
      have O:=AnyQ.slices_SortFunc_total Tryz.sortFc 6 bB_ A_ Fc.cells Fc.cells_len (fun x u N=>List.all_eq_true.1 x.cells_one u N) hK_ xs_ 79 #[] g 0 cap k.toArray v.w (fun args w=>(callable Tryz.func79 rfl rfl) args w) (yD_ g 0 _ v.w) zaM_ (Array.getElem?_eq_some_iff.1 (M.own _ List.mem_cons_self).1).1 zF_ totF;refine O.mono ?_;rintro e w' ⟨rfl,n,os,rfl⟩;refine⟨rfl,n,os,?_⟩;unfold sortWorldK Sort.putRowK;rw[show ((k.toArray.toList.mergeSort fun x y=>!(ltOf hK_) y x))=eU_ k from rfl,hF_])
    refine⟨T.callable,fun v a b=>(T.run v a b).mono ?_⟩;rintro e w' ⟨x,J,m,C,A,q,B⟩;have G:((eU_ k).flatMap Fc.cells).length=k.length*6:=by rw[dv_ Fc.cells 6 Fc.cells_len,dL_]
    refine⟨⟨_,by rw[G,dL_],.inr ⟨g,cap,_,by rw[dL_],rfl,by rw[dL_];exact K,I,by rw[oz_];exact E,?_⟩⟩,J,m,C,A,q,B⟩;have:=oy_ (cur:=cur) (d:=(eU_ k).flatMap Fc.cells) (by rw[G,E];omega);rw[G]at this;rw[dL_];exact this
end Go.Proofs.YtpbnmnfdgckaiaaGreatDoor
