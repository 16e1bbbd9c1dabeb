/-
  Part of the proof of the law CanonGrows over this seat: the small logic, the data, the contracts of functions (no condition).
-/
import Derived.Test.YtpbnmnfdgckaiaaGreatDoorQCanonGrows9
import Derived.Test.YtpbnmnfdgckaiaaGreatDoorQCanonGrows8
import Derived.Shelf.SlSortCmp.NoneTotal
import Derived.Test.YtpbnmnfdgckaiaaGreatDoorProg
import Derived.Test.YtpbnmnfdgckaiaaGreatDoorQCanonGrows7
import Derived.Test.YtpbnmnfdgckaiaaGreatDoorQCanonGrows6
import Derived.Test.YtpbnmnfdgckaiaaGreatDoorQCanonGrows2
import Derived.Lib.Bytealg
import Derived.Lib.Small
import Derived.Test.YtpbnmnfdgckaiaaGreatDoorQCanonGrows3
set_option linter.unusedVariables false
set_option linter.unusedSimpArgs false
set_option linter.unusedSectionVars false
set_option maxHeartbeats 1000000
namespace Go.Proofs.YtpbnmnfdgckaiaaGreatDoor
open Go Go.Sx Go.Proofs
attribute [local irreducible] Code.wp wpList wpAnyH
open Go.Vs
theorem mi_ (x:Pc) (ro at':Str) (v:List (Ky×Pc)) (B A:Nat) (g pb kb ab ub ob ib rb sb fb:Nat) (ev:Value) (lv:Value) (I:Hp) (hm:dl_ Ky.val Pc.cells 174 10 v pb I) (G:v.length≤1000000000):Tri Tryz.prog 161 #[str ro,str at',zp_ B 0,zp_ A 0] ((B,.cells #[.int .i64 x.kind,str x.a,str x.b,str x.c,str x.r,str x.s,str x.t,.int .i64 x.lo,.int .i64 x.hi,.int .i64 x.frm] 174 (0,0))::(A,.cells #[zp_ g 0] 116 (0,0))::(g,.cells #[.map (some pb),lv,.map (some kb),ev,.map (some ab),.map (some ub),.map (some ob),.map (some ib),.map (some rb),.map (some sb),.map (some fb)] 124 (0,0))::I) [] (fun _:{H:Hp // dl_ Ky.val Pc.cells 174 10 (v++[((Ky.mk x.kind ro at'),x)]) pb H}=>.tuple #[]) (fun y=>(B,.cells #[.int .i64 x.kind,str x.a,str x.b,str x.c,str x.r,str x.s,str x.t,.int .i64 x.lo,.int .i64 x.hi,.int .i64 x.frm] 174 (0,0))::(A,.cells #[zp_ g 0] 116 (0,0))::(g,.cells #[.map (some pb),lv,.map (some kb),ev,.map (some ab),.map (some ub),.map (some ob),.map (some ib),.map (some rb),.map (some sb),.map (some fb)] 124 (0,0))::y.1) (fun _=>[]):=by
  refine j_ Tryz.func161 rfl rfl Tryz.ntmps161 rfl fun T=>?_;refine Zz 6 ?_;refine e_ (K_ fc_ rfl rfl) rfl (D_ Tryz.zeroValue208 rfl fun F=>x_ 0 Tryz.sizeOf208 rfl rfl rfl rfl rfl rfl (Zz 2 ?_));refine ao_ ((F,.cells #[.int .i64 x.kind,str ro,str at'] 208 (0,0))::((B,.cells #[.int .i64 x.kind,str x.a,str x.b,str x.c,str x.r,str x.s,str x.t,.int .i64 x.lo,.int .i64 x.hi,.int .i64 x.frm] 174 (0,0))::((A,.cells #[zp_ g 0] 116 (0,0))::((g,.cells #[.map (some pb),lv,.map (some kb),ev,.map (some ab),.map (some ub),.map (some ob),.map (some ib),.map (some rb),.map (some sb),.map (some fb)] 124 (0,0))::[])))) zk ?_;refine G_ 6 [0,1,2,3,4,5] zk zs (Zz 7 ?_);refine n_ 6 rfl zk (R_ I_ J_ W_ rfl rfl rfl rfl rfl rfl fun U=>Zz 2 ?_);refine w_ zs (n_ 7 rfl zk ?_);have E:=Nat.le_trans (dO_ v (Ky.mk x.kind ro at')) G;refine fE_ (k:=(Ky.mk x.kind ro at')) ie_ hm bW_ cg_ rfl rfl (c_ (c_ (c_ (c_ B_)))) rfl fun Q P R K O N L e m=>Zz 2 ?_
  refine w_ (fun _ a b=>⟨Vw.sat.sub (a.perm (f_ (c_ (g_ (g_ (c_ d_)))) (f_ (c_ (g_ (g_ (c_ d_)))) (f_ (c_ (g_ (g_ (c_ d_)))) (c_ (g_ (g_ (c_ d_)))))))),b⟩) (G_ 2 [8,10] zk (fun _ a b=>⟨Vw.sat.sub (a.perm (f_ (c_ (g_ (g_ (c_ d_)))) (f_ (c_ (g_ (g_ (c_ d_)))) (f_ (c_ (g_ (g_ (c_ d_)))) (c_ (g_ (g_ (c_ d_)))))))),b⟩) (Zz 3 ?_));refine n_ 9 rfl zk (ay_ (news:=List.flatMap Pc.cells [x]) wG_ m rfl rfl zp rfl (fB_ zp) (fun u S=>ak_ Pc.cells_one S) zG_ zr_ rfl fun J M q=>?_);have d:=zsa q;refine Zz 2 ?_;refine w_ (fun _ a b=>⟨Vw.sat.sub (a.perm (f_ (g_ (c_ (g_ (c_ d_)))) (f_ (g_ (c_ (g_ (c_ d_)))) (f_ (g_ (c_ (g_ (c_ d_)))) (g_ (c_ (g_ (c_ d_)))))))),b⟩) (n_ 11 rfl zk (dp_ (k:=(Ky.mk x.kind ro at')) (dd:=x) e (by rw[es_];exact d) rfl rfl rfl (ep_ (f_ (g_ d_) (F_ t_ t_))) fun C h=>?_));refine Zz 2 ?_;refine w_ zs (Zz 2 ?_);exact cB_ Tryz.results161 ⟨C,h⟩ rfl zp zt
theorem io_ {G:Prop} (h:G:=by
 have k:lps=lps++aI_ [x]:=by simp[aI_, *]
 exact cB_ Tryz.results114 ⟨(lv,d,F),h▸e,k▸hl⟩ rfl zp zt):G:=h
theorem ip_ {G:Prop} (h:G:=by
 have k:lps=lps++aI_ [x]:=by simp[aI_, *]
 exact cB_ Tryz.results114 ⟨(lv,B,F),h▸C,k▸hl⟩ rfl zp zt):G:=h
theorem lI_ {G:Prop} (h:G:=by
 refine aA_ (mi_ x x.r [] m v q g pb kb ab ub ob ib rb sb fb ev lv E hm zN_) rfl rfl zp zt rfl fun⟨d,e⟩=>?_;dsimp only;simp only[List.cons_append];refine Zz 2 ?_;have h:(m++[((Ky.mk x.kind x.r []),x)])=m++dr_ x:=by simp[dr_, *]
 exact io_):G:=h
theorem lJ_ {G:Prop} (h:G:=by
 refine Zz 2 ?_;refine w_ zs (G_ 1 [9,10] zk zs (Zz 3 ?_));refine n_ 11 rfl zk (u_ (Y_ (g_ d_) (Y_ (g_ d_) (Y_ (g_ d_) (bq_ (g_ d_))))) (dF_ 3 A bI_ rfl rfl rfl rfl (Zz 2 ?_)));refine w_ (fun _ a b=>⟨Vw.sat.sub (a.perm (f_ (c_ d_) (c_ d_))),b⟩) (Zz 2 ?_);have h:m=m++dr_ x:=by simp[dr_, *]
 have k:(lps++[x.r])=lps++aI_ [x]:=by simp[aI_, *]
 exact cB_ Tryz.results114 ⟨(G,E,K),h▸hm,k▸A⟩ rfl (f_ (c_ (c_ (c_ d_))) (F_ (c_ (c_ (c_ bf_))) (c_ (c_ B_)))) zt):G:=h
theorem iq_ {G:Prop} (h:G:=by
 refine aA_ (mi_ x [] x.a m v q g pb kb ab ub ob ib rb sb fb ev lv E hm zN_) rfl rfl zp zt rfl fun⟨d,e⟩=>?_;dsimp only;simp only[List.cons_append];refine Zz 2 ?_;have h:(m++[((Ky.mk x.kind [] x.a),x)])=m++dr_ x:=by simp[dr_, *]
 exact io_):G:=h
theorem uM_ (x:Pc) (m:List (Ky×Pc)) (lps:List Str) (g pb kb ab ub ob ib rb sb fb:Nat) (ev:Value) (lv:Value) (E F:Hp) (hm:dl_ Ky.val Pc.cells 174 10 m pb E) (hl:zR 9 1 ap_ lv lps F) (U:m.length≤900000000) (V:lps.length≤900000000):Tri Tryz.prog 114 #[zp_ g 0,Pc.val x] ((g,.cells #[.map (some pb),lv,.map (some kb),ev,.map (some ab),.map (some ub),.map (some ob),.map (some ib),.map (some rb),.map (some sb),.map (some fb)] 124 (0,0))::(E++F)) [] (fun _:{y:Value×Hp×Hp // dl_ Ky.val Pc.cells 174 10 (m++dr_ x) pb y.2.1∧zR 9 1 ap_ y.1 (lps++aI_ [x]) y.2.2}=>.tuple #[]) (fun y=>(g,.cells #[.map (some pb),y.1.1,.map (some kb),ev,.map (some ab),.map (some ub),.map (some ob),.map (some ib),.map (some rb),.map (some sb),.map (some fb)] 124 (0,0))::(y.1.2.1++y.1.2.2)) (fun _=>[]):=by
 refine j_ Tryz.func114 rfl rfl Tryz.ntmps114 rfl fun T=>?_;refine Zz 2 ?_;refine aa_ rfl rfl fun q=>aa_ rfl rfl fun v=>Zz 4 ?_
 refine e_ (bT_ rfl rfl) rfl (Zi 13 (fun I=>?_) fun I=>?_)
 ·refine Zi 6 (fun H=>?_) fun H=>?_
  ·refine Zi 5 (fun Q=>?_) fun Q=>?_
   ·refine Zi 6 (fun P=>?_) fun P=>?_
    ·refine Zi 6 (fun J=>?_) fun J=>?_
     ·refine Zi 7 (fun N=>?_) fun N=>?_
      ·refine Zi 5 (fun O=>?_) fun O=>?_
       ·refine Zi 6 (fun M=>?_) fun M=>?_
        ·refine Zi 6 (fun L=>?_) fun L=>?_
         ·refine Zz 6 ?_
          have h:m=m++dr_ x:=by simp[dr_, *]
          have k:lps=lps++aI_ [x]:=by simp[aI_, *]
          exact cB_ Tryz.results114 ⟨(lv,E,F),h▸hm,k▸hl⟩ rfl zp zt
         refine Zz 4 ?_;refine ao_ ((v,.cells #[.int .i64 x.kind,str x.a,str x.b,str x.c,str x.r,str x.s,str x.t,.int .i64 x.lo,.int .i64 x.hi,.int .i64 x.frm] 174 (0,0))::((q,.cells #[zp_ g 0] 116 (0,0))::[])) zk ?_;refine G_ 6 [0,1,2,3,5,6] zk zs (Zz 7 ?_);refine ct_ 4 7 rfl rfl zk ?_ ?_
         ·refine Zz 3 ?_
          refine w_ zs (n_ 7 rfl zk (R_ m_ H_ aK_ rfl rfl rfl rfl rfl rfl fun S=>Zz 2 ?_));refine w_ zs (n_ 8 rfl zk (ay_ (news:=List.flatMap ap_ [x.r]) cW_ hl rfl rfl zp rfl (be_ 0 rfl) (fun u R=>ak_ cx_ R) (by simp only[maxLen];first|omega|(simp;omega)) zN_ rfl fun G K I=>?_));have A:=zsa I;exact lJ_
         refine R_ m_ H_ aK_ rfl rfl rfl rfl rfl rfl fun S=>Zz 2 ?_
         refine w_ zs (n_ 4 rfl zk (Zz 3 ?_));refine w_ zs (n_ 8 rfl zk (ay_ (news:=List.flatMap ap_ [x.r]) cW_ hl rfl rfl zp rfl (be_ 0 rfl) (fun u R=>ak_ cx_ R) (by simp only[maxLen];first|omega|(simp;omega)) zN_ rfl fun G K H=>?_));have A:=zsa H;exact lJ_
        refine Zz 9 ?_;refine aA_ (mi_ x x.r [] m v q g pb kb ab ub ob ib rb sb fb ev lv E hm zN_) rfl rfl zp zt rfl fun⟨d,e⟩=>?_;dsimp only;simp only[List.cons_append];refine Zz 6 ?_;refine aA_ (mi_ x [] x.s (m++[((Ky.mk x.kind x.r []),x)]) v q g pb kb ab ub ob ib rb sb fb ev lv d e zN_) rfl rfl zp zt rfl fun⟨B,C⟩=>?_;dsimp only;simp only[List.cons_append];refine Zz 2 ?_;have h:((m++[((Ky.mk x.kind x.r []),x)])++[((Ky.mk x.kind [] x.s),x)])=m++dr_ x:=by simp[dr_, *]
        exact ip_
       refine Zz 8 ?_;exact lI_
      refine Zz 11 ?_;exact lI_
     refine Zz 9 ?_;refine aA_ (mi_ x [] x.a m v q g pb kb ab ub ob ib rb sb fb ev lv E hm zN_) rfl rfl zp zt rfl fun⟨d,e⟩=>?_;dsimp only;simp only[List.cons_append];refine Zz 8 ?_;refine aA_ (mi_ x x.r x.a (m++[((Ky.mk x.kind [] x.a),x)]) v q g pb kb ab ub ob ib rb sb fb ev lv d e zN_) rfl rfl zp zt rfl fun⟨B,C⟩=>?_;dsimp only;simp only[List.cons_append];refine Zz 2 ?_;have h:((m++[((Ky.mk x.kind [] x.a),x)])++[((Ky.mk x.kind x.r x.a),x)])=m++dr_ x:=by simp[dr_, *]
     exact ip_
    refine Zz 9 ?_;refine aA_ (mi_ x [] x.a m v q g pb kb ab ub ob ib rb sb fb ev lv E hm zN_) rfl rfl zp zt rfl fun⟨d,e⟩=>?_;dsimp only;simp only[List.cons_append];refine Zi 8 (fun J=>?_) fun J=>?_
    ·refine Zz 5 ?_
     have h:(m++[((Ky.mk x.kind [] x.a),x)])=m++dr_ x:=by simp[dr_, *]
     exact io_
    refine Zz 7 ?_;refine aA_ (mi_ x [] x.b (m++[((Ky.mk x.kind [] x.a),x)]) v q g pb kb ab ub ob ib rb sb fb ev lv d e zN_) rfl rfl zp zt rfl fun⟨B,C⟩=>?_;dsimp only;simp only[List.cons_append];refine Zz 2 ?_;have h:((m++[((Ky.mk x.kind [] x.a),x)])++[((Ky.mk x.kind [] x.b),x)])=m++dr_ x:=by simp[dr_, *]
    exact ip_
   refine Zz 8 ?_;exact iq_
  refine Zz 11 ?_;exact iq_
 refine Zz 11 ?_;exact iq_
structure NewE where
  g:Nat
  pb:Nat
  kb:Nat
  ab:Nat
  ub:Nat
  ob:Nat
  ib:Nat
  rb:Nat
  sb:Nat
  fb:Nat
  lv:Value
  hm:Hp
  hl:Hp
def NewE.ok (ps:List Pc) (y:NewE):Prop:=dl_ Ky.val Pc.cells 174 10 (aY_ ps) y.pb y.hm∧zR 9 1 ap_ y.lv (aI_ ps) y.hl
def NewE.own (y:NewE):Hp:=(y.g,.cells #[.map (some y.pb),y.lv,.map (some y.kb),.nilFunc,.map (some y.ab),.map (some y.ub),.map (some y.ob),.map (some y.ib),.map (some y.rb),.map (some y.sb),.map (some y.fb)] 124 (0,0))::(y.kb,.map #[] 0)::(y.ab,.map #[] 0)::(y.ub,.map #[] 0)::(y.ob,.map #[] 0)::(y.ib,.map #[] 0)::(y.rb,.map #[] 0)::(y.sb,.map #[] 0)::(y.fb,.map #[] 0)::(y.hm++y.hl)
theorem gl_ {p:List Pc} {i:Nat} {x:Pc} (h:p[i]? = some x):uniq [] (List.take (i+1) p)=if x.zf∈uniq [] (List.take i p) then uniq [] (List.take i p) else uniq [] (List.take i p)++[x.zf]:=by
  have d:∀ (l:List Pc) (r:List Pc),uniq l (r++[x])=if x.zf∈uniq l r then uniq l r else uniq l r++[x.zf]:=by
    intro l r
    induction r generalizing l with
    | nil=>rfl
    | cons y r ih=>exact ih _
  rw[List.take_add_one,h,Option.toList_some];exact d _ _
theorem uh_ (l:List Pc) (x:Pc):aY_ (l++[x])=aY_ l++dr_ x:=by simp[aY_]
theorem pH_ (l:List Pc) (x:Pc):aI_ (l++[x])=aI_ l++aI_ [x]:=by simp[aI_]
theorem vM_ (x:Pc):(dr_ x).length≤2:=by unfold dr_;(repeat' split)<;>simp
theorem nz_:∀ l:List Pc,(aY_ l).length≤2*l.length
  | []=>by simp[aY_]
  | x::l=>by
    have:=nz_ l;have d:=vM_ x;simp only[aY_,List.flatMap_cons,List.length_append,List.length_cons]at this ⊢;omega
theorem ml_ (l:List Pc):(aI_ l).length≤l.length:=by
  simp only[aI_,List.length_map];exact List.length_filter_le _ _
theorem re_ (p:List Pc) (J:Option Addr) (N:Nat) (hp:p.length≤100000000):Tri Tryz.prog 72 #[.slice J (List.length p) N] [] [V_ J (List.flatMap Pc.cells p)] (fun y:{y:NewE // y.ok (uniq [] p)}=>zp_ y.1.g 0) (fun y=>y.1.own) (fun _=>[]):=by
 refine j_ Tryz.func72 rfl rfl Tryz.ntmps72 rfl fun a8=>?_;refine Zz 7 ?_;refine bn_ rfl fun B=>bn_ rfl fun K=>bn_ rfl fun M=>bn_ rfl fun H=>bn_ rfl fun E=>bn_ rfl fun I=>bn_ rfl fun F=>bn_ rfl fun G=>bn_ rfl fun L=>e_ (K_ xy_ rfl rfl) rfl ?_
 refine aa_ rfl rfl fun x=>Zz 5 ?_
 refine bn_ rfl fun O=>Zz 12 ?_
 refine P_ (ι:={y:Nat×Array MapEntry×Nat×Hp×Value×Hp // y.1≤List.length p∧SetE Pc.val y.2.1 (uniq [] (List.take y.1 p))∧dl_ Ky.val Pc.cells 174 10 (aY_ (uniq [] (List.take y.1 p))) B y.2.2.2.1∧zR 9 1 ap_ y.2.2.2.2.1 (aI_ (uniq [] (List.take y.1 p))) y.2.2.2.2.2}) (fun y=>[(3,zp_ x 0),(4,.map (some O)),(19,.slice J (List.length p) N),(20,.int .i64 (List.length p:Int)),(21,.int .i64 (y.1.1:Int))]) (fun y=>((x,.cells #[.map (some B),y.1.2.2.2.2.1,.map (some K),.nilFunc,.map (some M),.map (some H),.map (some E),.map (some I),.map (some F),.map (some G),.map (some L)] 124 (0,0))::((O,.map y.1.2.1 y.1.2.2.1)::((K,.map #[] 0)::((M,.map #[] 0)::((H,.map #[] 0)::((E,.map #[] 0)::((I,.map #[] 0)::((F,.map #[] 0)::((G,.map #[] 0)::((L,.map #[] 0)::(y.1.2.2.2.1++y.1.2.2.2.2.2)))))))))))) (fun y=>[V_ J (List.flatMap Pc.cells p)]) (fun y=>List.length p - y.1.1) ⟨((0:Nat),#[],0,[(B,.map #[] 0)],(.slice none 0 0),[]),by simp,by exact SetE.nil,by exact dl_.nil _ _,(aB_.nil 9 1)⟩ zl zp zh ?_;rintro ⟨⟨i,es,cs,Z,C,P⟩,hi,hE,hm,e⟩;dsimp only at hi hE hm e ⊢;have a4:=kn_ (List.take i p) [];have a9:=List.length_take_le i p;simp only[List.length_nil]at a4;have a0:(aY_ (uniq [] (List.take i p))).length≤900000000:=by have:=nz_ (uniq [] (List.take i p));omega
 have a1:(aI_ (uniq [] (List.take i p))).length≤900000000:=by have:=ml_ (uniq [] (List.take i p));omega
 refine Zi 2 (fun W=>?_) fun W=>?_
 ·refine Zz 13 ?_
  have a2:List.take i p=p:=List.take_of_length_le zr_;rw[a2]at hm e;exact af_ Tryz.results72 ⟨NewE.mk x B K M H E I F G L C Z P,hm,e⟩ rfl (f_ d_ (f_ (c_ d_) (f_ (c_ d_) (f_ (c_ d_) (f_ (c_ d_) (f_ (c_ d_) (f_ (c_ d_) (f_ (c_ d_) (f_ (c_ d_) (F_ (c_ t_) B_)))))))))) zt
 obtain⟨A,Q,d,a5⟩:=zge (show i<List.length p by omega);refine Zz 12 ?_;refine D_ W_ rfl fun a7=>x_ 0 J_ rfl rfl rfl rfl rfl rfl (Zz 5 ?_)
 refine x_ 0 av_ rfl rfl rfl rfl rfl rfl (Zz 6 ?_);refine C_ (bJ_ (k:=Pc.zf Q) (q:=(uniq [] (List.take i p))) wm_ jA_ aM_ rfl rfl hE (fun v h _=>(h.own _ (List.mem_of_getElem? (i:=2) rfl)).1)) rfl fun a3 m=>e_ (aJ_ rfl) rfl (Zz 2 ?_)
 cases a3
 ·replace m:=zdf m
  refine Zz 5 ?_;refine nF_ (k:=Pc.zf Q) (q:=(uniq [] (List.take i p))) 2 wm_ (.inr rfl) jA_ rfl rfl rfl rfl hE fun Y a6 R=>Zz 5 ?_
  refine i_ (uM_ Q.zf (aY_ (uniq [] (List.take i p))) (aI_ (uniq [] (List.take i p))) x B K M H E I F G L .nilFunc C Z P hm e  a0 a1) rfl (f_ (c_ d_) (F_ (c_ (c_ (c_ (c_ (c_ (c_ (c_ (c_ (c_ (c_ t_)))))))))) (c_ (c_ (c_ (c_ (c_ (c_ (c_ (c_ (c_ B_))))))))))) zt rfl fun⟨⟨X,S,T⟩,V,U⟩=>?_;dsimp only;simp only[List.cons_append,List.append_assoc];refine Zz 2 ?_;refine u_ (Y_ d_ (Y_ (g_ (g_ d_)) (Y_ (g_ (g_ d_)) (Y_ (g_ (g_ d_)) (Y_ (g_ (g_ d_)) (Y_ (g_ (g_ d_)) (Y_ (g_ (g_ d_)) (Y_ (g_ (g_ d_)) (Y_ (g_ (g_ d_)) (Y_ (g_ (g_ d_)) (bq_ (g_ bf_)))))))))))) (Zz 5 ?_);exact y_ ⟨(i+1,Y,a6,S,X,T),A,by rw[gl_ d];exact R,by rw[gl_ d,if_neg zB_,uh_];exact V,(by rw[gl_ d,if_neg zB_,pH_];exact U)⟩ zu_ zl zp zh
 replace m:=zdt m;refine Zz 8 ?_;exact y_ ⟨(i+1,es,cs,Z,C,P),A,by rw[gl_ d,if_pos zB_];exact hE,by rw[gl_ d,if_pos zB_];exact hm,(by rw[gl_ d,if_pos zB_];exact e)⟩ zu_ zl (f_ (c_ d_) (f_ (c_ d_) (f_ (c_ d_) (f_ (c_ d_) (f_ (c_ d_) (f_ (c_ d_) (f_ (c_ d_) (f_ (c_ d_) (f_ (c_ d_) (f_ (c_ d_) (F_ (c_ t_) B_))))))))))) zh
theorem mX_ {P:Program} {N:Nf} {fr:Fr} {H:Hp} {Γ:List Fct} {ty:TypeId} {K:Type} [DecidableEq K] {y:K→Value} {t h m:TypeId} {x:Operand} {d c:Nat} {es:Array MapEntry} {q:List K} (hE:SetE y es q) (e:∀ w,(underlying t).run P w=.ok (.map h m) w) (k:Fr.ev fr x=some (.map (some d))) (hm:∀ v,v.sat H→ag_ Γ v→v.w.heap[d]? = some (.map es c)) :
    Yld P N fr H Γ (.call ⟨.builtin .len,#[x],#[t]⟩) ty (.int .i64 (q.length:Int)):=by
  rw[← hE.size];exact uZ_ e k hm
def andF (a b:Fct):Fct where
  p v:=a.p v∧b.p v
  mono:=fun v v' h ⟨h1,h2⟩=>⟨a.mono v v' h h1,b.mono v v' h h2⟩
def StA (b9 kb fb:Nat) (nw fm:List Fc) (H:Hp):Prop:=∃ sv es c es' c' q Hq,H=(b9,.cells #[sv] 26 (0,0))::(kb,.map es c)::([(fb,.map es' c')]++Hq)∧aB_ 36 6 sv nw.length (nw.flatMap Fc.cells) Hq∧SetE Fc.val es nw∧SetE Fc.val es' q∧∀ f,f∈q↔f∈fm
theorem lH_ {G:Prop} (h:G:=by
 have d:bD_ m f nw=nw:=by unfold bD_;rw[if_neg (by rintro ⟨S,E⟩;first|omega|exact absurd zB_ E)]
 exact cB_ Tryz.results73 ⟨_,sv,es,c,x,M,q,L,rfl,by rw[d];exact T,by rw[d];exact hE,Q,N⟩ rfl zp zt):G:=h
theorem yA_ (f:Fc) (nw fm:List Fc) (m:Nat) (hm:m≤65536) (g U V K kb fb:Nat) (W Z c3 c4 c5 c6 c7 c8 c9 O sv:Value) (es x:Array MapEntry) (c M:Nat) (q:List Fc) (L:Hp) (T:aB_ 36 6 sv nw.length (nw.flatMap Fc.cells) L) (hE:SetE Fc.val es nw) (Q:SetE Fc.val x q) (N:∀ f,f∈q↔f∈fm):Tri Tryz.prog 73 #[Fc.val f,zp_ U 0,zp_ V 0,zp_ K 0] ((K,.cells #[sv] 26 (0,0))::(kb,.map es c)::([(fb,.map x M)]++L)) [ck_ U (.cells #[zp_ g 0] 116 (0,0)),ck_ V (.cells #[.int .i64 (m:Int)] 3 (0,0)),ck_ g (.cells #[W,Z,.map (some kb),c3,c4,c5,c6,c7,c8,c9,O] 124 (0,0))] (fun _:{H:Hp // StA K kb fb (bD_ m f nw) fm H}=>.tuple #[]) (fun y=>y.1) (fun _=>[]):=by
 refine j_ Tryz.func73 rfl rfl Tryz.ntmps73 rfl fun Y=>?_;refine Zz 2 ?_;refine aa_ rfl rfl fun P=>Zz 4 ?_
 refine G_ 8 [0,1,2,3,4,5,6,7] zk zs (Zz 4 ?_);refine z_ rfl (mX_ hE bw_ rfl (fun v h _=>(h.own _ (List.mem_of_getElem? (i:=2) rfl)).1)) rfl (Zi 1 (fun A=>?_) fun A=>?_)
 ·refine Zz 2 ?_
  refine G_ 0 [8,9,10,11,12,13,14,15] zk zs (Zz 14 ?_);exact lH_
 refine Zz 2 ?_;refine G_ 0 [8,9,10,11,12,13,14,15] zk zs (Zz 5 ?_);refine en_ rfl rfl rfl (bJ_ (k:=f) kB_ bw_ aM_ rfl rfl hE (fun v h _=>(h.own _ (List.mem_of_getElem? (i:=2) rfl)).1)) rfl fun R e=>bK_ rfl rfl rfl (aJ_ rfl) rfl (Zz 4 ?_)
 cases R
 ·replace e:=zdf e
  refine Zz 2 ?_;refine ao_ ((P,.cells #[.int .i64 f.kind,str f.a,str f.b,str f.r,.int .i64 f.lo,.int .i64 f.hi] 36 (0,0))::((K,.cells #[sv] 26 (0,0))::[])) zk ?_;refine G_ 1 [0,1,2,3,4] zk zs (Zz 6 ?_);refine n_ 5 rfl zk (nF_ (k:=f) 2 kB_ (.inr rfl) bw_ rfl rfl rfl rfl hE fun I J C=>Zz 8 ?_);refine R_ A_ E_ ae_ rfl rfl rfl rfl rfl rfl fun a0=>?_;refine ay_ (news:=List.flatMap Fc.cells [f]) eu_ T rfl rfl (c_ (c_ (c_ (c_ bf_)))) rfl (be_ 0 rfl) (fun u X=>ak_ Fc.cells_one X) zG_ zr_ rfl fun F G A=>?_;have B:=zsa A;refine u_ (Y_ (g_ d_) (Y_ (g_ d_) (Y_ (g_ d_) (bq_ (g_ d_))))) (dF_ 2 B aH_ rfl rfl rfl rfl (Zz 2 ?_));have d:bD_ m f nw=nw++[f]:=by unfold bD_;rw[if_pos ⟨by omega,by assumption⟩]
  exact cB_ Tryz.results73 ⟨_,F,I,J,x,M,q,G,rfl,by rw[d];exact B,by rw[d];rw[if_neg zB_]at C;exact C,Q,N⟩ rfl (f_ (c_ (c_ d_)) (f_ (c_ (c_ d_)) (F_ (c_ (c_ bf_)) (c_ B_)))) zt
 replace e:=zdt e;refine Zz 3 ?_;exact lH_
def EA (m:Nat) (hm:m≤65536) (B:EngB) (b7 b8 b9 kb fb:Nat):Emt Tryz.prog 36 where
 stp:=bD_ m
 kof:=idk
 St:=StA b9 kb fb
 fn:=73
 caps:=[zp_ b7 0,zp_ b8 0,zp_ b9 0]
 ef:=andF (ck_ b7 (.cells #[zp_ B.g 0] 116 (0,0))) (andF (ck_ b8 (.cells #[.int .i64 (m:Int)] 3 (0,0))) (ck_ B.g (.cells #[.map (some B.pb),.slice B.lad B.lps.length B.lcap,.map (some kb),.func (.func 73) #[] #[zp_ b7 0,zp_ b8 0,zp_ b9 0],.map (some B.ab),.map (some B.ub),.map (some B.ob),.map (some B.ib),.map (some B.rb),.map (some B.sb),.map (some fb)] 124 (0,0))))
 kb:=kb
 fb:=fb
 grows:=ga_ m
 emit:=fun f nw fm H hS=>by
   obtain⟨sv,es,c,es2,c2,q,Hq,rfl,h1,h2,h3,h4⟩:=hS;exact qy_ [] (yA_ f nw fm m hm B.g b7 b8 b9 kb fb _ _ _ _ _ _ _ _ _ _ sv es es2 c c2 q Hq h1 h2 h3 h4) (fun v _ h=>⟨h.1.1,h.1.2.1,h.1.2.2,trivial⟩)
 known:=fun hS=>by
   obtain⟨sv,es,c,es2,c2,q,Hq,rfl,h1,h2,h3,h4⟩:=hS;exact⟨es,c,by simp,h2⟩
 firm:=fun hS=>by
   obtain⟨sv,es,c,es2,c2,q,Hq,rfl,h1,h2,h3,h4⟩:=hS;exact⟨es2,c2,q,by simp,h3,h4⟩
 setf:=fun {nw fm H} f hS=>by
   obtain⟨sv,es,c,es2,c2,q,Hq,rfl,h1,h2,h3,h4⟩:=hS;refine⟨es2,c2,q,(b9,.cells #[sv] 26 (0,0))::(kb,.map es c)::Hq,bq_ zp,h3,h4,fun es' c' h5=>⟨(b9,.cells #[sv] 26 (0,0))::(kb,.map es c)::([(fb,.map es' c')]++Hq),⟨sv,es,c,es',c',_,Hq,rfl,h1,h2,h5,?_⟩,bq_ zp⟩⟩;intro z
   split
   · rename_i hz;rw[h4,List.mem_cons];constructor
     · exact .inr
     · rintro (rfl|h)
       · exact (h4 _).1 hz
       · exact h
   · rw[List.mem_append,List.mem_singleton,h4,List.mem_cons,or_comm]
def fvC (v:Value):List Value:=[v]
theorem jo_ (v:Value):(fvC v).length=1:=rfl
theorem tN_ {P:Program} {N:Nf} {fr:Fr} {H:Hp} {Γ:List Fct} {ty:TypeId} {t e:TypeId} {n sz:Nat} {parts:List (Nat×Operand)} {vs:List (Nat×Value)} {z cs:List Value} (q:∀ w,(zeroValue t).run P w=.ok (.agg z.toArray) w) (k:∀ w,(underlying t).run P w=.ok (.array n e) w) (m:∀ w,(sizeOf e).run P w=.ok sz w) (v:Fr.evp fr parts=some vs) (x:mp_ (fun i=>some (i*sz,sz)) z vs=some cs) :
    Yld P N fr H Γ (.build t parts.toArray) ty (.agg cs.toArray) :=
  oI_ (fun a h w=>by
    have:=h.evp v;rw[List.map_toArray,this];have d:=iU_ _ _ _ _ x;simp only[Instr.build,Sem.run_bind,q,Result.andThen_ok,k,m,Value.cells,d,Sem.run_pure])
def rlV (g:Nat) (k:Nat):List Value:=if k=1 then [(Value.func (.func 120) #[zp_ g 0] #[]),(Value.func (.func 121) #[zp_ g 0] #[]),(Value.func (.func 122) #[zp_ g 0] #[]),(Value.func (.func 123) #[zp_ g 0] #[]),(Value.func (.func 124) #[zp_ g 0] #[]),(Value.func (.func 125) #[zp_ g 0] #[])] else if k=2 then [(Value.func (.func 126) #[zp_ g 0] #[]),(Value.func (.func 127) #[zp_ g 0] #[]),(Value.func (.func 128) #[zp_ g 0] #[]),(Value.func (.func 129) #[zp_ g 0] #[])] else [(Value.func (.func 130) #[zp_ g 0] #[]),(Value.func (.func 131) #[zp_ g 0] #[])]
theorem xJ_ (g:Nat):Tri Tryz.prog 76 #[zp_ g 0] [] [] (fun y:Nat×Nat×Nat=>.agg #[.slice none 0 0,.slice (some ⟨y.1,0,none⟩) 6 6,.slice (some ⟨y.2.1,0,none⟩) 4 4,.slice (some ⟨y.2.2,0,none⟩) 2 2]) (fun _=>[]) (fun y=>[V_ (some ⟨y.1,0,none⟩) (List.flatMap fvC (rlV g 1)),V_ (some ⟨y.2.1,0,none⟩) (List.flatMap fvC (rlV g 2)),V_ (some ⟨y.2.2,0,none⟩) (List.flatMap fvC (rlV g 3))]):=by
  refine j_ Tryz.func76 rfl rfl Tryz.ntmps76 rfl fun x=>?_;refine Zz 2 ?_;refine D_ Tryz.zeroValue128 rfl fun A=>Zz 5 ?_
  refine e_ (bT_ (us:=[zp_ g 0]) (vs:=[]) rfl rfl) rfl (Zz 1 ?_);refine e_ (bT_ (us:=[zp_ g 0]) (vs:=[]) rfl rfl) rfl (Zz 1 ?_);refine e_ (bT_ (us:=[zp_ g 0]) (vs:=[]) rfl rfl) rfl (Zz 1 ?_);refine e_ (bT_ (us:=[zp_ g 0]) (vs:=[]) rfl rfl) rfl (Zz 1 ?_);refine e_ (bT_ (us:=[zp_ g 0]) (vs:=[]) rfl rfl) rfl (Zz 1 ?_);refine e_ (bT_ (us:=[zp_ g 0]) (vs:=[]) rfl rfl) rfl (R_ bm_ fe_ Tryz.zeroValue120 rfl rfl rfl rfl rfl rfl fun h=>?_);refine bu_ (List.flatMap fvC [(Value.func (.func 120) #[zp_ g 0] #[]),(Value.func (.func 121) #[zp_ g 0] #[]),(Value.func (.func 122) #[zp_ g 0] #[]),(Value.func (.func 123) #[zp_ g 0] #[]),(Value.func (.func 124) #[zp_ g 0] #[]),(Value.func (.func 125) #[zp_ g 0] #[])]) d_ rfl ?_;refine Zz 1 ?_;refine e_ (bT_ (us:=[zp_ g 0]) (vs:=[]) rfl rfl) rfl (Zz 1 ?_);refine e_ (bT_ (us:=[zp_ g 0]) (vs:=[]) rfl rfl) rfl (Zz 1 ?_);refine e_ (bT_ (us:=[zp_ g 0]) (vs:=[]) rfl rfl) rfl (Zz 1 ?_);refine e_ (bT_ (us:=[zp_ g 0]) (vs:=[]) rfl rfl) rfl (R_ bm_ fe_ Tryz.zeroValue120 rfl rfl rfl rfl rfl rfl fun d=>?_);refine bu_ (List.flatMap fvC [(Value.func (.func 126) #[zp_ g 0] #[]),(Value.func (.func 127) #[zp_ g 0] #[]),(Value.func (.func 128) #[zp_ g 0] #[]),(Value.func (.func 129) #[zp_ g 0] #[])]) d_ rfl ?_;refine Zz 1 ?_;refine e_ (bT_ (us:=[zp_ g 0]) (vs:=[]) rfl rfl) rfl (Zz 1 ?_);refine e_ (bT_ (us:=[zp_ g 0]) (vs:=[]) rfl rfl) rfl (R_ bm_ fe_ Tryz.zeroValue120 rfl rfl rfl rfl rfl rfl fun e=>?_);refine bu_ (List.flatMap fvC [(Value.func (.func 130) #[zp_ g 0] #[]),(Value.func (.func 131) #[zp_ g 0] #[])]) d_ rfl ?_;refine e_ (tN_ Tryz.zeroValue128 tY_ Tryz.sizeOf127 rfl rfl) rfl (x_ 0 Tryz.sizeOf128 rfl rfl rfl rfl rfl rfl (Zz 3 ?_));exact hi_ (h,d,e) (fun q v m k=>ex_ (us:=[.slice none 0 0,.slice (some ⟨h,0,none⟩) (List.length [(Value.func (.func 120) #[zp_ g 0] #[]),(Value.func (.func 121) #[zp_ g 0] #[]),(Value.func (.func 122) #[zp_ g 0] #[]),(Value.func (.func 123) #[zp_ g 0] #[]),(Value.func (.func 124) #[zp_ g 0] #[]),(Value.func (.func 125) #[zp_ g 0] #[])]) 6,.slice (some ⟨d,0,none⟩) (List.length [(Value.func (.func 126) #[zp_ g 0] #[]),(Value.func (.func 127) #[zp_ g 0] #[]),(Value.func (.func 128) #[zp_ g 0] #[]),(Value.func (.func 129) #[zp_ g 0] #[])]) 4,.slice (some ⟨e,0,none⟩) (List.length [(Value.func (.func 130) #[zp_ g 0] #[]),(Value.func (.func 131) #[zp_ g 0] #[])]) 2]) 0 Tryz.results76 Tryz.isAgg128 Tryz.sizeOf128 rfl rfl rfl q v m k) l_ zf
theorem fX_ (B:EngB) (E:Emt Tryz.prog 36) (R:EngA) (W:List (Ky×Pc)) (x:Ix) (f:Fc) (nw fm:List Fc) (Hs:Hp) (hS:E.St nw fm Hs) (F L S N Hr C:Hp) (hI:IxO 9 36 B x ⟨F,L,S,N,Hr,C⟩) {n:FuncId} {args:Array Value} {e:Hp→Prop} (Z:∀ A:EngA,A.p=R.p→Tri Tryz.prog n args Hs [gF B E,pF B W A,aF B x A,uF B x A,oF B x A,iF B x A,rF B x A,sF B x A,E.ef] (fun _:{H':Hp // e H'}=>.tuple #[]) (fun y=>y.1) (fun _=>[])) :
    Tri Tryz.prog n args ((F++(L++(S++(N++(Hr++C)))))++Hs) [gF B E,pF B W R,E.ef] (fun _:{H':Hp // e H'}=>.tuple #[]) (fun y=>(F++(L++(S++(N++(Hr++C)))))++y.1) (fun _=>[]):=by
  obtain⟨X,U,V,hi,Y,hm⟩:=hI;dsimp only at X U V hi Y hm;obtain⟨m,k⟩:=X.lent (P:=Tryz.prog) my_;obtain⟨G,T⟩:=U.lent (P:=Tryz.prog) my_;obtain⟨H,I⟩:=V.lent (P:=Tryz.prog) eh_;obtain⟨O,J⟩:=hi.lent (P:=Tryz.prog) eh_;obtain⟨q,K⟩:=Y.lent (P:=Tryz.prog) eh_;obtain⟨Q,M⟩:=hm.lent (P:=Tryz.prog) eh_;refine qy_ _ (Z ⟨R.p,m,G,H,O,q,Q⟩ rfl) fun v hB h=>⟨h.1,h.2.1,k v fun p d=>hB p zah_,T v fun p d=>hB p zah_,I v fun p d=>hB p zah_,J v fun p d=>hB p zah_,K v fun p d=>hB p zah_,M v fun p d=>hB p zah_,h.2.2.1,trivial⟩
theorem rl10_c (B:EngB) (E:Emt Tryz.prog 36) (J:EngA) (d:List (Ky×Pc)) (x:Ix) (f:Fc) (nw fm:List Fc) (Hs:Hp) (hS:E.St nw fm Hs) (C m F v Hr q:Hp) (K:IxO 9 36 B x ⟨C,m,F,v,Hr,q⟩) (I:∀ k,(lat d k).length≤1000000000) (G:∀ k,(lat x.above k).length≤1000000000∧(lat x.under k).length≤1000000000) (H:∀ k,(lat x.frm k).length≤1000000000∧(lat x.into k).length≤1000000000∧(lat x.ranges k).length≤1000000000∧(lat x.firms k).length≤1000000000) (N:f.kind=3→-1099511627776≤f.lo∧f.lo≤f.hi∧f.hi≤1099511627776) (M:f.kind=3→∀ y∈lat d (Ky.mk 9 f.r []),-1099511627776≤y.lo∧y.lo≤y.hi∧y.hi≤1099511627776) (hk:f.kind=1):Tri Tryz.prog 120 #[zp_ B.g 0,f.val] ((C++(m++(F++(v++(Hr++q)))))++Hs) [gF B E,pF B d J,E.ef] (fun _:{H':Hp // E.St (rl E.stp E.kof d x f 0 (nw,fm)).1 (rl E.stp E.kof d x f 0 (nw,fm)).2 H'}=>.tuple #[]) (fun y=>(C++(m++(F++(v++(Hr++q)))))++y.1) (fun _=>[]):=by
  refine fX_ B E J d x f nw fm Hs hS C m F v Hr q K fun A L=>?_;have h:=uH_ B E A d x f nw fm Hs hS I G H;have e:rl E.stp E.kof d x f 0 (nw,fm)=_:=if_pos hk;rw[e];exact h
theorem rl11_c (B:EngB) (E:Emt Tryz.prog 36) (J:EngA) (d:List (Ky×Pc)) (x:Ix) (f:Fc) (nw fm:List Fc) (Hs:Hp) (hS:E.St nw fm Hs) (C m F v Hr q:Hp) (K:IxO 9 36 B x ⟨C,m,F,v,Hr,q⟩) (I:∀ k,(lat d k).length≤1000000000) (G:∀ k,(lat x.above k).length≤1000000000∧(lat x.under k).length≤1000000000) (H:∀ k,(lat x.frm k).length≤1000000000∧(lat x.into k).length≤1000000000∧(lat x.ranges k).length≤1000000000∧(lat x.firms k).length≤1000000000) (N:f.kind=3→-1099511627776≤f.lo∧f.lo≤f.hi∧f.hi≤1099511627776) (M:f.kind=3→∀ y∈lat d (Ky.mk 9 f.r []),-1099511627776≤y.lo∧y.lo≤y.hi∧y.hi≤1099511627776) (hk:f.kind=1):Tri Tryz.prog 121 #[zp_ B.g 0,f.val] ((C++(m++(F++(v++(Hr++q)))))++Hs) [gF B E,pF B d J,E.ef] (fun _:{H':Hp // E.St (rl E.stp E.kof d x f 1 (nw,fm)).1 (rl E.stp E.kof d x f 1 (nw,fm)).2 H'}=>.tuple #[]) (fun y=>(C++(m++(F++(v++(Hr++q)))))++y.1) (fun _=>[]):=by
  refine fX_ B E J d x f nw fm Hs hS C m F v Hr q K fun A L=>?_;have h:=both_c B E A d x f nw fm Hs hS I G H;have e:rl E.stp E.kof d x f 1 (nw,fm)=_:=if_pos hk;rw[e];exact h
theorem rl12_c (B:EngB) (E:Emt Tryz.prog 36) (J:EngA) (d:List (Ky×Pc)) (x:Ix) (f:Fc) (nw fm:List Fc) (Hs:Hp) (hS:E.St nw fm Hs) (C m F v Hr q:Hp) (K:IxO 9 36 B x ⟨C,m,F,v,Hr,q⟩) (I:∀ k,(lat d k).length≤1000000000) (G:∀ k,(lat x.above k).length≤1000000000∧(lat x.under k).length≤1000000000) (H:∀ k,(lat x.frm k).length≤1000000000∧(lat x.into k).length≤1000000000∧(lat x.ranges k).length≤1000000000∧(lat x.firms k).length≤1000000000) (N:f.kind=3→-1099511627776≤f.lo∧f.lo≤f.hi∧f.hi≤1099511627776) (M:f.kind=3→∀ y∈lat d (Ky.mk 9 f.r []),-1099511627776≤y.lo∧y.lo≤y.hi∧y.hi≤1099511627776) (hk:f.kind=1):Tri Tryz.prog 122 #[zp_ B.g 0,f.val] ((C++(m++(F++(v++(Hr++q)))))++Hs) [gF B E,pF B d J,E.ef] (fun _:{H':Hp // E.St (rl E.stp E.kof d x f 2 (nw,fm)).1 (rl E.stp E.kof d x f 2 (nw,fm)).2 H'}=>.tuple #[]) (fun y=>(C++(m++(F++(v++(Hr++q)))))++y.1) (fun _=>[]):=by
  refine fX_ B E J d x f nw fm Hs hS C m F v Hr q K fun A L=>?_;have h:=some_c B E A d x f nw fm Hs hS I G H;have e:rl E.stp E.kof d x f 2 (nw,fm)=_:=if_pos hk;rw[e];exact h
theorem rl13_c (B:EngB) (E:Emt Tryz.prog 36) (J:EngA) (d:List (Ky×Pc)) (x:Ix) (f:Fc) (nw fm:List Fc) (Hs:Hp) (hS:E.St nw fm Hs) (C m F v Hr q:Hp) (K:IxO 9 36 B x ⟨C,m,F,v,Hr,q⟩) (I:∀ k,(lat d k).length≤1000000000) (G:∀ k,(lat x.above k).length≤1000000000∧(lat x.under k).length≤1000000000) (H:∀ k,(lat x.frm k).length≤1000000000∧(lat x.into k).length≤1000000000∧(lat x.ranges k).length≤1000000000∧(lat x.firms k).length≤1000000000) (N:f.kind=3→-1099511627776≤f.lo∧f.lo≤f.hi∧f.hi≤1099511627776) (M:f.kind=3→∀ y∈lat d (Ky.mk 9 f.r []),-1099511627776≤y.lo∧y.lo≤y.hi∧y.hi≤1099511627776) (hk:f.kind=1):Tri Tryz.prog 123 #[zp_ B.g 0,f.val] ((C++(m++(F++(v++(Hr++q)))))++Hs) [gF B E,pF B d J,E.ef] (fun _:{H':Hp // E.St (rl E.stp E.kof d x f 3 (nw,fm)).1 (rl E.stp E.kof d x f 3 (nw,fm)).2 H'}=>.tuple #[]) (fun y=>(C++(m++(F++(v++(Hr++q)))))++y.1) (fun _=>[]):=by
  refine fX_ B E J d x f nw fm Hs hS C m F v Hr q K fun A L=>?_;have h:=sE_ B E A d x f nw fm Hs hS I G H;have e:rl E.stp E.kof d x f 3 (nw,fm)=_:=if_pos hk;rw[e];exact h
theorem rl14_c (B:EngB) (E:Emt Tryz.prog 36) (J:EngA) (d:List (Ky×Pc)) (x:Ix) (f:Fc) (nw fm:List Fc) (Hs:Hp) (hS:E.St nw fm Hs) (C m F v Hr q:Hp) (K:IxO 9 36 B x ⟨C,m,F,v,Hr,q⟩) (I:∀ k,(lat d k).length≤1000000000) (G:∀ k,(lat x.above k).length≤1000000000∧(lat x.under k).length≤1000000000) (H:∀ k,(lat x.frm k).length≤1000000000∧(lat x.into k).length≤1000000000∧(lat x.ranges k).length≤1000000000∧(lat x.firms k).length≤1000000000) (N:f.kind=3→-1099511627776≤f.lo∧f.lo≤f.hi∧f.hi≤1099511627776) (M:f.kind=3→∀ y∈lat d (Ky.mk 9 f.r []),-1099511627776≤y.lo∧y.lo≤y.hi∧y.hi≤1099511627776) (hk:f.kind=1):Tri Tryz.prog 124 #[zp_ B.g 0,f.val] ((C++(m++(F++(v++(Hr++q)))))++Hs) [gF B E,pF B d J,E.ef] (fun _:{H':Hp // E.St (rl E.stp E.kof d x f 4 (nw,fm)).1 (rl E.stp E.kof d x f 4 (nw,fm)).2 H'}=>.tuple #[]) (fun y=>(C++(m++(F++(v++(Hr++q)))))++y.1) (fun _=>[]):=by
  refine fX_ B E J d x f nw fm Hs hS C m F v Hr q K fun A L=>?_;have h:=rA_ B E A d x f nw fm Hs hS I G H;have e:rl E.stp E.kof d x f 4 (nw,fm)=_:=if_pos hk;rw[e];exact h
theorem rl15_c (B:EngB) (E:Emt Tryz.prog 36) (J:EngA) (d:List (Ky×Pc)) (x:Ix) (f:Fc) (nw fm:List Fc) (Hs:Hp) (hS:E.St nw fm Hs) (C m F v Hr q:Hp) (K:IxO 9 36 B x ⟨C,m,F,v,Hr,q⟩) (I:∀ k,(lat d k).length≤1000000000) (G:∀ k,(lat x.above k).length≤1000000000∧(lat x.under k).length≤1000000000) (H:∀ k,(lat x.frm k).length≤1000000000∧(lat x.into k).length≤1000000000∧(lat x.ranges k).length≤1000000000∧(lat x.firms k).length≤1000000000) (N:f.kind=3→-1099511627776≤f.lo∧f.lo≤f.hi∧f.hi≤1099511627776) (M:f.kind=3→∀ y∈lat d (Ky.mk 9 f.r []),-1099511627776≤y.lo∧y.lo≤y.hi∧y.hi≤1099511627776) (hk:f.kind=1):Tri Tryz.prog 125 #[zp_ B.g 0,f.val] ((C++(m++(F++(v++(Hr++q)))))++Hs) [gF B E,pF B d J,E.ef] (fun _:{H':Hp // E.St (rl E.stp E.kof d x f 5 (nw,fm)).1 (rl E.stp E.kof d x f 5 (nw,fm)).2 H'}=>.tuple #[]) (fun y=>(C++(m++(F++(v++(Hr++q)))))++y.1) (fun _=>[]):=by
  refine fX_ B E J d x f nw fm Hs hS C m F v Hr q K fun A L=>?_;have h:=xo_ B E A d x f nw fm Hs hS I G H;have e:rl E.stp E.kof d x f 5 (nw,fm)=_:=if_pos hk;rw[e];exact h
theorem rl20_c (B:EngB) (E:Emt Tryz.prog 36) (J:EngA) (d:List (Ky×Pc)) (x:Ix) (f:Fc) (nw fm:List Fc) (Hs:Hp) (hS:E.St nw fm Hs) (C m F v Hr q:Hp) (K:IxO 9 36 B x ⟨C,m,F,v,Hr,q⟩) (I:∀ k,(lat d k).length≤1000000000) (G:∀ k,(lat x.above k).length≤1000000000∧(lat x.under k).length≤1000000000) (H:∀ k,(lat x.frm k).length≤1000000000∧(lat x.into k).length≤1000000000∧(lat x.ranges k).length≤1000000000∧(lat x.firms k).length≤1000000000) (N:f.kind=3→-1099511627776≤f.lo∧f.lo≤f.hi∧f.hi≤1099511627776) (M:f.kind=3→∀ y∈lat d (Ky.mk 9 f.r []),-1099511627776≤y.lo∧y.lo≤y.hi∧y.hi≤1099511627776) (hk:f.kind=2):Tri Tryz.prog 126 #[zp_ B.g 0,f.val] ((C++(m++(F++(v++(Hr++q)))))++Hs) [gF B E,pF B d J,E.ef] (fun _:{H':Hp // E.St (rl E.stp E.kof d x f 0 (nw,fm)).1 (rl E.stp E.kof d x f 0 (nw,fm)).2 H'}=>.tuple #[]) (fun y=>(C++(m++(F++(v++(Hr++q)))))++y.1) (fun _=>[]):=by
  refine fX_ B E J d x f nw fm Hs hS C m F v Hr q K fun A L=>?_;have h:=uB_ B E A d x f nw fm Hs hS I G H;have e:rl E.stp E.kof d x f 0 (nw,fm)=_:=(if_neg zat_).trans (if_pos hk);rw[e];exact h
theorem rl21_c (B:EngB) (E:Emt Tryz.prog 36) (J:EngA) (d:List (Ky×Pc)) (x:Ix) (f:Fc) (nw fm:List Fc) (Hs:Hp) (hS:E.St nw fm Hs) (C m F v Hr q:Hp) (K:IxO 9 36 B x ⟨C,m,F,v,Hr,q⟩) (I:∀ k,(lat d k).length≤1000000000) (G:∀ k,(lat x.above k).length≤1000000000∧(lat x.under k).length≤1000000000) (H:∀ k,(lat x.frm k).length≤1000000000∧(lat x.into k).length≤1000000000∧(lat x.ranges k).length≤1000000000∧(lat x.firms k).length≤1000000000) (N:f.kind=3→-1099511627776≤f.lo∧f.lo≤f.hi∧f.hi≤1099511627776) (M:f.kind=3→∀ y∈lat d (Ky.mk 9 f.r []),-1099511627776≤y.lo∧y.lo≤y.hi∧y.hi≤1099511627776) (hk:f.kind=2):Tri Tryz.prog 127 #[zp_ B.g 0,f.val] ((C++(m++(F++(v++(Hr++q)))))++Hs) [gF B E,pF B d J,E.ef] (fun _:{H':Hp // E.St (rl E.stp E.kof d x f 1 (nw,fm)).1 (rl E.stp E.kof d x f 1 (nw,fm)).2 H'}=>.tuple #[]) (fun y=>(C++(m++(F++(v++(Hr++q)))))++y.1) (fun _=>[]):=by
  refine fX_ B E J d x f nw fm Hs hS C m F v Hr q K fun A L=>?_;have h:=yJ_ B E A d x f nw fm Hs hS I G H;have e:rl E.stp E.kof d x f 1 (nw,fm)=_:=(if_neg zat_).trans (if_pos hk);rw[e];exact h
theorem rl22_c (B:EngB) (E:Emt Tryz.prog 36) (J:EngA) (d:List (Ky×Pc)) (x:Ix) (f:Fc) (nw fm:List Fc) (Hs:Hp) (hS:E.St nw fm Hs) (C m F v Hr q:Hp) (K:IxO 9 36 B x ⟨C,m,F,v,Hr,q⟩) (I:∀ k,(lat d k).length≤1000000000) (G:∀ k,(lat x.above k).length≤1000000000∧(lat x.under k).length≤1000000000) (H:∀ k,(lat x.frm k).length≤1000000000∧(lat x.into k).length≤1000000000∧(lat x.ranges k).length≤1000000000∧(lat x.firms k).length≤1000000000) (N:f.kind=3→-1099511627776≤f.lo∧f.lo≤f.hi∧f.hi≤1099511627776) (M:f.kind=3→∀ y∈lat d (Ky.mk 9 f.r []),-1099511627776≤y.lo∧y.lo≤y.hi∧y.hi≤1099511627776) (hk:f.kind=2):Tri Tryz.prog 128 #[zp_ B.g 0,f.val] ((C++(m++(F++(v++(Hr++q)))))++Hs) [gF B E,pF B d J,E.ef] (fun _:{H':Hp // E.St (rl E.stp E.kof d x f 2 (nw,fm)).1 (rl E.stp E.kof d x f 2 (nw,fm)).2 H'}=>.tuple #[]) (fun y=>(C++(m++(F++(v++(Hr++q)))))++y.1) (fun _=>[]):=by
  refine fX_ B E J d x f nw fm Hs hS C m F v Hr q K fun A L=>?_;have h:=sD_ B E A d x f nw fm Hs hS I G H;have e:rl E.stp E.kof d x f 2 (nw,fm)=_:=(if_neg zat_).trans (if_pos hk);rw[e];exact h
theorem rl23_c (B:EngB) (E:Emt Tryz.prog 36) (J:EngA) (d:List (Ky×Pc)) (x:Ix) (f:Fc) (nw fm:List Fc) (Hs:Hp) (hS:E.St nw fm Hs) (C m F v Hr q:Hp) (K:IxO 9 36 B x ⟨C,m,F,v,Hr,q⟩) (I:∀ k,(lat d k).length≤1000000000) (G:∀ k,(lat x.above k).length≤1000000000∧(lat x.under k).length≤1000000000) (H:∀ k,(lat x.frm k).length≤1000000000∧(lat x.into k).length≤1000000000∧(lat x.ranges k).length≤1000000000∧(lat x.firms k).length≤1000000000) (N:f.kind=3→-1099511627776≤f.lo∧f.lo≤f.hi∧f.hi≤1099511627776) (M:f.kind=3→∀ y∈lat d (Ky.mk 9 f.r []),-1099511627776≤y.lo∧y.lo≤y.hi∧y.hi≤1099511627776) (hk:f.kind=2):Tri Tryz.prog 129 #[zp_ B.g 0,f.val] ((C++(m++(F++(v++(Hr++q)))))++Hs) [gF B E,pF B d J,E.ef] (fun _:{H':Hp // E.St (rl E.stp E.kof d x f 3 (nw,fm)).1 (rl E.stp E.kof d x f 3 (nw,fm)).2 H'}=>.tuple #[]) (fun y=>(C++(m++(F++(v++(Hr++q)))))++y.1) (fun _=>[]):=by
  refine fX_ B E J d x f nw fm Hs hS C m F v Hr q K fun A L=>?_;have h:=rz_ B E A d x f nw fm Hs hS I G H;have e:rl E.stp E.kof d x f 3 (nw,fm)=_:=(if_neg zat_).trans (if_pos hk);rw[e];exact h
theorem rl30_c (B:EngB) (E:Emt Tryz.prog 36) (J:EngA) (d:List (Ky×Pc)) (x:Ix) (f:Fc) (nw fm:List Fc) (Hs:Hp) (hS:E.St nw fm Hs) (C m F v Hr q:Hp) (K:IxO 9 36 B x ⟨C,m,F,v,Hr,q⟩) (I:∀ k,(lat d k).length≤1000000000) (G:∀ k,(lat x.above k).length≤1000000000∧(lat x.under k).length≤1000000000) (H:∀ k,(lat x.frm k).length≤1000000000∧(lat x.into k).length≤1000000000∧(lat x.ranges k).length≤1000000000∧(lat x.firms k).length≤1000000000) (N:f.kind=3→-1099511627776≤f.lo∧f.lo≤f.hi∧f.hi≤1099511627776) (M:f.kind=3→∀ y∈lat d (Ky.mk 9 f.r []),-1099511627776≤y.lo∧y.lo≤y.hi∧y.hi≤1099511627776) (hk:f.kind=3):Tri Tryz.prog 130 #[zp_ B.g 0,f.val] ((C++(m++(F++(v++(Hr++q)))))++Hs) [gF B E,pF B d J,E.ef] (fun _:{H':Hp // E.St (rl E.stp E.kof d x f 0 (nw,fm)).1 (rl E.stp E.kof d x f 0 (nw,fm)).2 H'}=>.tuple #[]) (fun y=>(C++(m++(F++(v++(Hr++q)))))++y.1) (fun _=>[]):=by
  refine fX_ B E J d x f nw fm Hs hS C m F v Hr q K fun A L=>?_;have h:=meet_c B E A d x f nw fm Hs hS I G H;have e:rl E.stp E.kof d x f 0 (nw,fm)=_:=(if_neg zat_).trans (if_neg zat_);rw[e];exact h
theorem rl31_c (B:EngB) (E:Emt Tryz.prog 36) (J:EngA) (d:List (Ky×Pc)) (x:Ix) (f:Fc) (nw fm:List Fc) (Hs:Hp) (hS:E.St nw fm Hs) (C m F v Hr q:Hp) (L:IxO 9 36 B x ⟨C,m,F,v,Hr,q⟩) (I:∀ k,(lat d k).length≤1000000000) (G:∀ k,(lat x.above k).length≤1000000000∧(lat x.under k).length≤1000000000) (H:∀ k,(lat x.frm k).length≤1000000000∧(lat x.into k).length≤1000000000∧(lat x.ranges k).length≤1000000000∧(lat x.firms k).length≤1000000000) (M:f.kind=3→-1099511627776≤f.lo∧f.lo≤f.hi∧f.hi≤1099511627776) (K:f.kind=3→∀ y∈lat d (Ky.mk 9 f.r []),-1099511627776≤y.lo∧y.lo≤y.hi∧y.hi≤1099511627776) (hk:f.kind=3):Tri Tryz.prog 131 #[zp_ B.g 0,f.val] ((C++(m++(F++(v++(Hr++q)))))++Hs) [gF B E,pF B d J,E.ef] (fun _:{H':Hp // E.St (rl E.stp E.kof d x f 1 (nw,fm)).1 (rl E.stp E.kof d x f 1 (nw,fm)).2 H'}=>.tuple #[]) (fun y=>(C++(m++(F++(v++(Hr++q)))))++y.1) (fun _=>[]):=by
  refine fX_ B E J d x f nw fm Hs hS C m F v Hr q L fun A N=>?_;have h:=out_c B E A d x f nw fm Hs hS I G H (M hk) (K hk);have e:rl E.stp E.kof d x f 1 (nw,fm)=_:=(if_neg zat_).trans (if_neg zat_);rw[e];exact h
section
variable {N:Nf} {v0:Vw} {H0:Hp} {fr:Fr}
theorem nJ_ {k:Act→World→Prop} {F:Hp}:∀ (B:Hp) {H:Hp} {Γ:List Fct},H.Perm (B++F)→Ok N v0 H0 k fr F (B.reverse.map (fun p=>ck_ p.1 p.2)++Γ)→Ok N v0 H0 k fr H Γ
  | [],H,Γ,hH,h=>u_ hH h
  | (b,o)::B,H,Γ,hH,h=>by
    refine fj_ (ck_ b o) (F:=B++F) hH (fun _ d e _=>⟨d,e⟩) ?_;refine nJ_ B (.refl _) ?_;simpa using h
end
end Go.Proofs.YtpbnmnfdgckaiaaGreatDoor
namespace Go.Proofs.YtpbnmnfdgckaiaaGreatDoor
open Go Go.Sx Go.Proofs
attribute [local irreducible] Code.wp wpList wpAnyH
open Go.Vs
theorem uE_ {P:Program} (w:World) (d:Nat) (t e:TypeId) (a:Option Addr) (l c:Nat) (h:P.underlying t=some (.slice e)):(Op.equalIn (d+1) t (.slice a l c) (.slice none 0 0)).run P w=.ok a.isNone w:=by
  cases a<;>simp[Op.equalIn,run_underlying h]
theorem ty_ {P:Program} (w:World) (t e:TypeId) (a:Option Addr) (l c:Nat) (h:P.underlying t=some (.slice e)):(Op.equal t (.slice a l c) (.slice none 0 0)).run P w=.ok a.isNone w:=uE_ w 9999 t e a l c h
theorem mV_ {P:Program} {N:Nf} {fr:Fr} {H:Hp} {Γ:List Fct} {ty t B e:TypeId} {x y:Operand} {ad:Option Addr} {m c:Nat} (h:P.underlying t=some (.slice e)) (q:Fr.ev fr x=some (.slice ad m c)) (A:Fr.ev fr y=some (.slice none 0 0)):Yld P N fr H Γ (.binOp .eql t x y B) ty (.bool (decide (ad=none))) :=
  fun a v d _ _ _ _ _=>by
    have k:decide (ad=none)=ad.isNone:=by cases ad<;>simp
    simp[execOp,d.ev q,d.ev A,eqGuard,binOp,ty_ v.w t e ad m c h,k]
theorem qI_ {v:Vw} {cs:List Value} (h:bz_ v none cs):cs=[]:=by
 rcases h with h|⟨b,off,d,T,fz,e,_⟩
 ·exact h
 cases e
theorem db_ (b:Nat) (e:TypeId) (sz:Nat):aB_ e sz (.slice (some ⟨b,0,none⟩) 0 0) 0 [] [(b,.cells #[] e (0,0))]:=⟨by simp,.inr ⟨b,0,#[],rfl,rfl,Nat.le_refl _,by simp[maxLen],by simp,by simp⟩⟩
theorem om_ (l:List Str) (ad:Option Addr) (cap:Nat) (F:l.length≤cap) (hl:l.length≤1000000000):Tri Tryz.prog 115 #[.slice ad (List.length l) cap] [] [V_ ad (List.flatMap ap_ l)] (fun y:{y:Value×Hp // zR 9 1 ap_ y.1 l y.2}=>y.1.1) (fun y=>y.1.2) (fun _=>[]):=by
 refine j_ Tryz.func115 rfl rfl Tryz.ntmps115 rfl fun E=>?_;refine Zz 9 ?_;refine C_ (mV_ iy_ rfl rfl) rfl fun A d=>Zz 2 ?_
 cases A
 ·replace d:=zdf d
  refine Zz 5 ?_;refine ey_ m_ H_ rfl fun B=>u_ d_ (Zz 1 ?_)
  refine aL_ (news:=List.flatMap ap_ l) cW_ (db_ B 9 1) rfl rfl (fun q=>absurd q d) F ah_ (by rw[br_ ap_ 1 aw_]) zf (fun u C=>ak_ cx_ C) zG_ zr_ rfl fun e k d=>?_;refine u_ List.perm_append_comm ?_;have m:aB_ 9 1 e (List.length (([]:List Str)++l)) (List.flatMap ap_ (([]:List Str)++l)) k:=by rw[List.length_append,List.flatMap_append];exact d
  refine Zz 4 ?_;exact af_ Tryz.results115 ⟨(e,k),by simpa using m⟩ rfl ah_ zt
 replace d:=zdt d;refine Zz 7 ?_;refine vW_ (p:=List.flatMap ap_ l=[]) (fun v _ h=>by have q:=h.1;subst d;exact qI_ q) fun G=>?_;have x:l=[]:=List.eq_nil_of_length_eq_zero (by have:=congrArg List.length G;rwa [br_ ap_ 1 aw_,Nat.mul_one]at this);exact af_ Tryz.results115 ⟨(.slice none 0 0,[]),by subst x;exact aB_.nil _ _⟩ rfl l_ zt
def atS (p:List Pc):List Str:=Lib.compact ((eO_ p++[[42],[33]]).mergeSort fun x y=>decide (x≤y))
theorem qk_ (p:List Pc):(atS p).length≤3*p.length+2:=by
  have:=gU_ ((eO_ p++[[42],[33]]).mergeSort fun x y=>decide (x≤y));have d:=fI_ p;rw[List.length_mergeSort,List.length_append]at this;simp only[List.length_cons,List.length_nil]at this;unfold atS;omega
theorem jX_ (p:List Pc):(atS p).Pairwise fun x y=>x<y:=hV_ (gs_ _)
theorem hZ_ (p:List Pc) (x:Str):x∈atS p↔x∈eO_ p∨x=[42]∨x=[33]:=by
  unfold atS;rw[iX_,List.mem_mergeSort,List.mem_append];simp
theorem atS_c (p:List Pc) (A:Option Addr) (k:Nat) (U:p.length≤100000000):Tri Tryz.prog 74 #[.slice A (List.length p) k] [] [V_ A (List.flatMap Pc.cells p)] (fun y:{y:Option Addr×Nat // (atS p).length≤y.2∧y.2≤maxLen∧(y.1=none→y.2=0)}=>.slice y.1.1 (atS p).length y.1.2) (fun _=>[]) (fun y=>[V_ y.1.1 ((atS p).flatMap ap_)]):=by
  refine j_ Tryz.func74 rfl rfl Tryz.ntmps74 rfl fun S=>?_;refine Zz 8 ?_;refine i_ (yQ_ p A k zr_) rfl l_ zf rfl fun⟨⟨aad,acap⟩,J,P⟩=>?_;dsimp only;refine i_ (om_ (eO_ p) aad acap J (by have:=fI_ p;omega)) rfl l_ zf rfl fun⟨⟨Q,T⟩,L⟩=>?_;dsimp only;refine u_ eg_ (R_ m_ H_ aK_ rfl rfl rfl rfl rfl rfl fun R=>?_);refine ay_ (news:=List.flatMap ap_ [[42],[33]]) cW_ L rfl rfl B_ rfl (be_ 0 rfl) (fun u O=>ak_ cx_ O) (by simp only[maxLen];(have:=fI_ p;(try simp only[List.length_append,List.length_cons,List.length_nil]);omega)) zaA_ rfl fun C M E=>?_;refine u_ List.perm_append_comm ?_;have B:=zsa E;refine Zz 6 ?_;refine i_ (mH_ B zaA_) rfl B_ zt rfl fun⟨v,H⟩=>?_;dsimp only;have q:aB_ 9 1 C (List.length ((((eO_ p)++[[42],[33]])).mergeSort fun x y=>decide (x≤y))) (List.flatMap ap_ ((((eO_ p)++[[42],[33]])).mergeSort fun x y=>decide (x≤y))) v:=by rw[List.length_mergeSort];exact H
  refine Zz 2 ?_;refine u_ (bq_ bf_) (Zz 3 ?_);refine i_ (jV_ q (by rw[List.length_mergeSort];(have:=fI_ p;(try simp only[List.length_append,List.length_cons,List.length_nil]);omega))) rfl B_ zt rfl fun⟨⟨K,N⟩,G⟩=>?_;dsimp only;refine Zz 4 ?_;refine aN_ G t_ fun I F m e d h=>?_;exact af_ Tryz.results74 ⟨(I,F),e,d,h⟩ (gh_ rfl m) l_ zf
end Go.Proofs.YtpbnmnfdgckaiaaGreatDoor
namespace Go.Proofs
open Go.Shelf
def Tryz.sortFc_ren:Go.Shelf.Ren:=⟨fun|6=>78|15=>133|14=>132|28=>172|29=>173|20=>164|21=>165|22=>166|23=>167|24=>168|25=>169|26=>170|27=>171|46=>196|47=>197|48=>198|49=>199|50=>200|57=>220|n=>n,fun|22=>26|24=>36|25=>131|3=>3|39=>44|0=>0|53=>219|55=>221|4=>4|46=>213|45=>212|50=>157|5=>5|9=>9|66=>237|70=>150|76=>261|77=>262|n=>n,fun|n=>n⟩
theorem Tryz.sortFc:Go.Proofs.SlLaysF0.n6 Tryz.prog Tryz.sortFc_ren:={
  mixed:=by kernel_rfl
  f6:=⟨Tryz.f78.name,by decide,Tryz.func78.trans (congrArg some zw_)⟩
  f14:=⟨Tryz.f132.name,by decide,Tryz.func132.trans (congrArg some zw_)⟩
  f15:=Tryz.func133.trans (congrArg some zw_)
  f20:=⟨Tryz.f164.name,by decide,Tryz.func164.trans (congrArg some zw_)⟩
  f21:=⟨Tryz.f165.name,by decide,Tryz.func165.trans (congrArg some zw_)⟩
  f22:=⟨Tryz.f166.name,by decide,Tryz.func166.trans (congrArg some zw_)⟩
  f23:=⟨Tryz.f167.name,by decide,Tryz.func167.trans (congrArg some zw_)⟩
  f24:=⟨Tryz.f168.name,by decide,Tryz.func168.trans (congrArg some zw_)⟩
  f25:=⟨Tryz.f169.name,by decide,Tryz.func169.trans (congrArg some zw_)⟩
  f26:=⟨Tryz.f170.name,by decide,Tryz.func170.trans (congrArg some zw_)⟩
  f27:=⟨Tryz.f171.name,by decide,Tryz.func171.trans (congrArg some zw_)⟩
  f28:=Tryz.func172.trans (congrArg some zw_)
  f29:=Tryz.func173.trans (congrArg some zw_)
  f46:=⟨Tryz.f196.name,by decide,Tryz.func196.trans (congrArg some zw_)⟩
  f47:=Tryz.func197.trans (congrArg some zw_)
  f48:=Tryz.func198.trans (congrArg some zw_)
  f49:=⟨Tryz.f199.name,by decide,Tryz.func199.trans (congrArg some zw_)⟩
  f50:=⟨Tryz.f200.name,by decide,Tryz.func200.trans (congrArg some zw_)⟩
  f57:=⟨Tryz.f220.name,by decide,Tryz.func220.trans (congrArg some zw_)⟩
  t0:=Tryz.underlying0
  a0:=Tryz.isAgg0
  z0:=Tryz.sizeOf0
  v0:=Tryz.zeroValue0
  t3:=Tryz.underlying3
  a3:=Tryz.isAgg3
  z3:=Tryz.sizeOf3
  v3:=Tryz.zeroValue3
  t4:=Tryz.underlying4
  a4:=Tryz.isAgg4
  z4:=Tryz.sizeOf4
  v4:=Tryz.zeroValue4
  t5:=Tryz.underlying5
  a5:=Tryz.isAgg5
  z5:=Tryz.sizeOf5
  v5:=Tryz.zeroValue5
  t9:=Tryz.underlying9
  a9:=Tryz.isAgg9
  z9:=Tryz.sizeOf9
  v9:=Tryz.zeroValue9
  t22:=Tryz.underlying26
  a22:=Tryz.isAgg26
  z22:=Tryz.sizeOf26
  v22:=Tryz.zeroValue26
  t25:=Tryz.underlying131
  a25:=Tryz.isAgg131
  z25:=Tryz.sizeOf131
  v25:=Tryz.zeroValue131
  t39:=Tryz.underlying44
  a39:=Tryz.isAgg44
  z39:=Tryz.sizeOf44
  v39:=Tryz.zeroValue44
  t45:=Tryz.underlying212
  a45:=Tryz.isAgg212
  z45:=Tryz.sizeOf212
  v45:=Tryz.zeroValue212
  t46:=Tryz.underlying213
  a46:=Tryz.isAgg213
  z46:=Tryz.sizeOf213
  v46:=Tryz.zeroValue213
  t50:=Tryz.underlying157
  a50:=Tryz.isAgg157
  z50:=Tryz.sizeOf157
  v50:=Tryz.zeroValue157
  t53:=Tryz.underlying219
  a53:=Tryz.isAgg219
  z53:=Tryz.sizeOf219
  v53:=Tryz.zeroValue219
  t55:=Tryz.underlying221
  a55:=Tryz.isAgg221
  z55:=Tryz.sizeOf221
  v55:=Tryz.zeroValue221
  t66:=Tryz.underlying237
  a66:=Tryz.isAgg237
  z66:=Tryz.sizeOf237
  v66:=Tryz.zeroValue237
  t70:=Tryz.underlying150
  a70:=Tryz.isAgg150
  z70:=Tryz.sizeOf150
  v70:=Tryz.zeroValue150
  t76:=Tryz.underlying261
  a76:=Tryz.isAgg261
  z76:=Tryz.sizeOf261
  v76:=Tryz.zeroValue261
  t77:=Tryz.underlying262
  a77:=Tryz.isAgg262
  z77:=Tryz.sizeOf262
  v77:=Tryz.zeroValue262 }
end Go.Proofs
namespace Go.Sx
open Go
section
variable {K:Type} [DecidableEq K] {kv:K→Value}
structure KeyE (kv:K→Value) (es:Array MapEntry) (q:List K):Prop where
  keys:es.toList.map (·.key)=q.map kv
  nd:q.Nodup
theorem SetE.ke {es:Array MapEntry} {q:List K} (h:SetE kv es q):KeyE kv es q:=⟨h.keys,h.nd⟩
theorem KeyE.ofKey {es:Array MapEntry} {q:List K} (hE:KeyE kv es q) {e:MapEntry} (d:e∈es.toList):∃ k∈q,e.key=kv k:=by
  have:e.key∈es.toList.map (·.key):=List.mem_map_of_mem d;rw[hE.keys]at this;obtain⟨k,hk,h⟩:=List.mem_map.1 this;exact⟨k,hk,h.symm⟩
theorem KeyE.entry {es:Array MapEntry} {q:List K} (hE:KeyE kv es q) (hi:∀ x y,kv x=kv y→x=y) {x e:MapEntry} (E:x∈es.toList) (C:e∈es.toList) (h:x.key=e.key):x=e:=by
 obtain⟨i,v,d⟩:=List.getElem_of_mem E;obtain⟨j,A,k⟩:=List.getElem_of_mem C
 have m:(es.toList.map (·.key)).Nodup:=by
   rw[hE.keys];unfold List.Nodup;rw[List.pairwise_map];exact List.Pairwise.imp (fun {a b} hab e=>hab (hi _ _ e)) hE.nd
 have B:i=j:=by
   rcases Nat.lt_trichotomy i j with g|g|g
   · exact ((List.pairwise_iff_getElem.1 m i j (by simpa using v) zaE_ g) (by simp only[List.getElem_map,d,k,h])).elim
   · exact g
   · exact ((List.pairwise_iff_getElem.1 m j i zaE_ (by simpa using v) g) (by simp only[List.getElem_map,d,k,h])).elim
 subst B;rw[← d,← k]
theorem ItS.stepK {es:Array MapEntry} {q:List K} {c:Nat} {m:Array Nat} {done:List K} {e:MapEntry} (hi:∀ x y,kv x=kv y→x=y) (hE:KeyE kv es q) (hB:Born es c) (h:ItS kv es m done) (L:e∈(leftOf es m).toList) :
    ∃ k,k∈q∧k ∉ done∧e.key=kv k∧e∈es.toList∧ItS kv es (m.push e.born) (done++[k]):=by
  unfold leftOf at L;rw[Array.toList_filter,List.mem_filter]at L;obtain⟨E,N⟩:=L;obtain⟨k,hk,v⟩:=hE.ofKey E
  have G:k ∉ done:=fun hm=>by
    have:=(h.mem e E).2 ⟨k,hm,v⟩;rw[this]at N;simp at N
  have same:∀ x∈es.toList,x.born=e.born→x=e:=fun x F H=>by
    have O:=hB.nd;obtain⟨i,J,C⟩:=List.getElem_of_mem F;obtain⟨j,I,B⟩:=List.getElem_of_mem E
    have M:i=j:=by
      rcases Nat.lt_trichotomy i j with g|g|g
      · exact ((List.pairwise_iff_getElem.1 O i j (by simpa using J) (by simpa using I) g) (by simp only[List.getElem_map,C,B,H])).elim
      · exact g
      · exact ((List.pairwise_iff_getElem.1 O j i (by simpa using I) (by simpa using J) g) (by simp only[List.getElem_map,C,B,H])).elim
    subst M;rw[← C,← B]
  refine⟨k,hk,G,v,E,⟨?_,fun x F=>?_,fun y d=>?_⟩⟩
  · rw[List.nodup_append];exact⟨h.nd,by simp,fun a Q b H e=>by simp at H;subst H;subst e;exact G Q⟩
  · rw[Array.contains_push,Bool.or_eq_true,h.mem x F,beq_iff_eq]
    constructor
    · rintro (⟨y,d,A⟩|P)
      · exact⟨y,by simp[d],A⟩
      · have:=same x F P
        exact⟨k,by simp,this▸v⟩
    · rintro ⟨y,d,A⟩
      rcases List.mem_append.1 d with d|d
      · exact .inl ⟨y,d,A⟩
      · rw[List.mem_singleton]at d
        subst d;exact .inr (congrArg MapEntry.born (hE.entry hi F E (A.trans v.symm)))
  · rcases List.mem_append.1 d with d|d
    · exact h.sub y d
    · rw[List.mem_singleton]at d
      subst d;exact⟨e,E,v⟩
theorem ItS.endK {es:Array MapEntry} {q:List K} {d:Array Nat} {done:List K} (hi:∀ x y,kv x=kv y→x=y) (hE:KeyE kv es q) (h:ItS kv es d done) (G:(leftOf es d).size=0):done.Perm q:=by
 refine (List.perm_ext_iff_of_nodup h.nd hE.nd).2 fun k=>⟨fun hk=>?_,fun hk=>?_⟩
 ·obtain⟨e,B,A⟩:=h.sub k hk
  obtain⟨C,v,m⟩:=hE.ofKey B;exact hi _ _ (A.symm.trans m)▸v
 have:kv k∈es.toList.map (·.key):=by rw[hE.keys];exact List.mem_map_of_mem hk
 obtain⟨e,B,A⟩:=List.mem_map.1 this
 have F:d.contains e.born=true:=by
   cases hc:d.contains e.born
   · exfalso
     have:e∈(leftOf es d).toList:=by unfold leftOf;rw[Array.toList_filter,List.mem_filter];exact⟨B,by simp only[hc];rfl⟩
     have E:=List.length_pos_of_mem this;simp only[Array.length_toList]at E;omega
   · rfl
 obtain⟨C,v,m⟩:=(h.mem e B).1 F;exact hi _ _ (A.symm.trans m)▸v
end
end Go.Sx
namespace Go.Vs
open Go Go.Sx
structure Thg where
  kind:Int
  name:Str
deriving DecidableEq
def Thg.cells (t:Thg):List Value:=[.int .i64 t.kind,str t.name]
def Thg.val (t:Thg):Value:=.agg t.cells.toArray
section
variable {p:List Pc} {S:List Str} {t:Thg} {us:List Int} {j:Nat} {K W:List Thg} {U:List Bool} {wl:List Int} {i:Nat} {x:Pc} {n:Int}
end
end Go.Vs
namespace Go.Sx
open Go Go.Vs
section
variable {P:Program} {N:Nf} {v0:Vw} {H0:Hp} {R:Exit→Act→World→Prop} {Kk:List Kt} {fr:Fr} {H:Hp} {Γ:List Fct}
variable {ops:Array Oper} {lo:List Oper} {d:Nat} {ty:TypeId} {ps:String} {af:Array Edge}
variable {K:Type} [DecidableEq K] {kv:K→Value}
theorem IntE.at {x:TypeId} {es:Array MapEntry} {ks:List K} {vs:List Int} (y:KeyT P x kv) (h:IntE kv es ks vs) {k:K} {i:Nat} {n:Int} (hi:ks[i]? = some k) (A:vs[i]? = some n):∃ e,es[i]? = some e∧e.key=kv k∧e.val=.int .i64 n∧dJ_ P x (kv k) es.toList (some (i,.int .i64 n)):=by
  have q:i<es.toList.length:=by
    have:=(List.getElem?_eq_some_iff.1 hi).1;have e:=congrArg List.length h.keys;simp only[List.length_map]at e;omega
  have m:=List.getElem?_eq_getElem q;have v:=congrArg (fun l=>l[i]?) h.vals;simp only[List.getElem?_map,m,Option.map_some,A,Option.some.injEq]at v;have hk:=congrArg (fun l=>l[i]?) h.keys;simp only[List.getElem?_map,m,Option.map_some,hi,Option.some.injEq]at hk;refine⟨es.toList[i],by rw[← Array.getElem?_toList];exact m,hk,v,?_⟩;have:=y.sf k es.toList ks i _ h.keys h.nd hi m;rwa [v]at this
end
end Go.Sx
namespace Go.Vs
open Go Go.Sx
def Thg.eqb (p q:Thg):Bool:=(p.kind==q.kind)&&((p.name==q.name)&&true)
theorem Thg.eqb_eq (p q:Thg):p.eqb q=decide (p=q):=by
  rw[Bool.eq_iff_iff];cases p;cases q;simp[Thg.eqb]
theorem take_snoc {α:Type} {l:List α} {i:Nat} {x:α} (h:l[i]? = some x):l.take (i+1)=l.take i++[x]:=by
  rw[List.take_add_one,h];rfl
abbrev SrS (l:List Str):Prop:=l.Pairwise fun x y=>x<y
theorem ni_ (a:Str):¬ a<a:=List.lt_irrefl a
theorem tO_ {l:List Str} {s:Str} (e:s≠[]) (d:s ∉ l):vf_ l s=l.take (kS l s)++[s]++l.drop (kS l s):=by
  unfold vf_;rw[if_neg (by rintro (q|q);exact e q;exact d (List.mem_of_getElem? q))]
end Go.Vs
namespace Go.Proofs.YtpbnmnfdgckaiaaGreatDoor
open Go Go.Sx Go.Proofs
attribute [local irreducible] Code.wp wpList wpAnyH
open Go.Vs
theorem sS_ {p:List Pc} {s:Str} (h:s∈atS p):s≠[]:=by
 rcases (hZ_ p s).1 h with h|rfl|rfl
 ·obtain⟨x,_,d⟩:=List.mem_flatMap.1 ((fH_ p s).1 h)
  simpa using (List.mem_filter.1 d).2
 ·decide
 decide
theorem oe_:∀ {l:List Ax} {i:Nat} {q:Pc},q∈cr_ i l↔∃ (j:Nat) (a:Ax),l[j]? = some a∧q∈a.pieces ((i+j:Nat):Int)
 | [],i,q=>by simp[cr_]
 | x::l,i,q=>by
   rw[cr_,List.mem_append,oe_];constructor
   · rintro (h|⟨j,a,d,e⟩)
     · exact⟨0,x,rfl,h⟩
     · exact⟨j+1,a,by simpa using d,by rwa [show i+(j+1)=i+1+j by omega]⟩
   · rintro ⟨j,a,d,e⟩
     match j with
     | 0 =>
       obtain rfl:x=a:=by simpa using d
       exact .inl e
     | j+1=>exact .inr ⟨j,a,by simpa using d,by rwa [show i+1+j=i+(j+1) by omega]⟩
theorem qS_ {a:Ax} {q:Pc} {f:Int} (g:Int) (h:q∈a.pieces f):∃ y∈a.pieces g,∃ n,{ y with frm:=n }=q:=by
  have e:a.pieces f=(a.pieces 0).map (shift f):=by have:=Ax.pieces_shift 0 f a;rwa [Int.zero_add]at this
  have d:a.pieces g=(a.pieces 0).map (shift g):=by have:=Ax.pieces_shift 0 g a;rwa [Int.zero_add]at this
  rw[e]at h;obtain⟨z,k,rfl⟩:=List.mem_map.1 h;exact⟨shift g z,by rw[d];exact List.mem_map.2 ⟨z,k,rfl⟩,z.frm+f,rfl⟩
end Go.Proofs.YtpbnmnfdgckaiaaGreatDoor
namespace Go.Vs
open Go Go.Sx
def orF:List Int→Int
  | []=>0
  | x::l=>if x=0 then orF l else x
theorem vT_:∀ {l:List Int} {i:Nat} {x:Int},(∀ y∈l.take i,y=0)→l[i]? = some x→x≠0→orF l=x
  | [],_,_,_,h,_=>by simp at h
  | y::l,0,x,_,h,hx=>by simp at h;subst h;simp[orF,hx]
  | y::l,i+1,x,h0,h,hx=>by
    have d:y=0:=h0 y zC_;rw[orF,if_pos d];exact vT_ (i:=i) (fun z e=>h0 z (by rw[List.take_succ_cons];exact List.mem_cons_of_mem _ e)) zag_ hx
theorem qU_:∀ {l:List Int},(∀ y∈l,y=0)→orF l=0
  | [],_=>rfl
  | y::l,h=>by rw[orF,if_pos (h y zC_)];exact qU_ fun z d=>h z zah_
theorem cI_neg (x y:Int):Lib.compareInt x y<0↔x<y:=by unfold Lib.compareInt;(repeat' split)<;>omega
theorem yK_ (x y:Int):Lib.compareInt x y=0↔x=y:=by unfold Lib.compareInt;(repeat' split)<;>omega
theorem sO_:∀ (x y:Str),Lib.compareBytes x y<0↔x<y
 | [],[]=>by simp[Lib.compareBytes]
 | [],b::y=>by simp[Lib.compareBytes]
 | a::x,[]=>by simp[Lib.compareBytes]
 | a::x,b::y=>by
   rw[Lib.compareBytes,List.cons_lt_cons_iff]
   by_cases d:a<b
   · rw[if_pos d];simp[d]
   · by_cases h:b<a
     · rw[if_neg d,if_pos h]
       have:a≠b:=fun e=>by subst e;exact d h
       simp[d,this]
     · have e:a=b:=UInt8.le_antisymm (UInt8.not_lt.1 h) (UInt8.not_lt.1 d)
       rw[if_neg d,if_neg h,sO_ x y];simp[e]
theorem tF_:∀ (x y:Str),Lib.compareBytes x y=0↔x=y
 | [],[]=>by simp[Lib.compareBytes]
 | [],b::y=>by simp[Lib.compareBytes]
 | a::x,[]=>by simp[Lib.compareBytes]
 | a::x,b::y=>by
   rw[Lib.compareBytes]
   by_cases d:a<b
   · rw[if_pos d]
     have:a≠b:=fun e=>by subst e;exact absurd d (UInt8.lt_irrefl a)
     simp[this]
   · by_cases h:b<a
     · rw[if_neg d,if_pos h]
       have:a≠b:=fun e=>by subst e;exact d h
       simp[this]
     · have e:a=b:=UInt8.le_antisymm (UInt8.not_lt.1 h) (UInt8.not_lt.1 d)
       rw[if_neg d,if_neg h,tF_ x y];simp[e]
theorem ji_ (x:Int) (l:List Int):orF (x::l)<0↔x<0∨x=0∧orF l<0:=by
  rw[orF];split<;>omega
theorem qi_:∀ (x y:Str),Lib.compareBytes x y=if x<y then -1 else if y<x then 1 else 0
 | [],[]=>by simp[Lib.compareBytes]
 | [],b::y=>by simp[Lib.compareBytes]
 | a::x,[]=>by simp[Lib.compareBytes]
 | a::x,b::y=>by
   rw[Lib.compareBytes]
   by_cases d:a<b
   · have l:a::x<b::y:=by rw[List.cons_lt_cons_iff];exact .inl d
     rw[if_pos d,if_pos l]
   · by_cases h:b<a
     · have l:b::y<a::x:=by rw[List.cons_lt_cons_iff];exact .inl h
       have k:¬ a::x<b::y:=fun q=>absurd (List.lt_trans q l) (List.lt_irrefl _)
       rw[if_neg d,if_pos h,if_neg k,if_pos l]
     · have e:a=b:=UInt8.le_antisymm (UInt8.not_lt.1 h) (UInt8.not_lt.1 d)
       subst e;rw[if_neg d,if_neg h,qi_ x y];simp only[List.cons_lt_cons_iff,d,false_or,true_and]
namespace Con
end Con
end Go.Vs
namespace Go.Proofs.YtpbnmnfdgckaiaaGreatDoor
open Go Go.Sx Go.Proofs
attribute [local irreducible] Code.wp wpList wpAnyH
open Go.Vs
instance:Inhabited Fc:=⟨⟨0,[],[],[],0,0⟩⟩
theorem hq_ (x y:Int):Fn0 Tryz.prog 135 #[.int .i64 x,.int .i64 y] (.int .i64 (Lib.compareInt x y)) :=
  dh_ (callable Tryz.func135 rfl rfl) fun v _ _=>(Tryz.cmp_Compare_int x y v.w).mono zD_
theorem kP_ (x y:Str):Fn0 Tryz.prog 86 #[str x,str y] (.int .i64 (Lib.compareBytes x y)) :=
  dh_ (callable Tryz.func86 rfl rfl) fun v _ _=>(Tryz.strings_Compare ⟨x.toArray⟩ ⟨y.toArray⟩ v.w).mono zD_
def hW_ (x y:Fc):Int:=orF [Lib.compareInt x.kind y.kind,Lib.compareBytes x.a y.a,Lib.compareBytes x.b y.b,Lib.compareBytes x.r y.r,Lib.compareInt x.lo y.lo,Lib.compareInt x.hi y.hi]
theorem rD_ (x y:Fc):hW_ x y<0↔x.lt y:=by
  unfold hW_ Fc.lt;rw[ji_,ji_,ji_,ji_,ji_,ji_];simp only[cI_neg,yK_,sO_,tF_,orF,Int.lt_irrefl,and_false,or_false]
theorem zh_ (l:List Int) (ad:Option Addr) (cap:Nat) (hl:l.length≤1000):Tri Tryz.prog 134 #[.slice ad (List.length l) cap] [] [V_ ad (List.flatMap fY_ l)] (fun _:Unit=>.int .i64 (orF l)) (fun _=>[]) (fun _=>[]):=by
 refine j_ Tryz.func134 rfl rfl Tryz.ntmps134 rfl fun x=>?_;refine Zz 19 ?_;refine P_ (ι:={y:Nat // y≤l.length∧∀ z∈l.take y,z=0}) (fun y=>[(3,.int .i64 0),(6,.slice ad (List.length l) cap),(7,.int .i64 (List.length l:Int)),(8,.int .i64 (y.1:Int))]) (fun y=>([])) (fun y=>[V_ ad (List.flatMap fY_ l)]) (fun y=>l.length - y.1) ⟨(0:Nat),by simp,by simp⟩ zl l_ zh ?_;rintro ⟨i,hi,d⟩;dsimp only at hi d ⊢;refine Zi 2 (fun m=>?_) fun m=>?_
 ·refine Zz 13 ?_
  exact af_ Tryz.results134 () (cl_ rfl (qU_ fun y k=>d y (by rw[List.take_of_length_le zr_];exact k)).symm) l_ zt
 obtain⟨h,A,e,v⟩:=zge (show i<List.length l by omega);refine Zi 19 (fun q=>?_) fun q=>?_
 ·refine Zz 10 ?_
  exact y_ ⟨i+1,h,fun y k=>by rw[List.take_add_one,e]at k;simp only[Option.toList_some,List.mem_append,List.mem_singleton]at k;rcases k with k|rfl;exact d y k;omega⟩ zu_ zl l_ zh
 refine Zz 10 ?_;exact af_ Tryz.results134 () (cl_ rfl (vT_ d e zB_).symm) l_ zt
theorem cmpF_c (x y:Fc):Fn0 Tryz.prog 79 #[Fc.val x,Fc.val y] (.int .i64 (hW_ x y)):=by
  refine j_ Tryz.func79 rfl rfl Tryz.ntmps79 rfl fun k=>?_;refine Zz 2 ?_;refine aa_ rfl rfl fun e=>aa_ rfl rfl fun h=>Zz 5 ?_
  refine G_ 9 [0,1,2,3,5,6,7,8,10,11,12,13,15,16,17,18,20,21,22,23,25,26,27,28] zk zs (Zz 25 ?_);refine n_ 4 rfl zk (i_ (hq_ x.kind y.kind) rfl l_ zt rfl fun _=>Zz 3 ?_);refine n_ 9 rfl zk (i_ (kP_ x.a y.a) rfl l_ zt rfl fun _=>Zz 3 ?_);refine n_ 14 rfl zk (i_ (kP_ x.b y.b) rfl l_ zt rfl fun _=>Zz 3 ?_);refine n_ 19 rfl zk (i_ (kP_ x.r y.r) rfl l_ zt rfl fun _=>Zz 3 ?_);refine n_ 24 rfl zk (i_ (hq_ x.lo y.lo) rfl l_ zt rfl fun _=>Zz 3 ?_);refine n_ 29 rfl zk (i_ (hq_ x.hi y.hi) rfl l_ zt rfl fun _=>Zz 3 ?_);refine n_ 30 rfl zk (R_ aF_ av_ kW_ rfl rfl rfl rfl rfl rfl fun d=>?_);refine bu_ (List.flatMap fY_ [(Lib.compareInt x.kind y.kind),(Lib.compareBytes x.a y.a),(Lib.compareBytes x.b y.b),(Lib.compareBytes x.r y.r),(Lib.compareInt x.lo y.lo),(Lib.compareInt x.hi y.hi)]) d_ rfl ?_;refine Zz 3 ?_;refine n_ 31 rfl zk (i_ (zh_ [(Lib.compareInt x.kind y.kind),(Lib.compareBytes x.a y.a),(Lib.compareBytes x.b y.b),(Lib.compareBytes x.r y.r),(Lib.compareInt x.lo y.lo),(Lib.compareInt x.hi y.hi)] (some ⟨d,0,none⟩) 6 zC_) rfl l_ zf rfl fun _=>Zz 3 ?_);refine G_ 0 [32] zk zs (Zz 5 ?_);exact af_ Tryz.results79 () (cl_ rfl (by rfl)) l_ zt
structure Cl where
  atoms:List Str
  aad:Option Addr
  acap:Nat
  facts:List Fc
  fad:Option Addr
  fcap:Nat
def Cl.cells (c:Cl):List Value:=[.slice c.aad c.atoms.length c.acap,.slice c.fad c.facts.length c.fcap]
def Cl.val (c:Cl):Value:=.agg c.cells.toArray
def Cl.row (c:Cl):List Fct:=[V_ c.aad (List.flatMap ap_ c.atoms),V_ c.fad (List.flatMap Fc.cells c.facts)]
def Cl.no:Cl:=Cl.mk [] none 0 [] none 0
structure Cl.ok (c:Cl):Prop where
  al:c.atoms.length≤c.acap
  am:c.acap≤maxLen
  az:c.aad=none→c.acap=0
  fl:c.facts.length≤c.fcap
  fm:c.fcap≤maxLen
  fz:c.fad=none→c.fcap=0
theorem Cl.no_ok:Cl.no.ok:=⟨Nat.le_refl _,by simp[Cl.no],fun _=>rfl,Nat.le_refl _,by simp[Cl.no],fun _=>rfl⟩
theorem xN_ {s:Str} (h:cS_ s=true):s≠[]:=fun e=>by subst e;revert h;decide
theorem ul_ {s:Str} (h:ba_ s=true):s≠[]:=fun e=>by subst e;revert h;decide
theorem jd_ {p:Pc} (h:p.valid=true):p.vok:=by
 unfold Pc.valid at h
 split at h
 ·simp at h
 rename_i e
 split at h
 ·simp at h
 rename_i d
 split at h
 ·simp at h
 have hk:p.kind=1∨p.kind=2∨p.kind=3∨p.kind=4∨p.kind=5∨p.kind=6∨p.kind=7∨p.kind=8∨p.kind=9:=by omega
 have m:∀ {b:Bool} {s:Str},cq_ b s cS_=true→b=true→s≠[]:=fun e d=>by
   subst d;simp[cq_]at e;exact xN_ e
 have v:∀ {b:Bool} {s:Str},cq_ b s ba_=true→b=true→s≠[]:=fun e d=>by
   subst d;simp[cq_]at e;exact ul_ e
 simp only[Bool.and_eq_true]at h;obtain⟨⟨⟨⟨⟨_,_⟩,_⟩,k⟩,y⟩,x⟩:=h;unfold Pc.rok at *;refine⟨⟨fun q=>?_,fun q=>?_,fun q=>?_⟩,fun q=>?_⟩
 ·rcases q with q|q|q|q|q|q|q<;>rw[q]at k
  ·exact m k zx_
  ·exact m k zx_
  ·exact m k zx_
  ·exact v k zx_
  ·exact m k zx_
  ·exact m k zx_
  exact v k zx_
 ·rw[q]at y x;exact⟨m y zx_,m x zx_⟩
 ·rw[q]at x;exact m x zx_
 rcases q with q|q<;>rw[q]at d<;>have:(nus 8).numbers=true∧(nus 9).numbers=true:=by decide
 all_goals simp only[this.1,this.2,true_and]at d;omega
theorem rI_ {p:List Pc} (h:cE_ p=0):p.length≤16384∧p.all Pc.valid=true:=by
 unfold cE_ at h
 split at h
 ·simp at h
 split at h
 ·exact⟨by omega,by assumption⟩
 simp at h
theorem pq_ {p:List Pc} (h:cE_ p=0):∀ x∈p,x.vok:=fun x d=>jd_ (List.all_eq_true.1 (rI_ h).2 x d)
section
variable {P:Program} {N:Nf} {v0:Vw} {H0:Hp} {fr:Fr} {H F Ha Hu Ho Hi Hr Hm Hs:Hp} {Γ:List Fct}
theorem fW_ {fn:Func} {t s b n:Nat} {ty T:TypeId} {us:List Value} {u:Value} (i:Nat) (x:fn.results=#[.cell t ty,.tmp s]) (E:∀ w,(isAgg ty).run P w=.ok true w) (k:∀ w,(sizeOf ty).run P w=.ok n w) (B:us.length=n) (A:Fr.get fr t=some (zp_ b 0)) (m:Fr.get fr s=some u)
    (hi:H[i]? = some (b,.cells us.toArray T (0,0))) (a:Act) (v:Vw) (d:Fr.sat N fr a) (h:v.sat H):(results fn a.tmps).run P v.w=.ok (.tuple #[.agg us.toArray,u]) v.w:=by
  have e:=d.val t _ A;have q:=d.val s _ m;have hl:=dY_ (t:=ty) (w:=v.w) (b:=b) (off:=0) E k B (fun j y C=>by rw[Nat.zero_add,gx_ h hi];simpa using C);simp[results,x,e,q,asAddr,hl]
theorem pf_six (h:H.Perm ((Ha++(Hu++(Ho++(Hi++(Hr++(Hm++Hs))))))++F)):H.Perm (((Ha++(Hu++(Ho++(Hi++(Hr++Hm)))))++Hs)++F):=by simpa [List.append_assoc] using h
theorem xZ_:(((Ha++(Hu++(Ho++(Hi++(Hr++Hm)))))++Hs)++F).Perm (Ha++(Hu++(Ho++(Hi++(Hr++(Hm++(Hs++F))))))):=by simp[List.append_assoc]
theorem ya_ {a b c:Nat×Obj} {d:Hp}:((Ha++(Hu++(Ho++(Hi++(Hr++(Hm++(a::b::([c]++d))))))))++F).Perm (Ha++(Hu++(Ho++(Hi++(Hr++(Hm++(a::b::([c]++(d++F))))))))):=by simp[List.append_assoc]
end
theorem jJ_:ij_ Tryz.prog 67 [(0,1),(1,1)] [.slice none 0 0,.slice none 0 0]:=⟨_,Tryz.zeroValue67,dc_,fun w=>by simp[bI_,aH_]⟩
end Go.Proofs.YtpbnmnfdgckaiaaGreatDoor
namespace Go.Proofs.YtpbnmnfdgckaiaaGreatDoor
open Go Go.Sx Go.Proofs
attribute [local irreducible] Code.wp wpList wpAnyH
open Go.Vs Go.Shelf Go.RowKit
theorem iw_ {v d:Vw} (h:v.to [] d []) (y:¬ v.sl):∃ q os,d.w=Sort.grow (v.w.drewN q) os:=by
 have C:v.w.drawn≤d.w.drawn:=h.dr.resolve_left y;refine⟨d.w.drawn - v.w.drawn,d.w.heap.extract v.w.heap.size d.w.heap.size,?_⟩
 have x:d.w.heap=v.w.heap++d.w.heap.extract v.w.heap.size d.w.heap.size:=by
   apply Array.ext_getElem?
   intro i;have F:=h.size;rw[Array.getElem?_append]
   split
   · rename_i hi;exact h.block i hi zC_
   · rename_i hi
     rw[Array.getElem?_extract]
     split
     · congr 1;omega
     · rw[Array.getElem?_eq_none zr_]
 have k:=h.os;have e:=h.tape;have m:=h.output;obtain⟨B,⟨H,I,dn,E,G⟩,A⟩:=d;simp only at k e m x C;simp only[Sort.grow,World.drewN,World.mk.injEq];exact⟨x,e,by omega,k,m⟩
theorem yF_ (d off size:Nat) (w:World):CmpLays Tryz.prog 79 #[] Fc.cells 6 hW_ d off size w:=fun m os A _ x y=>by
  have h:=(cmpF_c x y).run ⟨fun _=>False,sortWorldK Fc.cells 6 w d off m A os,False⟩ ⟨by simp,by simp,fun _ h=>h.elim⟩ trivial;refine h.mono ?_;rintro e w' ⟨_,C,rfl,rfl,_,_,B⟩;obtain⟨q,k,v⟩:=iw_ B (fun h=>h);exact⟨rfl,q,k,v⟩
theorem ltF (x y:Fc):ltOf hW_ x y=decide (x.lt y):=by unfold ltOf;rw[decide_eq_decide];exact rD_ x y
theorem xt_:Sort.SWO (ltOf hW_) where
 irrefl x:=by rw[ltF];exact decide_eq_false x.lt_irr
 trans x y z h1 h2:=by rw[ltF,decide_eq_true_eq]at *;exact Fc.lt_trans h1 h2
 ntrans x y z h1 h2:=by
   rw[ltF,decide_eq_false_iff_not]at *;intro h;rcases Fc.lt_tri x y with g|g|g
   · exact h1 g
   · subst g;exact h2 h
   · exact h2 (Fc.lt_trans g h)
theorem totF (x y:Fc) (e:ltOf hW_ x y=false) (d:ltOf hW_ y x=false):x=y:=by
 rw[ltF,decide_eq_false_iff_not]at e d;rcases Fc.lt_tri x y with g|g|g
 ·exact absurd g e
 ·exact g
 exact absurd g d
theorem hR_ (d:List Fc):Sort.flatK Fc.cells 6 d.toArray=(d.flatMap Fc.cells).toArray:=by
 apply Array.ext_getElem?
 intro t;have e:(d.flatMap Fc.cells).toArray[t]? = (d.flatMap Fc.cells)[t]? := by simp
 rw[e]
 by_cases k:t<d.length*6
 ·have h:t / 6<d.length:=by omega
  have:=lo_ Fc.cells 6 Fc.cells_len d (t / 6) (t%6) d[t / 6] (List.getElem?_eq_getElem h) (Nat.mod_lt _ zx_);rw[show t / 6*6+t%6=t by omega]at this;rw[this];simp only[Sort.flatK,Array.getElem?_map,List.size_toArray];rw[Array.getElem?_eq_getElem zaC_];simp only[Array.getElem_range,Option.map_some];rw[getElem!_pos d.toArray (t / 6) zag_];have hl:t%6<(Fc.cells d[t / 6]).length:=by rw[Fc.cells_len];omega
  rw[List.getElem?_eq_getElem hl];simp only[List.getElem_toArray];rw[getElem!_pos (Fc.cells d[t / 6]) (t%6) hl]
 rw[List.getElem?_eq_none (by rw[br_ Fc.cells 6 Fc.cells_len];omega),Array.getElem?_eq_none (by simp[Sort.flatK];omega)]
theorem mf_ {P:Program} {Γ:List Fct} {f:FuncId} {args:Array Value} {r:Value} {g:Nat} {cur:Array Value} {T:TypeId} {d:Array Value} (G:hu_ P f)
    (h:∀ v:Vw,v.sat [(g,.cells cur T (0,0))]→Calls P f args v.w fun e w'=>e=.returned r∧∃ n os,w'=Sort.grow (Sort.putRow id (Sort.ahead v.w n) g 0 d) os) :
    Tri P f args [(g,.cells cur T (0,0))] Γ (fun _:Unit=>r) (fun _=>[(g,.cells (Sort.putCells id 0 d cur) T (0,0))]) (fun _=>[]) :=
  ⟨G,fun v C _=>(h v C).mono fun e w' ⟨H,n,os,m⟩=>by
    have B:=(C.own _ List.mem_cons_self);have A:g<v.w.heap.size:=(Array.getElem?_eq_some_iff.1 B.1).1
    have y:∀ b,b<v.w.heap.size→w'.heap[b]? = if b=g then some (.cells (Sort.putCells id 0 d cur) T (0,0)) else v.w.heap[b]? := fun b y=>by
      rw[m];simp only[Sort.grow,Sort.putRow,Sort.mapBlock,Sort.ahead];rw[Array.getElem?_append_left zaW_,Array.getElem?_modify]
      by_cases e:b=g
      · subst e
        simp only[if_true,B.1,Option.map_some,Sort.onCells]
      · rw[if_neg (fun q=>e q.symm),if_neg e]
    have x:v.w.heap.size≤w'.heap.size:=by rw[m];simp[Sort.grow,Sort.putRow,Sort.mapBlock,Sort.ahead]
    refine⟨(),⟨v.im,w',v.sl⟩,H,rfl,⟨fun p F=>?_,by simp,fun b k=>Nat.lt_of_lt_of_le (C.lt b k) x⟩,trivial,⟨by rw[m];rfl,by rw[m];rfl,by rw[m];rfl,x,fun b k I=>?_,fun _ h=>h,fun _ h=>.inl h,fun b hm=>.inl (by simpa using hm),rfl,.inr (by rw[m];exact Nat.le_add_right _ _)⟩⟩
    · simp only[List.mem_singleton]at F
      subst F;exact⟨by show w'.heap[g]? = _;rw[y g A,if_pos rfl],B.2⟩
    · have E:b≠g:=by simpa using I
      show w'.heap[b]? = _
      rw[y b k,if_neg E]⟩
theorem oR_ {cur:Array Value} {d:List Value} (h:d.length≤cur.size):(Sort.putCells id 0 d.toArray cur).toList.take d.length=d:=by
 apply List.ext_getElem?
 intro j;rw[List.getElem?_take]
 split
 ·rename_i e
  simp only[Sort.putCells,Array.getElem?_toList,Array.getElem?_mapIdx];rw[Array.getElem?_eq_getElem zr_];simp only[Option.map_some,Nat.zero_le,true_and,Nat.zero_add,List.size_toArray,e,if_true,Nat.sub_zero];rw[List.getElem?_eq_getElem e,getElem!_pos d.toArray j zak_];rfl
 rename_i e
 rw[List.getElem?_eq_none zr_]
theorem oS_ {cur d:Array Value}:(Sort.putCells id 0 d cur).size=cur.size:=by simp[Sort.putCells]
theorem wA_ {g:Nat} {cur:Array Value} {T:TypeId} {d:List Value} {v:Vw} (k:v.sat [(g,.cells cur T (0,0))]) (m:cur.toList.take d.length=d):Sort.Holds id v.w g 0 d.toArray:=by
 intro j e;have h:=(k.own _ List.mem_cons_self).1;simp only[List.size_toArray]at e
 have q:cur[j]? = some d[j]:=by
   have:=congrArg (fun l=>l[j]?) m;simp only[List.getElem?_take,e,if_true,Array.getElem?_toList]at this;rw[this,List.getElem?_eq_getElem e]
 refine⟨?_,?_⟩
 ·simp only[World.cell?,Nat.zero_add,h,Option.isSome_none,Bool.false_eq_true,if_false]
  rw[q,getElem!_pos d.toArray j zak_];rfl
 simp[World.frozen?,h]
def fp_ (xs:List Fc):List Fc:=xs.mergeSort fun x y=>!(ltOf hW_) y x
theorem dX_ (d:List Fc):(fp_ d).length=d.length:=List.length_mergeSort _
theorem qC_ (d:List Fc) (x:Fc):x∈fp_ d↔x∈d:=List.mem_mergeSort
theorem vs_ {k:List Fc} (h:k.Nodup):Srt (fp_ k):=by
 have e:(fp_ k).Pairwise fun x y=>(!(ltOf hW_) y x)=true:=List.pairwise_mergeSort
   (fun a b c e d=>by simp only[Bool.not_eq_true']at *;exact xt_.ntrans c b a d e)
   (fun a b=>by
     simp only[Bool.or_eq_true,Bool.not_eq_true'];rw[ltF,ltF,decide_eq_false_iff_not,decide_eq_false_iff_not];rcases Fc.lt_tri a b with g|g|g
     · exact .inl fun q=>Fc.lt_irr a (Fc.lt_trans g q)
     · subst g;exact .inl a.lt_irr
     · exact .inr fun q=>Fc.lt_irr a (Fc.lt_trans q g)) k
 have d:(fp_ k).Nodup:=(List.mergeSort_perm k _).nodup_iff.2 h;refine (e.and d).imp ?_;rintro x y ⟨a,b⟩;simp only[Bool.not_eq_true',ltF,decide_eq_false_iff_not]at a;rcases Fc.lt_tri x y with g|g|g
 ·exact g
 ·exact absurd g b
 exact absurd g a
theorem xD_ {sv:Value} {k:List Fc} {Hr:Hp} (h:aB_ 36 6 sv k.length (k.flatMap Fc.cells) Hr) (hl:k.length≤1000000000000) :
    Tri Tryz.prog 78 #[sv,.func (.func 79) #[] #[]] Hr [] (fun _:{y:Hp // aB_ 36 6 sv (fp_ k).length ((fp_ k).flatMap Fc.cells) y}=>.tuple #[]) (fun y=>y.1) (fun _=>[]):=by
  rcases h.2 with⟨rfl,K,rfl⟩|⟨g,cap,cur,rfl,rfl,L,F,E,I⟩
  · obtain rfl:k=[]:=List.eq_nil_of_length_eq_zero K
    have T:=dh_ (P:=Tryz.prog) (H:=[]) (Γ:=[]) (callable Tryz.func78 rfl rfl) (fun v _ _=>(AnyF.slices_SortFunc_none Tryz.sortFc none 0 (.func (.func 79) #[] #[]) v.w).mono zD_);exact⟨T.callable,fun v a b=>(T.run v a b).mono zau_⟩
  · have O:(k.flatMap Fc.cells).length=k.length*6:=br_ Fc.cells 6 Fc.cells_len k
    have T:=mf_ (P:=Tryz.prog) (Γ:=[]) (r:=.tuple #[]) (g:=g) (cur:=cur) (T:=36) (d:=((fp_ k).flatMap Fc.cells).toArray) (f:=78) (args:=#[.slice (some ⟨g,0,none⟩) k.length cap,.func (.func 79) #[] #[]]) (callable Tryz.func78 rfl rfl) (fun v M=>by
      have Q:=AnyQ.slices_SortFunc_total Tryz.sortFc 6 bH_ E_ Fc.cells Fc.cells_len (fun x u N=>List.all_eq_true.1 x.cells_one u N) hW_ xt_ 79 #[] g 0 cap k.toArray v.w (fun args w=>(callable Tryz.func79 rfl rfl) args w) (yF_ g 0 _ v.w) zaU_ (Array.getElem?_eq_some_iff.1 (M.own _ List.mem_cons_self).1).1 zH_ totF;refine Q.mono ?_;rintro e w' ⟨rfl,n,os,rfl⟩;refine⟨rfl,n,os,?_⟩;unfold sortWorldK Sort.putRowK;rw[show ((k.toArray.toList.mergeSort fun x y=>!(ltOf hW_) y x))=fp_ k from rfl,hR_])
    refine⟨T.callable,fun v a b=>(T.run v a b).mono ?_⟩;rintro e w' ⟨x,G,q,A,C,m,B⟩;have J:((fp_ k).flatMap Fc.cells).length=k.length*6:=by rw[br_ Fc.cells 6 Fc.cells_len,dX_]
    refine⟨⟨_,by rw[J,dX_],.inr ⟨g,cap,_,by rw[dX_],rfl,by rw[dX_];exact L,F,by rw[oS_];exact E,?_⟩⟩,G,q,A,C,m,B⟩;have:=oR_ (cur:=cur) (d:=(fp_ k).flatMap Fc.cells) (by rw[J,E];omega);rw[J]at this;rw[dX_];exact this
section
variable {P:Program} {N:Nf} {v0:Vw} {H0:Hp} {fr:Fr} {H F:Hp} {Γ:List Fct} {K D:Type} [DecidableEq K]
theorem jU_:∀ (B:Hp) {v:Vw},ag_ (B.map fun p=>ck_ p.1 p.2) v→∀ p∈B,v.im p.1∧v.w.heap[p.1]? = some p.2
 | [],_,_,_,h=>by simp at h
 | q::B,v,h,p,d=>by
   rcases List.mem_cons.1 d with rfl|d
   · exact h.1
   · exact jU_ B h.2 p d
theorem nI_ {k:Act→World→Prop} {q:K→Value} {cells:D→List Value} {x e:TypeId} {sz y:Nat} {l:List (K×D)} {d:Hp} (B:KeyT P x q) (hm:dl_ q cells e sz l y d) (A:H.Perm (d++F))
    (h:∀ adr,Ok N v0 H0 k fr F (mlF P x q cells y l adr::Γ)):Ok N v0 H0 k fr H Γ:=by
  obtain⟨adr,E⟩:=hm.lent B;refine nJ_ d A (dG_ (fun v _ m=>?_) (h adr));rw[fm_]at m;refine⟨E v fun p C=>?_,m.2⟩;have:=m.1;exact jU_ d.reverse (by rw[List.map_reverse]at *;exact this) p (List.mem_reverse.2 C)
theorem mY_ {e:TypeId} {E:Emt P e} {nw fm:List Fc} {Hs:Hp} {ty t m B:TypeId} {x:Operand} (hS:E.St nw fm Hs) (k:∀ w,(underlying t).run P w=.ok (.map m B) w) (q:Fr.ev fr x=some (.map (some E.kb))) (y:H.Perm (Hs++F)) :
    Yld P N fr H Γ (.call ⟨.builtin .len,#[x],#[t]⟩) ty (.int .i64 ((E.kof nw).length:Int)):=by
  obtain⟨es,c,A,d⟩:=E.known hS;exact mX_ d k q fun v h _=>nB_ y A h
end
def sv_ (x:Ix) (n:Nat):Prop:=x.above.length≤n∧x.under.length≤n∧x.frm.length≤n∧x.into.length≤n∧x.ranges.length≤n∧x.firms.length≤n
theorem wo_:sv_ Ix.nil 0:=by simp[sv_,Ix.nil]
theorem kD_ {x:Ix} {n:Nat} (h:sv_ x n) (b:Bool) (f:Fc):sv_ (x.add b f) (n+1):=by
 obtain⟨k,q,d,v,e,m⟩:=h;unfold Ix.add sv_
 split
 ·simp;omega
 split
 ·simp;omega
 split
 ·cases b<;>simp<;>omega
 omega
theorem rn_ {x:Ix} {n:Nat} (h:sv_ x n) (A:n≤1000000000):(∀ k,(lat x.above k).length≤1000000000∧(lat x.under k).length≤1000000000)∧(∀ k,(lat x.frm k).length≤1000000000∧(lat x.into k).length≤1000000000∧(lat x.ranges k).length≤1000000000∧(lat x.firms k).length≤1000000000):=by
 obtain⟨m,v,d,y,e,q⟩:=h;refine⟨fun k=>⟨?_,?_⟩,fun k=>⟨?_,?_,?_,?_⟩⟩
 ·have:=dO_ x.above k;omega
 ·have:=dO_ x.under k;omega
 ·have:=dO_ x.frm k;omega
 ·have:=dO_ x.into k;omega
 ·have:=dO_ x.ranges k;omega
 have:=dO_ x.firms k;omega
theorem xM_ (B:EngB) (E:Emt Tryz.prog 36) (J:EngA) (q:List (Ky×Pc)) (x:Ix) (f:Fc) (nw fm:List Fc) (Hs:Hp) (hS:E.St nw fm Hs) (G v I C Hr A:Hp) (M:IxO 9 36 B x ⟨G,v,I,C,Hr,A⟩) (m:∀ k,(lat q k).length≤1000000000) (d:∀ k,(lat x.above k).length≤1000000000∧(lat x.under k).length≤1000000000) (e:∀ k,(lat x.frm k).length≤1000000000∧(lat x.into k).length≤1000000000∧(lat x.ranges k).length≤1000000000∧(lat x.firms k).length≤1000000000) (O:f.kind=3→-1099511627776≤f.lo∧f.lo≤f.hi∧f.hi≤1099511627776) (L:f.kind=3→∀ y∈lat q (Ky.mk 9 f.r []),-1099511627776≤y.lo∧y.lo≤y.hi∧y.hi≤1099511627776) (hk:f.kind=1):∀ (j:Nat) {fv:Value},(rlV B.g 1)[j]? = some fv→∃ n:Nat,fv=.func (.func n) #[zp_ B.g 0] #[]∧Tri Tryz.prog n #[zp_ B.g 0,f.val] ((G++(v++(I++(C++(Hr++A)))))++Hs) [gF B E,pF B q J,E.ef] (fun _:{H':Hp // E.St (rl E.stp E.kof q x f j (nw,fm)).1 (rl E.stp E.kof q x f j (nw,fm)).2 H'}=>.tuple #[]) (fun y=>(G++(v++(I++(C++(Hr++A)))))++y.1) (fun _=>[])
  | 0,_,h=>⟨120,(Option.some.inj h).symm,rl10_c B E J q x f nw fm Hs hS G v I C Hr A M m d e O L hk⟩
  | 1,_,h=>⟨121,(Option.some.inj h).symm,rl11_c B E J q x f nw fm Hs hS G v I C Hr A M m d e O L hk⟩
  | 2,_,h=>⟨122,(Option.some.inj h).symm,rl12_c B E J q x f nw fm Hs hS G v I C Hr A M m d e O L hk⟩
  | 3,_,h=>⟨123,(Option.some.inj h).symm,rl13_c B E J q x f nw fm Hs hS G v I C Hr A M m d e O L hk⟩
  | 4,_,h=>⟨124,(Option.some.inj h).symm,rl14_c B E J q x f nw fm Hs hS G v I C Hr A M m d e O L hk⟩
  | 5,_,h=>⟨125,(Option.some.inj h).symm,rl15_c B E J q x f nw fm Hs hS G v I C Hr A M m d e O L hk⟩
  | j+6,_,h=>by simp[rlV]at h
theorem xL_ (B:EngB) (E:Emt Tryz.prog 36) (J:EngA) (q:List (Ky×Pc)) (x:Ix) (f:Fc) (nw fm:List Fc) (Hs:Hp) (hS:E.St nw fm Hs) (G v I C Hr A:Hp) (M:IxO 9 36 B x ⟨G,v,I,C,Hr,A⟩) (m:∀ k,(lat q k).length≤1000000000) (d:∀ k,(lat x.above k).length≤1000000000∧(lat x.under k).length≤1000000000) (e:∀ k,(lat x.frm k).length≤1000000000∧(lat x.into k).length≤1000000000∧(lat x.ranges k).length≤1000000000∧(lat x.firms k).length≤1000000000) (O:f.kind=3→-1099511627776≤f.lo∧f.lo≤f.hi∧f.hi≤1099511627776) (L:f.kind=3→∀ y∈lat q (Ky.mk 9 f.r []),-1099511627776≤y.lo∧y.lo≤y.hi∧y.hi≤1099511627776) (hk:f.kind=2):∀ (j:Nat) {fv:Value},(rlV B.g 2)[j]? = some fv→∃ n:Nat,fv=.func (.func n) #[zp_ B.g 0] #[]∧Tri Tryz.prog n #[zp_ B.g 0,f.val] ((G++(v++(I++(C++(Hr++A)))))++Hs) [gF B E,pF B q J,E.ef] (fun _:{H':Hp // E.St (rl E.stp E.kof q x f j (nw,fm)).1 (rl E.stp E.kof q x f j (nw,fm)).2 H'}=>.tuple #[]) (fun y=>(G++(v++(I++(C++(Hr++A)))))++y.1) (fun _=>[])
  | 0,_,h=>⟨126,(Option.some.inj h).symm,rl20_c B E J q x f nw fm Hs hS G v I C Hr A M m d e O L hk⟩
  | 1,_,h=>⟨127,(Option.some.inj h).symm,rl21_c B E J q x f nw fm Hs hS G v I C Hr A M m d e O L hk⟩
  | 2,_,h=>⟨128,(Option.some.inj h).symm,rl22_c B E J q x f nw fm Hs hS G v I C Hr A M m d e O L hk⟩
  | 3,_,h=>⟨129,(Option.some.inj h).symm,rl23_c B E J q x f nw fm Hs hS G v I C Hr A M m d e O L hk⟩
  | j+4,_,h=>by simp[rlV]at h
theorem xK_ (B:EngB) (E:Emt Tryz.prog 36) (J:EngA) (d:List (Ky×Pc)) (x:Ix) (f:Fc) (nw fm:List Fc) (Hs:Hp) (hS:E.St nw fm Hs) (C e I q Hr m:Hp) (M:IxO 9 36 B x ⟨C,e,I,q,Hr,m⟩) (G:∀ k,(lat d k).length≤1000000000) (v:∀ k,(lat x.above k).length≤1000000000∧(lat x.under k).length≤1000000000) (A:∀ k,(lat x.frm k).length≤1000000000∧(lat x.into k).length≤1000000000∧(lat x.ranges k).length≤1000000000∧(lat x.firms k).length≤1000000000) (O:f.kind=3→-1099511627776≤f.lo∧f.lo≤f.hi∧f.hi≤1099511627776) (L:f.kind=3→∀ y∈lat d (Ky.mk 9 f.r []),-1099511627776≤y.lo∧y.lo≤y.hi∧y.hi≤1099511627776) (hk:f.kind=3):∀ (j:Nat) {fv:Value},(rlV B.g 3)[j]? = some fv→∃ n:Nat,fv=.func (.func n) #[zp_ B.g 0] #[]∧Tri Tryz.prog n #[zp_ B.g 0,f.val] ((C++(e++(I++(q++(Hr++m)))))++Hs) [gF B E,pF B d J,E.ef] (fun _:{H':Hp // E.St (rl E.stp E.kof d x f j (nw,fm)).1 (rl E.stp E.kof d x f j (nw,fm)).2 H'}=>.tuple #[]) (fun y=>(C++(e++(I++(q++(Hr++m)))))++y.1) (fun _=>[])
  | 0,_,h=>⟨130,(Option.some.inj h).symm,rl30_c B E J d x f nw fm Hs hS C e I q Hr m M G v A O L hk⟩
  | 1,_,h=>⟨131,(Option.some.inj h).symm,rl31_c B E J d x f nw fm Hs hS C e I q Hr m M G v A O L hk⟩
  | j+2,_,h=>by simp[rlV]at h
def eY_ (p:List Pc) (bu:Int) (c:Cl) (e:Int):Prop :=
  if cE_ p≠0 then c=Cl.no∧e=cE_ p
  else if bu<0∨1073741824<bu then c=Cl.no∧e=1
  else (e=0∧c.ok∧c.atoms=atS p∧eJ_ p (atS p) (min bu 65536).toNat (some c.facts))∨(c=Cl.no∧e=(if bu<65536 then 3 else 2)∧eJ_ p (atS p) (min bu 65536).toNat none)
theorem xf_ {p:List Pc} {d:Int} (h:cE_ p≠0):eY_ p d Cl.no (cE_ p):=by unfold eY_;rw[if_pos h];exact⟨rfl,rfl⟩
theorem xg_ {p:List Pc} {d:Int} (h:cE_ p=0) (e:d<0∨1073741824<d):eY_ p d Cl.no 1:=by unfold eY_;rw[if_neg (by simp[h]),if_pos e];exact⟨rfl,rfl⟩
theorem yX_ {p:List Pc} {d:Int} {m n:Nat} {c:Cl} {q fm:List Fc} {x:Ix} (k:cE_ p=0) (C:¬ d<0) (E:¬ 1073741824<d) (hm:min d 65536=(m:Int)) (hk:c.ok) (B:c.atoms=atS p) (h:LoopA (uniq [] p) (atS p) m n q fm x) (v:q.length≤n) (hl:q.length≤m) (A:c.facts=fp_ q):eY_ p d c 0:=by
  unfold eY_;rw[if_neg zaX_,if_neg zr_];have e:n=q.length:=Nat.le_antisymm h.le v;subst e;refine .inl ⟨rfl,hk,B,?_⟩;rw[hm,A];exact⟨vs_ h.nd,fun y=>by rw[qC_,← st_ h hl,qw_],by rw[dX_];simpa using hl⟩
theorem ju_ {p:List Pc} {d:Int} {m:Nat} {e:Int} {M:List Fc} (v:cE_ p=0) (x:¬ d<0) (A:¬ 1073741824<d) (hm:min d 65536=(m:Int)) (k:e=if d<65536 then 3 else 2) (nd:M.Nodup) (q:∀ y∈M,Der (uniq [] p) (atS p) y) (hl:m<M.length):eY_ p d Cl.no e:=by
  unfold eY_;rw[if_neg (by simp[v]),if_neg zr_];exact .inr ⟨rfl,k,M,nd,fun y h=>qw_.1 (q y h),by rw[hm];simpa using hl⟩
end Go.Proofs.YtpbnmnfdgckaiaaGreatDoor
