/-
  Lemmas for the law CanonTells (no condition).
-/
import Derived.Test.YtbffkokbdeppaaaGreatDoorQCanonTells9
import Derived.Shelf.SlSortCmp.NoneTotal
import Derived.Test.YtbffkokbdeppaaaGreatDoorProg
import Derived.OrdersIn
import Derived.Lib.Bytealg
import Derived.Lib.Small
set_option linter.unusedVariables false
set_option linter.unusedSimpArgs false
set_option linter.unusedSectionVars false
set_option maxHeartbeats 1000000
namespace Go.Proofs.YtbffkokbdeppaaaGreatDoor
open Go Go.Sx Go.Proofs Tryz
attribute [local irreducible] Code.wp wpList wpAnyH
open Go.Vs
theorem mG_ (x:Pc) (ro at':Str) (A:List (Ky×Pc)) (v B:Nat) (g pb kb ab ub ob ib rb sb fb:Nat) (ev:Value) (lv:Value) (P:Hp) (hm:cU_ Ky.val Pc.cells 80 10 A pb P) (C:A.length<=1000000000):Tri prog 291 #[str ro,str at',zp_ v 0,zp_ B 0] ((v,.cells #[iv_ x.kind,str x.a,str x.b,str x.c,str x.r,str x.s,str x.t,iv_ x.lo,iv_ x.hi,iv_ x.frm] 80 (0,0))::(B,.cells #[zp_ g 0] 195 (0,0))::(g,.cells #[.map (some pb),lv,.map (some kb),ev,.map (some ab),.map (some ub),.map (some ob),.map (some ib),.map (some rb),.map (some sb),.map (some fb)] 204 (0,0))::P) [] (λ_:{H:Hp // cU_ Ky.val Pc.cells 80 10 (A++[((Ky.mk x.kind ro at'),x)]) pb H}=>.tuple #[]) (λy=>(v,.cells #[iv_ x.kind,str x.a,str x.b,str x.c,str x.r,str x.s,str x.t,iv_ x.lo,iv_ x.hi,iv_ x.frm] 80 (0,0))::(B,.cells #[zp_ g 0] 195 (0,0))::(g,.cells #[.map (some pb),lv,.map (some kb),ev,.map (some ab),.map (some ub),.map (some ob),.map (some ib),.map (some rb),.map (some sb),.map (some fb)] 204 (0,0))::y.1) (λ_=>[]):=by
  refine i_ func291 rfl rfl ntmps291 rfl λT=>?_;refine Zz 6 ?_;refine e_ (C_ eK_ rfl rfl) rfl (x_ zeroValue329 rfl λG=>n_ 0 sizeOf329 rfl rfl rfl rfl rfl rfl (Zz 2 ?_));refine ak_ ((G,.cells #[iv_ x.kind,str ro,str at'] 329 (0,0))::((v,.cells #[iv_ x.kind,str x.a,str x.b,str x.c,str x.r,str x.s,str x.t,iv_ x.lo,iv_ x.hi,iv_ x.frm] 80 (0,0))::((B,.cells #[zp_ g 0] 195 (0,0))::((g,.cells #[.map (some pb),lv,.map (some kb),ev,.map (some ab),.map (some ub),.map (some ob),.map (some ib),.map (some rb),.map (some sb),.map (some fb)] 204 (0,0))::[])))) zk ?_;refine D_ 6 [0,1,2,3,4,5] zk zs (Zz 7 ?_);refine p_ 6 rfl zk (O_ J_ K_ aa_ rfl rfl rfl rfl rfl rfl λS=>Zz 2 ?_);refine V_ zs (p_ 7 rfl zk ?_);have F:=ybg_ (dv_ A (Ky.mk x.kind ro at')) C;refine fl_ (k:=(Ky.mk x.kind ro at')) ic_ hm bQ_ bT_ rfl rfl (c_ (c_ (c_ (c_ B_)))) rfl λI M J O R K N m d=>Zz 2 ?_
  refine V_ (λ_ a b=>⟨Vw.sat.sub (a.perm (l_ (c_ (j_ (j_ (c_ d_)))) (l_ (c_ (j_ (j_ (c_ d_)))) (l_ (c_ (j_ (j_ (c_ d_)))) (c_ (j_ (j_ (c_ d_)))))))),b⟩) (D_ 2 [8,10] zk (λ_ a b=>⟨Vw.sat.sub (a.perm (l_ (c_ (j_ (j_ (c_ d_)))) (l_ (c_ (j_ (j_ (c_ d_)))) (l_ (c_ (j_ (j_ (c_ d_)))) (c_ (j_ (j_ (c_ d_)))))))),b⟩) (Zz 3 ?_));refine p_ 9 rfl zk (aj_ (news:=List.flatMap Pc.cells [x]) rt_ d rfl rfl zp rfl (fj_ zp) (λu U=>az_ Pc.cells_one U) zaq_ zaa_ rfl λL Q q=>?_);have h:=zsa q;refine Zz 2 ?_;refine V_ (λ_ a b=>⟨Vw.sat.sub (a.perm (l_ (j_ (c_ (j_ (c_ d_)))) (l_ (j_ (c_ (j_ (c_ d_)))) (l_ (j_ (c_ (j_ (c_ d_)))) (j_ (c_ (j_ (c_ d_)))))))),b⟩) (p_ 11 rfl zk (cZ_ (k:=(Ky.mk x.kind ro at')) (dd:=x) m (by rw[ea_];exact h) rfl rfl rfl (dY_ (l_ (j_ d_) (F_ z_ z_))) λE e=>?_));refine Zz 2 ?_;refine V_ zs (Zz 2 ?_);exact co_ results291 ⟨E,e⟩ rfl zp zt
theorem iq_ {G:Prop} (h:G:=by
 have m:lps=lps++aB_ [x]:=by simp[aB_, *]
 exact co_ results220 ⟨(lv,e,G),h▸d,m▸hl⟩ rfl zp zt):G:=h
theorem ir_ {G:Prop} (h:G:=by
 have m:lps=lps++aB_ [x]:=by simp[aB_, *]
 exact co_ results220 ⟨(lv,C,G),h▸E,m▸hl⟩ rfl zp zt):G:=h
theorem ml_ {G:Prop} (h:G:=by
 refine ap_ (mG_ x x.r [] q v A g pb kb ab ub ob ib rb sb fb ev lv F hm zav_) rfl rfl zp zt rfl λ⟨e,d⟩=>?_;dsimp only;simp only[yaJ_];refine Zz 2 ?_;have h:(q++[((Ky.mk x.kind x.r []),x)])=q++dd_ x:=by simp[dd_, *]
 exact iq_):G:=h
theorem mm_ {G:Prop} (h:G:=by
 refine Zz 2 ?_;refine V_ zs (D_ 1 [9,10] zk zs (Zz 3 ?_));refine p_ 11 rfl zk (A_ (Y_ (j_ d_) (Y_ (j_ d_) (Y_ (j_ d_) (bc_ (j_ d_))))) (cn_ 3 B bP_ rfl rfl rfl rfl (Zz 2 ?_)));refine V_ (λ_ a b=>⟨Vw.sat.sub (a.perm (l_ (c_ d_) (c_ d_))),b⟩) (Zz 2 ?_);have h:q=q++dd_ x:=by simp[dd_, *]
 have m:(lps++[x.r])=lps++aB_ [x]:=by simp[aB_, *]
 exact co_ results220 ⟨(I,F,K),h▸hm,m▸B⟩ rfl (l_ (c_ (c_ (c_ d_))) (F_ (c_ (c_ (c_ aU_))) (c_ (c_ B_)))) zt):G:=h
theorem is_ {G:Prop} (h:G:=by
 refine ap_ (mG_ x [] x.a q v A g pb kb ab ub ob ib rb sb fb ev lv F hm zav_) rfl rfl zp zt rfl λ⟨e,d⟩=>?_;dsimp only;simp only[yaJ_];refine Zz 2 ?_;have h:(q++[((Ky.mk x.kind [] x.a),x)])=q++dd_ x:=by simp[dd_, *]
 exact iq_):G:=h
theorem xn_ (x:Pc) (q:List (Ky×Pc)) (lps:List Str) (g pb kb ab ub ob ib rb sb fb:Nat) (ev:Value) (lv:Value) (F G:Hp) (hm:cU_ Ky.val Pc.cells 80 10 q pb F) (hl:zR 9 1 al_ lv lps G) (V:q.length<=900000000) (U:lps.length<=900000000):Tri prog 220 #[zp_ g 0,Pc.val x] ((g,.cells #[.map (some pb),lv,.map (some kb),ev,.map (some ab),.map (some ub),.map (some ob),.map (some ib),.map (some rb),.map (some sb),.map (some fb)] 204 (0,0))::(F++G)) [] (λ_:{y:Value×Hp×Hp // cU_ Ky.val Pc.cells 80 10 (q++dd_ x) pb y.2.1/\zR 9 1 al_ y.1 (lps++aB_ [x]) y.2.2}=>.tuple #[]) (λy=>(g,.cells #[.map (some pb),y.1.1,.map (some kb),ev,.map (some ab),.map (some ub),.map (some ob),.map (some ib),.map (some rb),.map (some sb),.map (some fb)] 204 (0,0))::(y.1.2.1++y.1.2.2)) (λ_=>[]):=by
 refine i_ func220 rfl rfl ntmps220 rfl λW=>?_;refine Zz 2 ?_;refine P_ rfl rfl λA=>P_ rfl rfl λv=>Zz 4 ?_
 refine e_ (aY_ rfl rfl) rfl (Zi 13 (λL=>?_) λL=>?_)
 .refine Zi 6 (λJ=>?_) λJ=>?_
  .refine Zi 5 (λQ=>?_) λQ=>?_
   .refine Zi 6 (λO=>?_) λO=>?_
    .refine Zi 6 (λH=>?_) λH=>?_
     .refine Zi 7 (λR=>?_) λR=>?_
      .refine Zi 5 (λP=>?_) λP=>?_
       .refine Zi 6 (λN=>?_) λN=>?_
        .refine Zi 6 (λM=>?_) λM=>?_
         .refine Zz 6 ?_
          have h:q=q++dd_ x:=by simp[dd_, *]
          have m:lps=lps++aB_ [x]:=by simp[aB_, *]
          exact co_ results220 ⟨(lv,F,G),h▸hm,m▸hl⟩ rfl zp zt
         refine Zz 4 ?_;refine ak_ ((v,.cells #[iv_ x.kind,str x.a,str x.b,str x.c,str x.r,str x.s,str x.t,iv_ x.lo,iv_ x.hi,iv_ x.frm] 80 (0,0))::((A,.cells #[zp_ g 0] 195 (0,0))::[])) zk ?_;refine D_ 6 [0,1,2,3,5,6] zk zs (Zz 7 ?_);refine gL_ 4 7 rfl rfl zk ?_ ?_
         .refine Zz 3 ?_
          refine V_ zs (p_ 7 rfl zk (O_ o_ G_ ax_ rfl rfl rfl rfl rfl rfl λT=>Zz 2 ?_));refine V_ zs (p_ 8 rfl zk (aj_ (news:=List.flatMap al_ [x.r]) cH_ hl rfl rfl zp rfl (aL_ 0 rfl) (λu S=>az_ cm_ S) (by simp only[maxLen];first|omega|(simp;omega)) zav_ rfl λI K L=>?_));have B:=zsa L;exact mm_
         refine O_ o_ G_ ax_ rfl rfl rfl rfl rfl rfl λT=>Zz 2 ?_
         refine V_ zs (p_ 4 rfl zk (Zz 3 ?_));refine V_ zs (p_ 8 rfl zk (aj_ (news:=List.flatMap al_ [x.r]) cH_ hl rfl rfl zp rfl (aL_ 0 rfl) (λu S=>az_ cm_ S) (by simp only[maxLen];first|omega|(simp;omega)) zav_ rfl λI K J=>?_));have B:=zsa J;exact mm_
        refine Zz 9 ?_;refine ap_ (mG_ x x.r [] q v A g pb kb ab ub ob ib rb sb fb ev lv F hm zav_) rfl rfl zp zt rfl λ⟨e,d⟩=>?_;dsimp only;simp only[yaJ_];refine Zz 6 ?_;refine ap_ (mG_ x [] x.s (q++[((Ky.mk x.kind x.r []),x)]) v A g pb kb ab ub ob ib rb sb fb ev lv e d zav_) rfl rfl zp zt rfl λ⟨C,E⟩=>?_;dsimp only;simp only[yaJ_];refine Zz 2 ?_;have h:((q++[((Ky.mk x.kind x.r []),x)])++[((Ky.mk x.kind [] x.s),x)])=q++dd_ x:=by simp[dd_, *]
        exact ir_
       refine Zz 8 ?_;exact ml_
      refine Zz 11 ?_;exact ml_
     refine Zz 9 ?_;refine ap_ (mG_ x [] x.a q v A g pb kb ab ub ob ib rb sb fb ev lv F hm zav_) rfl rfl zp zt rfl λ⟨e,d⟩=>?_;dsimp only;simp only[yaJ_];refine Zz 8 ?_;refine ap_ (mG_ x x.r x.a (q++[((Ky.mk x.kind [] x.a),x)]) v A g pb kb ab ub ob ib rb sb fb ev lv e d zav_) rfl rfl zp zt rfl λ⟨C,E⟩=>?_;dsimp only;simp only[yaJ_];refine Zz 2 ?_;have h:((q++[((Ky.mk x.kind [] x.a),x)])++[((Ky.mk x.kind x.r x.a),x)])=q++dd_ x:=by simp[dd_, *]
     exact ir_
    refine Zz 9 ?_;refine ap_ (mG_ x [] x.a q v A g pb kb ab ub ob ib rb sb fb ev lv F hm zav_) rfl rfl zp zt rfl λ⟨e,d⟩=>?_;dsimp only;simp only[yaJ_];refine Zi 8 (λH=>?_) λH=>?_
    .refine Zz 5 ?_
     have h:(q++[((Ky.mk x.kind [] x.a),x)])=q++dd_ x:=by simp[dd_, *]
     exact iq_
    refine Zz 7 ?_;refine ap_ (mG_ x [] x.b (q++[((Ky.mk x.kind [] x.a),x)]) v A g pb kb ab ub ob ib rb sb fb ev lv e d zav_) rfl rfl zp zt rfl λ⟨C,E⟩=>?_;dsimp only;simp only[yaJ_];refine Zz 2 ?_;have h:((q++[((Ky.mk x.kind [] x.a),x)])++[((Ky.mk x.kind [] x.b),x)])=q++dd_ x:=by simp[dd_, *]
    exact ir_
   refine Zz 8 ?_;exact is_
  refine Zz 11 ?_;exact is_
 refine Zz 11 ?_;exact is_
structure NewE where
  g:Nat
  pb:Nat
  kb:Nat
  ab:Nat
  ub:Nat
  ob:Nat
  ib:Nat
  rb:Nat
  sb:Nat
  fb:Nat
  lv:Value
  hm:Hp
  hl:Hp
def NewE.ok (ps:List Pc) (y:NewE):Prop:=cU_ Ky.val Pc.cells 80 10 (aT_ ps) y.pb y.hm/\zR 9 1 al_ y.lv (aB_ ps) y.hl
def NewE.own (y:NewE):Hp:=(y.g,.cells #[.map (some y.pb),y.lv,.map (some y.kb),.nilFunc,.map (some y.ab),.map (some y.ub),.map (some y.ob),.map (some y.ib),.map (some y.rb),.map (some y.sb),.map (some y.fb)] 204 (0,0))::(y.kb,.map #[] 0)::(y.ab,.map #[] 0)::(y.ub,.map #[] 0)::(y.ob,.map #[] 0)::(y.ib,.map #[] 0)::(y.rb,.map #[] 0)::(y.sb,.map #[] 0)::(y.fb,.map #[] 0)::(y.hm++y.hl)
theorem fU_ {p:List Pc} {i:Nat} {x:Pc} (h:p[i]? = some x):uniq [] (List.take (i+1) p)=if x.zf∈uniq [] (p.take i) then uniq [] (p.take i) else uniq [] (p.take i)++[x.zf]:=by
  have d:∀ (l:List Pc) (r:List Pc),uniq l (r++[x])=if x.zf∈uniq l r then uniq l r else uniq l r++[x.zf]:=by
    intro l r
    induction r generalizing l with
    | nil=>rfl
    | cons y r ih=>exact ih _
  rw[yaz_,h,ybd_];exact d _ _
theorem wq_ (l:List Pc) (x:Pc):aT_ (l++[x])=aT_ l++dd_ x:=by simp[aT_]
theorem qT_ (l:List Pc) (x:Pc):aB_ (l++[x])=aB_ l++aB_ [x]:=by simp[aB_]
theorem yt_ (x:Pc):(dd_ x).length<=2:=by unfold dd_;(repeat' split)<;>simp
theorem oh_:∀ l:List Pc,(aT_ l).length<=2*l.length
  | []=>by simp[aT_]
  | x::l=>by
    have:=oh_ l;have d:=yt_ x;simp only[aT_,yaG_,yaf_,yal_]at this ⊢;omega
theorem mL_ (l:List Pc):(aB_ l).length<=l.length:=by
  simp only[aB_,yaF_];exact yba_ _ _
theorem sH_ (p:List Pc) (I:Ao) (N:Nat) (hp:p.length<=100000000):Tri prog 144 #[.slice I p.length N] [] [ac_ I (p.flatMap Pc.cells)] (λy:{y:NewE // y.ok (uniq [] p)}=>zp_ y.1.g 0) (λy=>y.1.own) (λ_=>[]):=by
 refine i_ func144 rfl rfl ntmps144 rfl λv_1=>?_;refine Zz 7 ?_;refine bf_ rfl λC=>bf_ rfl λE=>bf_ rfl λM=>bf_ rfl λG=>bf_ rfl λJ=>bf_ rfl λH=>bf_ rfl λL=>bf_ rfl λK=>bf_ rfl λF=>e_ (C_ Ax_ rfl rfl) rfl ?_
 refine P_ rfl rfl λx=>Zz 5 ?_
 refine bf_ rfl λO=>Zz 12 ?_
 refine H_ (ι:={y:Nat×Array MapEntry×Nat×Hp×Value×Hp // y.1<=List.length p/\SetE Pc.val y.2.1 (uniq [] (p.take y.1))/\cU_ Ky.val Pc.cells 80 10 (aT_ (uniq [] (p.take y.1))) C y.2.2.2.1/\zR 9 1 al_ y.2.2.2.2.1 (aB_ (uniq [] (p.take y.1))) y.2.2.2.2.2}) (λy=>[(3,zp_ x 0),(4,.map (some O)),(19,.slice I p.length N),(20,iv_ (List.length p:Int)),(21,iv_ y.1.1)]) (λy=>((x,.cells #[.map (some C),y.1.2.2.2.2.1,.map (some E),.nilFunc,.map (some M),.map (some G),.map (some J),.map (some H),.map (some L),.map (some K),.map (some F)] 204 (0,0))::((O,.map y.1.2.1 y.1.2.2.1)::((E,.map #[] 0)::((M,.map #[] 0)::((G,.map #[] 0)::((J,.map #[] 0)::((H,.map #[] 0)::((L,.map #[] 0)::((K,.map #[] 0)::((F,.map #[] 0)::(y.1.2.2.2.1++y.1.2.2.2.2.2)))))))))))) (λy=>[ac_ I (p.flatMap Pc.cells)]) (λy=>p.length - y.1.1) ⟨((0:Nat),#[],0,[(C,.map #[] 0)],(.slice none 0 0),[]),by simp,by exact SetE.nil,by exact cU_.nil _ _,(at_.nil 9 1)⟩ zl zp zh ?_;rintro ⟨⟨i,es,cs,Hm,B,Q⟩,hi,hE,hm,e⟩;dsimp only at hi hE hm e ⊢;have a1:=kC_ (p.take i) [];have hbt:=ybX_ i p;simp only[yaL_]at a1;have hbp:(aT_ (uniq [] (p.take i))).length<=900000000:=by have:=oh_ (uniq [] (p.take i));omega
 have a0:(aB_ (uniq [] (p.take i))).length<=900000000:=by have:=mL_ (uniq [] (p.take i));omega
 refine Zi 2 (λT=>?_) λT=>?_
 .refine Zz 13 ?_
  have P:List.take i p=p:=yab_ zaa_;rw[P]at hm e;exact ab_ results144 ⟨NewE.mk x C E M G J H L K F B Hm Q,hm,e⟩ rfl (l_ d_ (l_ (c_ d_) (l_ (c_ d_) (l_ (c_ d_) (l_ (c_ d_) (l_ (c_ d_) (l_ (c_ d_) (l_ (c_ d_) (l_ (c_ d_) (F_ (c_ z_) B_)))))))))) zt
 have m:i<p.length:=by omega
 obtain⟨R,d⟩:∃ P,p[i]? = some P:=⟨_,yaa_ m⟩;refine Zz 12 ?_;refine x_ aa_ rfl λb_12=>n_ 0 K_ rfl rfl rfl rfl rfl rfl (Zz 5 ?_)
 refine n_ 0 ag_ rfl rfl rfl rfl rfl rfl (Zz 6 ?_);refine E_ (bH_ (k:=Pc.zf R) (q:=(uniq [] (p.take i))) yV_ jN_ aG_ rfl rfl hE (λv h _=>(h.own _ (yad_ (i:=2) rfl)).1)) rfl λa2 A=>e_ (as_ rfl) rfl (Zz 2 ?_)
 cases a2
 .replace A:=zdf A
  refine Zz 5 ?_;refine oo_ (k:=Pc.zf R) (q:=(uniq [] (p.take i))) 2 yV_ (.inr rfl) jN_ rfl rfl rfl rfl hE λS a3 W=>Zz 5 ?_
  refine f_ (xn_ R.zf (aT_ (uniq [] (p.take i))) (aB_ (uniq [] (p.take i))) x C E M G J H L K F .nilFunc B Hm Q hm e  hbp a0) rfl (l_ (c_ d_) (F_ (c_ (c_ (c_ (c_ (c_ (c_ (c_ (c_ (c_ (c_ z_)))))))))) (c_ (c_ (c_ (c_ (c_ (c_ (c_ (c_ (c_ B_))))))))))) zt rfl λ⟨⟨X,Y,V⟩,U,Z⟩=>?_;dsimp only;simp only[yaJ_,yar_];refine Zz 2 ?_;refine A_ (Y_ d_ (Y_ (j_ (j_ d_)) (Y_ (j_ (j_ d_)) (Y_ (j_ (j_ d_)) (Y_ (j_ (j_ d_)) (Y_ (j_ (j_ d_)) (Y_ (j_ (j_ d_)) (Y_ (j_ (j_ d_)) (Y_ (j_ (j_ d_)) (Y_ (j_ (j_ d_)) (bc_ (j_ aU_)))))))))))) (Zz 5 ?_);exact u_ ⟨(i+1,S,a3,Y,X,V),m,by rw[fU_ d];exact W,by rw[fU_ d,yag_ zal_,wq_];exact U,(by rw[fU_ d,yag_ zal_,qT_];exact Z)⟩ zab_ zl zp zh
 replace A:=zdt A;refine Zz 8 ?_;exact u_ ⟨(i+1,es,cs,Hm,B,Q),m,by rw[fU_ d,yao_ zal_];exact hE,by rw[fU_ d,yao_ zal_];exact hm,(by rw[fU_ d,yao_ zal_];exact e)⟩ zab_ zl (l_ (c_ d_) (l_ (c_ d_) (l_ (c_ d_) (l_ (c_ d_) (l_ (c_ d_) (l_ (c_ d_) (l_ (c_ d_) (l_ (c_ d_) (l_ (c_ d_) (l_ (c_ d_) (F_ (c_ z_) B_))))))))))) zh
theorem nA_ {P:Program} {N:Nf} {fr:Fr} {H:Hp} {Γ:List Fct} {ty:TypeId} {K:Type} [DecidableEq K] {h:K->Value} {t y A:TypeId} {x:Operand} {d c:Nat} {es:Array MapEntry} {q:List K} (hE:SetE h es q) (e:∀ w,(underlying t).run P w=.ok (.map y A) w) (m:Fr.ev fr x=some (.map (some d))) (hm:∀ v,v.sat H->af_ Γ v->v.w.heap[d]? = some (.map es c)) :
    Yld P N fr H Γ (.call ⟨.builtin .len,#[x],#[t]⟩) ty (iv_ q.length):=by
  rw[<-hE.size];exact xw_ e m hm
def andF (a b:Fct):Fct where
  p v:=a.p v/\b.p v
  mono:=λv v' h ⟨h1,h2⟩=>⟨a.mono v v' h h1,b.mono v v' h h2⟩
def StA (b9 kb fb:Nat) (nw fm:List Fc) (H:Hp):Prop:=∃ sv es c es' c' q Hq,H=(b9,.cells #[sv] 50 (0,0))::(kb,.map es c)::([(fb,.map es' c')]++Hq)/\at_ 104 6 sv nw.length (nw.flatMap Fc.cells) Hq/\SetE Fc.val es nw/\SetE Fc.val es' q/\∀ f,f∈q↔f∈fm
theorem mk_ {G:Prop} (h:G:=by
 have d:bB_ m f nw=nw:=by unfold bB_;rw[yag_ (by rintro ⟨S,E⟩;first|omega|exact absurd zal_ E)]
 exact co_ results145 ⟨_,sv,es,c,A,M,q,K,rfl,by rw[d];exact R,by rw[d];exact hE,P,N⟩ rfl zp zt):G:=h
theorem BG_ (f:Fc) (nw fm:List Fc) (m:Nat) (hm:m<=65536) (g U V L kb fb:Nat) (c0 X c3 c4 c5 c6 c7 c8 c9 Q sv:Value) (es A:Array MapEntry) (c M:Nat) (q:List Fc) (K:Hp) (R:at_ 104 6 sv nw.length (nw.flatMap Fc.cells) K) (hE:SetE Fc.val es nw) (P:SetE Fc.val A q) (N:∀ f,f∈q↔f∈fm):Tri prog 145 #[Fc.val f,zp_ U 0,zp_ V 0,zp_ L 0] ((L,.cells #[sv] 50 (0,0))::(kb,.map es c)::([(fb,.map A M)]++K)) [ch_ U (.cells #[zp_ g 0] 195 (0,0)),ch_ V (.cells #[iv_ m] 3 (0,0)),ch_ g (.cells #[c0,X,.map (some kb),c3,c4,c5,c6,c7,c8,c9,Q] 204 (0,0))] (λ_:{H:Hp // StA L kb fb (bB_ m f nw) fm H}=>.tuple #[]) (λy=>y.1) (λ_=>[]):=by
 refine i_ func145 rfl rfl ntmps145 rfl λY=>?_;refine Zz 2 ?_;refine P_ rfl rfl λT=>Zz 4 ?_
 refine D_ 8 [0,1,2,3,4,5,6,7] zk zs (Zz 4 ?_);refine M_ rfl (nA_ hE bo_ rfl (λv h _=>(h.own _ (yad_ (i:=2) rfl)).1)) rfl (Zi 1 (λx=>?_) λx=>?_)
 .refine Zz 2 ?_
  refine D_ 0 [8,9,10,11,12,13,14,15] zk zs (Zz 14 ?_);exact mk_
 refine Zz 2 ?_;refine D_ 0 [8,9,10,11,12,13,14,15] zk zs (Zz 5 ?_);refine dV_ rfl rfl rfl (bH_ (k:=f) kT_ bo_ aG_ rfl rfl hE (λv h _=>(h.own _ (yad_ (i:=2) rfl)).1)) rfl λO e=>bu_ rfl rfl rfl (as_ rfl) rfl (Zz 4 ?_)
 cases O
 .replace e:=zdf e
  refine Zz 2 ?_;refine ak_ ((T,.cells #[iv_ f.kind,str f.a,str f.b,str f.r,iv_ f.lo,iv_ f.hi] 104 (0,0))::((L,.cells #[sv] 50 (0,0))::[])) zk ?_;refine D_ 1 [0,1,2,3,4] zk zs (Zz 6 ?_);refine p_ 5 rfl zk (oo_ (k:=f) 2 kT_ (.inr rfl) bo_ rfl rfl rfl rfl hE λF I C=>Zz 8 ?_);refine O_ I_ y_ R_ rfl rfl rfl rfl rfl rfl λW=>?_;refine aj_ (news:=List.flatMap Fc.cells [f]) eb_ R rfl rfl (c_ (c_ (c_ (c_ aU_)))) rfl (aL_ 0 rfl) (λu Z=>az_ Fc.cells_one Z) zaq_ zaa_ rfl λG J x=>?_;have B:=zsa x;refine A_ (Y_ (j_ d_) (Y_ (j_ d_) (Y_ (j_ d_) (bc_ (j_ d_))))) (cn_ 2 B cq_ rfl rfl rfl rfl (Zz 2 ?_));have d:bB_ m f nw=nw++[f]:=by unfold bB_;rw[yao_ ⟨by omega,by assumption⟩]
  exact co_ results145 ⟨_,G,F,I,A,M,q,J,rfl,by rw[d];exact B,by rw[d];rw[yag_ zal_]at C;exact C,P,N⟩ rfl (l_ (c_ (c_ d_)) (l_ (c_ (c_ d_)) (F_ (c_ (c_ aU_)) (c_ B_)))) zt
 replace e:=zdt e;refine Zz 3 ?_;exact mk_
def EA (m:Nat) (hm:m<=65536) (B:EngB) (b7 b8 b9 kb fb:Nat):Emt prog 104 where
 stp:=bB_ m
 kof:=idk
 St:=StA b9 kb fb
 fn:=145
 caps:=[zp_ b7 0,zp_ b8 0,zp_ b9 0]
 ef:=andF (ch_ b7 (.cells #[zp_ B.g 0] 195 (0,0))) (andF (ch_ b8 (.cells #[.int .i64 (m:Int)] 3 (0,0))) (ch_ B.g (.cells #[.map (some B.pb),.slice B.lad B.lps.length B.lcap,.map (some kb),.func (.func 145) #[] #[zp_ b7 0,zp_ b8 0,zp_ b9 0],.map (some B.ab),.map (some B.ub),.map (some B.ob),.map (some B.ib),.map (some B.rb),.map (some B.sb),.map (some fb)] 204 (0,0))))
 kb:=kb
 fb:=fb
 grows:=fI_ m
 emit:=λf nw fm H hS=>by
   obtain⟨sv,es,c,es2,c2,q,Hq,rfl,h1,h2,h3,h4⟩:=hS;exact sa_ [] (BG_ f nw fm m hm B.g b7 b8 b9 kb fb _ _ _ _ _ _ _ _ _ _ sv es es2 c c2 q Hq h1 h2 h3 h4) (λv _ h=>⟨h.1.1,h.1.2.1,h.1.2.2,trivial⟩)
 known:=λhS=>by
   obtain⟨sv,es,c,es2,c2,q,Hq,rfl,h1,h2,h3,h4⟩:=hS;exact⟨es,c,by simp,h2⟩
 firm:=λhS=>by
   obtain⟨sv,es,c,es2,c2,q,Hq,rfl,h1,h2,h3,h4⟩:=hS;exact⟨es2,c2,q,by simp,h3,h4⟩
 setf:=fun {nw fm H} f hS=>by
   obtain⟨sv,es,c,es2,c2,q,Hq,rfl,h1,h2,h3,h4⟩:=hS;refine⟨es2,c2,q,(b9,.cells #[sv] 50 (0,0))::(kb,.map es c)::Hq,bc_ zp,h3,h4,λes' c' h5=>⟨(b9,.cells #[sv] 50 (0,0))::(kb,.map es c)::([(fb,.map es' c')]++Hq),⟨sv,es,c,es',c',_,Hq,rfl,h1,h2,h5,?_⟩,bc_ zp⟩⟩;intro z
   split
   . rename_i hz;rw[h4,yan_];constructor
     . exact .inr
     . rintro (rfl|h)
       . exact (h4 _).1 hz
       . exact h
   . rw[yah_,yai_,h4,yan_,or_comm]
def fvC (v:Value):List Value:=[v]
theorem jt_ (v:Value):(fvC v).length=1:=rfl
theorem vW_ {P:Program} {N:Nf} {fr:Fr} {H:Hp} {Γ:List Fct} {ty:TypeId} {t e:TypeId} {n sz:Nat} {parts:List (Nat×Operand)} {vs:List (Nat×Value)} {z cs:List Value} (y:∀ w,(zeroValue t).run P w=.ok (.agg z.toArray) w) (m:∀ w,(underlying t).run P w=.ok (.array n e) w) (q:∀ w,(sizeOf e).run P w=.ok sz w) (v:Fr.evp fr parts=some vs) (h:mQ_ (λi=>some (i*sz,sz)) z vs=some cs) :
    Yld P N fr H Γ (.build t parts.toArray) ty (.agg cs.toArray) :=
  pA_ (λa x w=>by
    have:=x.evp v;rw[ybt_,this];have d:=iT_ _ _ _ _ h;simp only[Instr.build,Sem.run_bind,y,Result.andThen_ok,m,q,Value.cells,d,Sem.run_pure])
def rlV (g:Nat) (k:Nat):List Value:=if k=1 then [(Value.func (.func 224) #[zp_ g 0] #[]),(Value.func (.func 225) #[zp_ g 0] #[]),(Value.func (.func 226) #[zp_ g 0] #[]),(Value.func (.func 227) #[zp_ g 0] #[]),(Value.func (.func 228) #[zp_ g 0] #[]),(Value.func (.func 229) #[zp_ g 0] #[])] else if k=2 then [(Value.func (.func 230) #[zp_ g 0] #[]),(Value.func (.func 231) #[zp_ g 0] #[]),(Value.func (.func 232) #[zp_ g 0] #[]),(Value.func (.func 233) #[zp_ g 0] #[])] else [(Value.func (.func 234) #[zp_ g 0] #[]),(Value.func (.func 235) #[zp_ g 0] #[])]
theorem AJ_ (g:Nat):Tri prog 148 #[zp_ g 0] [] [] (λy:Nat×Nat×Nat=>.agg #[.slice none 0 0,.slice (some ⟨y.1,0,none⟩) 6 6,.slice (some ⟨y.2.1,0,none⟩) 4 4,.slice (some ⟨y.2.2,0,none⟩) 2 2]) (λ_=>[]) (λy=>[ac_ (some ⟨y.1,0,none⟩) (List.flatMap fvC (rlV g 1)),ac_ (some ⟨y.2.1,0,none⟩) (List.flatMap fvC (rlV g 2)),ac_ (some ⟨y.2.2,0,none⟩) (List.flatMap fvC (rlV g 3))]):=by
  refine i_ func148 rfl rfl ntmps148 rfl λx=>?_;refine Zz 2 ?_;refine x_ zeroValue206 rfl λA=>Zz 5 ?_
  refine e_ (aY_ (us:=[zp_ g 0]) (vs:=[]) rfl rfl) rfl (Zz 1 ?_);refine e_ (aY_ (us:=[zp_ g 0]) (vs:=[]) rfl rfl) rfl (Zz 1 ?_);refine e_ (aY_ (us:=[zp_ g 0]) (vs:=[]) rfl rfl) rfl (Zz 1 ?_);refine e_ (aY_ (us:=[zp_ g 0]) (vs:=[]) rfl rfl) rfl (Zz 1 ?_);refine e_ (aY_ (us:=[zp_ g 0]) (vs:=[]) rfl rfl) rfl (Zz 1 ?_);refine e_ (aY_ (us:=[zp_ g 0]) (vs:=[]) rfl rfl) rfl (O_ ee_ eL_ zeroValue199 rfl rfl rfl rfl rfl rfl λe=>?_);refine bC_ (List.flatMap fvC [(Value.func (.func 224) #[zp_ g 0] #[]),(Value.func (.func 225) #[zp_ g 0] #[]),(Value.func (.func 226) #[zp_ g 0] #[]),(Value.func (.func 227) #[zp_ g 0] #[]),(Value.func (.func 228) #[zp_ g 0] #[]),(Value.func (.func 229) #[zp_ g 0] #[])]) d_ rfl ?_;refine Zz 1 ?_;refine e_ (aY_ (us:=[zp_ g 0]) (vs:=[]) rfl rfl) rfl (Zz 1 ?_);refine e_ (aY_ (us:=[zp_ g 0]) (vs:=[]) rfl rfl) rfl (Zz 1 ?_);refine e_ (aY_ (us:=[zp_ g 0]) (vs:=[]) rfl rfl) rfl (Zz 1 ?_);refine e_ (aY_ (us:=[zp_ g 0]) (vs:=[]) rfl rfl) rfl (O_ ee_ eL_ zeroValue199 rfl rfl rfl rfl rfl rfl λh=>?_);refine bC_ (List.flatMap fvC [(Value.func (.func 230) #[zp_ g 0] #[]),(Value.func (.func 231) #[zp_ g 0] #[]),(Value.func (.func 232) #[zp_ g 0] #[]),(Value.func (.func 233) #[zp_ g 0] #[])]) d_ rfl ?_;refine Zz 1 ?_;refine e_ (aY_ (us:=[zp_ g 0]) (vs:=[]) rfl rfl) rfl (Zz 1 ?_);refine e_ (aY_ (us:=[zp_ g 0]) (vs:=[]) rfl rfl) rfl (O_ ee_ eL_ zeroValue199 rfl rfl rfl rfl rfl rfl λd=>?_);refine bC_ (List.flatMap fvC [(Value.func (.func 234) #[zp_ g 0] #[]),(Value.func (.func 235) #[zp_ g 0] #[])]) d_ rfl ?_;refine e_ (vW_ zeroValue206 wg_ sizeOf205 rfl rfl) rfl (n_ 0 sizeOf206 rfl rfl rfl rfl rfl rfl (Zz 3 ?_));exact de_ (e,h,d) (λB v m q=>dy_ (us:=[.slice none 0 0,.slice (some ⟨e,0,none⟩) (List.length [(Value.func (.func 224) #[zp_ g 0] #[]),(Value.func (.func 225) #[zp_ g 0] #[]),(Value.func (.func 226) #[zp_ g 0] #[]),(Value.func (.func 227) #[zp_ g 0] #[]),(Value.func (.func 228) #[zp_ g 0] #[]),(Value.func (.func 229) #[zp_ g 0] #[])]) 6,.slice (some ⟨h,0,none⟩) (List.length [(Value.func (.func 230) #[zp_ g 0] #[]),(Value.func (.func 231) #[zp_ g 0] #[]),(Value.func (.func 232) #[zp_ g 0] #[]),(Value.func (.func 233) #[zp_ g 0] #[])]) 4,.slice (some ⟨d,0,none⟩) (List.length [(Value.func (.func 234) #[zp_ g 0] #[]),(Value.func (.func 235) #[zp_ g 0] #[])]) 2]) 0 results148 isAgg206 sizeOf206 rfl rfl rfl B v m q) g_ zf
theorem fG_ (B:EngB) (E:Emt prog 104) (G:EngA) (V:List (Ky×Pc)) (x:Ix) (f:Fc) (nw fm:List Fc) (Hs:Hp) (hS:E.St nw fm Hs) (K T H Q Hr R:Hp) (hI:IxO 9 104 B x ⟨K,T,H,Q,Hr,R⟩) {n:FuncId} {args:Array Value} {e:Hp->Prop} (hT:∀ A:EngA,A.p=G.p->Tri prog n args Hs [gF B E,pF B V A,aF B x A,uF B x A,oF B x A,iF B x A,rF B x A,sF B x A,E.ef] (λ_:{H':Hp // e H'}=>.tuple #[]) (λy=>y.1) (λ_=>[])) :
    Tri prog n args ((K++(T++(H++(Q++(Hr++R)))))++Hs) [gF B E,pF B V G,E.ef] (λ_:{H':Hp // e H'}=>.tuple #[]) (λy=>(K++(T++(H++(Q++(Hr++R)))))++y.1) (λ_=>[]):=by
  obtain⟨Z,Y,W,hi,X,hm⟩:=hI;dsimp only at Z Y W hi X hm;obtain⟨O,N⟩:=Z.lent (P:=prog) mZ_;obtain⟨q,I⟩:=Y.lent (P:=prog) mZ_;obtain⟨L,C⟩:=W.lent (P:=prog) dR_;obtain⟨U,J⟩:=hi.lent (P:=prog) dR_;obtain⟨F,M⟩:=X.lent (P:=prog) dR_;obtain⟨m,S⟩:=hm.lent (P:=prog) dR_;refine sa_ _ (hT ⟨G.p,O,q,L,U,F,m⟩ rfl) λv hB h=>⟨h.1,h.2.1,N v λp d=>hB p zaS_,I v λp d=>hB p zaS_,C v λp d=>hB p zaS_,J v λp d=>hB p zaS_,M v λp d=>hB p zaS_,S v λp d=>hB p zaS_,h.2.2.1,trivial⟩
theorem rl10_c (B:EngB) (E:Emt prog 104) (J:EngA) (d:List (Ky×Pc)) (x:Ix) (f:Fc) (nw fm:List Fc) (Hs:Hp) (hS:E.St nw fm Hs) (q F m v Hr C:Hp) (K:IxO 9 104 B x ⟨q,F,m,v,Hr,C⟩) (H:∀ k,(lat d k).length<=1000000000) (G:∀ k,(lat x.above k).length<=1000000000/\(lat x.under k).length<=1000000000) (I:∀ k,(lat x.frm k).length<=1000000000/\(lat x.into k).length<=1000000000/\(lat x.ranges k).length<=1000000000/\(lat x.firms k).length<=1000000000) (L:f.kind=3->-1099511627776<=f.lo/\f.lo<=f.hi/\f.hi<=1099511627776) (M:f.kind=3->∀ y∈lat d (Ky.mk 9 f.r []),-1099511627776<=y.lo/\y.lo<=y.hi/\y.hi<=1099511627776) (hk:f.kind=1):Tri prog 224 #[zp_ B.g 0,f.val] ((q++(F++(m++(v++(Hr++C)))))++Hs) [gF B E,pF B d J,E.ef] (λ_:{H':Hp // E.St (rl E.stp E.kof d x f 0 (nw,fm)).1 (rl E.stp E.kof d x f 0 (nw,fm)).2 H'}=>.tuple #[]) (λy=>(q++(F++(m++(v++(Hr++C)))))++y.1) (λ_=>[]):=by
  refine fG_ B E J d x f nw fm Hs hS q F m v Hr C K λA N=>?_;have h:=xb_ B E A d x f nw fm Hs hS H G I;have e:rl E.stp E.kof d x f 0 (nw,fm)=_:=yao_ hk;rw[e];exact h
theorem rl11_c (B:EngB) (E:Emt prog 104) (J:EngA) (d:List (Ky×Pc)) (x:Ix) (f:Fc) (nw fm:List Fc) (Hs:Hp) (hS:E.St nw fm Hs) (q F m v Hr C:Hp) (K:IxO 9 104 B x ⟨q,F,m,v,Hr,C⟩) (H:∀ k,(lat d k).length<=1000000000) (G:∀ k,(lat x.above k).length<=1000000000/\(lat x.under k).length<=1000000000) (I:∀ k,(lat x.frm k).length<=1000000000/\(lat x.into k).length<=1000000000/\(lat x.ranges k).length<=1000000000/\(lat x.firms k).length<=1000000000) (L:f.kind=3->-1099511627776<=f.lo/\f.lo<=f.hi/\f.hi<=1099511627776) (M:f.kind=3->∀ y∈lat d (Ky.mk 9 f.r []),-1099511627776<=y.lo/\y.lo<=y.hi/\y.hi<=1099511627776) (hk:f.kind=1):Tri prog 225 #[zp_ B.g 0,f.val] ((q++(F++(m++(v++(Hr++C)))))++Hs) [gF B E,pF B d J,E.ef] (λ_:{H':Hp // E.St (rl E.stp E.kof d x f 1 (nw,fm)).1 (rl E.stp E.kof d x f 1 (nw,fm)).2 H'}=>.tuple #[]) (λy=>(q++(F++(m++(v++(Hr++C)))))++y.1) (λ_=>[]):=by
  refine fG_ B E J d x f nw fm Hs hS q F m v Hr C K λA N=>?_;have h:=both_c B E A d x f nw fm Hs hS H G I;have e:rl E.stp E.kof d x f 1 (nw,fm)=_:=yao_ hk;rw[e];exact h
theorem rl12_c (B:EngB) (E:Emt prog 104) (J:EngA) (d:List (Ky×Pc)) (x:Ix) (f:Fc) (nw fm:List Fc) (Hs:Hp) (hS:E.St nw fm Hs) (q F m v Hr C:Hp) (K:IxO 9 104 B x ⟨q,F,m,v,Hr,C⟩) (H:∀ k,(lat d k).length<=1000000000) (G:∀ k,(lat x.above k).length<=1000000000/\(lat x.under k).length<=1000000000) (I:∀ k,(lat x.frm k).length<=1000000000/\(lat x.into k).length<=1000000000/\(lat x.ranges k).length<=1000000000/\(lat x.firms k).length<=1000000000) (L:f.kind=3->-1099511627776<=f.lo/\f.lo<=f.hi/\f.hi<=1099511627776) (M:f.kind=3->∀ y∈lat d (Ky.mk 9 f.r []),-1099511627776<=y.lo/\y.lo<=y.hi/\y.hi<=1099511627776) (hk:f.kind=1):Tri prog 226 #[zp_ B.g 0,f.val] ((q++(F++(m++(v++(Hr++C)))))++Hs) [gF B E,pF B d J,E.ef] (λ_:{H':Hp // E.St (rl E.stp E.kof d x f 2 (nw,fm)).1 (rl E.stp E.kof d x f 2 (nw,fm)).2 H'}=>.tuple #[]) (λy=>(q++(F++(m++(v++(Hr++C)))))++y.1) (λ_=>[]):=by
  refine fG_ B E J d x f nw fm Hs hS q F m v Hr C K λA N=>?_;have h:=some_c B E A d x f nw fm Hs hS H G I;have e:rl E.stp E.kof d x f 2 (nw,fm)=_:=yao_ hk;rw[e];exact h
theorem rl13_c (B:EngB) (E:Emt prog 104) (J:EngA) (d:List (Ky×Pc)) (x:Ix) (f:Fc) (nw fm:List Fc) (Hs:Hp) (hS:E.St nw fm Hs) (q F m v Hr C:Hp) (K:IxO 9 104 B x ⟨q,F,m,v,Hr,C⟩) (H:∀ k,(lat d k).length<=1000000000) (G:∀ k,(lat x.above k).length<=1000000000/\(lat x.under k).length<=1000000000) (I:∀ k,(lat x.frm k).length<=1000000000/\(lat x.into k).length<=1000000000/\(lat x.ranges k).length<=1000000000/\(lat x.firms k).length<=1000000000) (L:f.kind=3->-1099511627776<=f.lo/\f.lo<=f.hi/\f.hi<=1099511627776) (M:f.kind=3->∀ y∈lat d (Ky.mk 9 f.r []),-1099511627776<=y.lo/\y.lo<=y.hi/\y.hi<=1099511627776) (hk:f.kind=1):Tri prog 227 #[zp_ B.g 0,f.val] ((q++(F++(m++(v++(Hr++C)))))++Hs) [gF B E,pF B d J,E.ef] (λ_:{H':Hp // E.St (rl E.stp E.kof d x f 3 (nw,fm)).1 (rl E.stp E.kof d x f 3 (nw,fm)).2 H'}=>.tuple #[]) (λy=>(q++(F++(m++(v++(Hr++C)))))++y.1) (λ_=>[]):=by
  refine fG_ B E J d x f nw fm Hs hS q F m v Hr C K λA N=>?_;have h:=ux_ B E A d x f nw fm Hs hS H G I;have e:rl E.stp E.kof d x f 3 (nw,fm)=_:=yao_ hk;rw[e];exact h
theorem rl14_c (B:EngB) (E:Emt prog 104) (J:EngA) (d:List (Ky×Pc)) (x:Ix) (f:Fc) (nw fm:List Fc) (Hs:Hp) (hS:E.St nw fm Hs) (q F m v Hr C:Hp) (K:IxO 9 104 B x ⟨q,F,m,v,Hr,C⟩) (H:∀ k,(lat d k).length<=1000000000) (G:∀ k,(lat x.above k).length<=1000000000/\(lat x.under k).length<=1000000000) (I:∀ k,(lat x.frm k).length<=1000000000/\(lat x.into k).length<=1000000000/\(lat x.ranges k).length<=1000000000/\(lat x.firms k).length<=1000000000) (L:f.kind=3->-1099511627776<=f.lo/\f.lo<=f.hi/\f.hi<=1099511627776) (M:f.kind=3->∀ y∈lat d (Ky.mk 9 f.r []),-1099511627776<=y.lo/\y.lo<=y.hi/\y.hi<=1099511627776) (hk:f.kind=1):Tri prog 228 #[zp_ B.g 0,f.val] ((q++(F++(m++(v++(Hr++C)))))++Hs) [gF B E,pF B d J,E.ef] (λ_:{H':Hp // E.St (rl E.stp E.kof d x f 4 (nw,fm)).1 (rl E.stp E.kof d x f 4 (nw,fm)).2 H'}=>.tuple #[]) (λy=>(q++(F++(m++(v++(Hr++C)))))++y.1) (λ_=>[]):=by
  refine fG_ B E J d x f nw fm Hs hS q F m v Hr C K λA N=>?_;have h:=th_ B E A d x f nw fm Hs hS H G I;have e:rl E.stp E.kof d x f 4 (nw,fm)=_:=yao_ hk;rw[e];exact h
theorem rl15_c (B:EngB) (E:Emt prog 104) (J:EngA) (d:List (Ky×Pc)) (x:Ix) (f:Fc) (nw fm:List Fc) (Hs:Hp) (hS:E.St nw fm Hs) (q F m v Hr C:Hp) (K:IxO 9 104 B x ⟨q,F,m,v,Hr,C⟩) (H:∀ k,(lat d k).length<=1000000000) (G:∀ k,(lat x.above k).length<=1000000000/\(lat x.under k).length<=1000000000) (I:∀ k,(lat x.frm k).length<=1000000000/\(lat x.into k).length<=1000000000/\(lat x.ranges k).length<=1000000000/\(lat x.firms k).length<=1000000000) (L:f.kind=3->-1099511627776<=f.lo/\f.lo<=f.hi/\f.hi<=1099511627776) (M:f.kind=3->∀ y∈lat d (Ky.mk 9 f.r []),-1099511627776<=y.lo/\y.lo<=y.hi/\y.hi<=1099511627776) (hk:f.kind=1):Tri prog 229 #[zp_ B.g 0,f.val] ((q++(F++(m++(v++(Hr++C)))))++Hs) [gF B E,pF B d J,E.ef] (λ_:{H':Hp // E.St (rl E.stp E.kof d x f 5 (nw,fm)).1 (rl E.stp E.kof d x f 5 (nw,fm)).2 H'}=>.tuple #[]) (λy=>(q++(F++(m++(v++(Hr++C)))))++y.1) (λ_=>[]):=by
  refine fG_ B E J d x f nw fm Hs hS q F m v Hr C K λA N=>?_;have h:=Am_ B E A d x f nw fm Hs hS H G I;have e:rl E.stp E.kof d x f 5 (nw,fm)=_:=yao_ hk;rw[e];exact h
theorem rl20_c (B:EngB) (E:Emt prog 104) (J:EngA) (d:List (Ky×Pc)) (x:Ix) (f:Fc) (nw fm:List Fc) (Hs:Hp) (hS:E.St nw fm Hs) (q F m v Hr C:Hp) (K:IxO 9 104 B x ⟨q,F,m,v,Hr,C⟩) (H:∀ k,(lat d k).length<=1000000000) (G:∀ k,(lat x.above k).length<=1000000000/\(lat x.under k).length<=1000000000) (I:∀ k,(lat x.frm k).length<=1000000000/\(lat x.into k).length<=1000000000/\(lat x.ranges k).length<=1000000000/\(lat x.firms k).length<=1000000000) (L:f.kind=3->-1099511627776<=f.lo/\f.lo<=f.hi/\f.hi<=1099511627776) (M:f.kind=3->∀ y∈lat d (Ky.mk 9 f.r []),-1099511627776<=y.lo/\y.lo<=y.hi/\y.hi<=1099511627776) (hk:f.kind=2):Tri prog 230 #[zp_ B.g 0,f.val] ((q++(F++(m++(v++(Hr++C)))))++Hs) [gF B E,pF B d J,E.ef] (λ_:{H':Hp // E.St (rl E.stp E.kof d x f 0 (nw,fm)).1 (rl E.stp E.kof d x f 0 (nw,fm)).2 H'}=>.tuple #[]) (λy=>(q++(F++(m++(v++(Hr++C)))))++y.1) (λ_=>[]):=by
  refine fG_ B E J d x f nw fm Hs hS q F m v Hr C K λA N=>?_;have h:=wS_ B E A d x f nw fm Hs hS H G I;have e:rl E.stp E.kof d x f 0 (nw,fm)=_:=(yag_ zbf_).trans (yao_ hk);rw[e];exact h
theorem rl21_c (B:EngB) (E:Emt prog 104) (J:EngA) (d:List (Ky×Pc)) (x:Ix) (f:Fc) (nw fm:List Fc) (Hs:Hp) (hS:E.St nw fm Hs) (q F m v Hr C:Hp) (K:IxO 9 104 B x ⟨q,F,m,v,Hr,C⟩) (H:∀ k,(lat d k).length<=1000000000) (G:∀ k,(lat x.above k).length<=1000000000/\(lat x.under k).length<=1000000000) (I:∀ k,(lat x.frm k).length<=1000000000/\(lat x.into k).length<=1000000000/\(lat x.ranges k).length<=1000000000/\(lat x.firms k).length<=1000000000) (L:f.kind=3->-1099511627776<=f.lo/\f.lo<=f.hi/\f.hi<=1099511627776) (M:f.kind=3->∀ y∈lat d (Ky.mk 9 f.r []),-1099511627776<=y.lo/\y.lo<=y.hi/\y.hi<=1099511627776) (hk:f.kind=2):Tri prog 231 #[zp_ B.g 0,f.val] ((q++(F++(m++(v++(Hr++C)))))++Hs) [gF B E,pF B d J,E.ef] (λ_:{H':Hp // E.St (rl E.stp E.kof d x f 1 (nw,fm)).1 (rl E.stp E.kof d x f 1 (nw,fm)).2 H'}=>.tuple #[]) (λy=>(q++(F++(m++(v++(Hr++C)))))++y.1) (λ_=>[]):=by
  refine fG_ B E J d x f nw fm Hs hS q F m v Hr C K λA N=>?_;have h:=BX_ B E A d x f nw fm Hs hS H G I;have e:rl E.stp E.kof d x f 1 (nw,fm)=_:=(yag_ zbf_).trans (yao_ hk);rw[e];exact h
theorem rl22_c (B:EngB) (E:Emt prog 104) (J:EngA) (d:List (Ky×Pc)) (x:Ix) (f:Fc) (nw fm:List Fc) (Hs:Hp) (hS:E.St nw fm Hs) (q F m v Hr C:Hp) (K:IxO 9 104 B x ⟨q,F,m,v,Hr,C⟩) (H:∀ k,(lat d k).length<=1000000000) (G:∀ k,(lat x.above k).length<=1000000000/\(lat x.under k).length<=1000000000) (I:∀ k,(lat x.frm k).length<=1000000000/\(lat x.into k).length<=1000000000/\(lat x.ranges k).length<=1000000000/\(lat x.firms k).length<=1000000000) (L:f.kind=3->-1099511627776<=f.lo/\f.lo<=f.hi/\f.hi<=1099511627776) (M:f.kind=3->∀ y∈lat d (Ky.mk 9 f.r []),-1099511627776<=y.lo/\y.lo<=y.hi/\y.hi<=1099511627776) (hk:f.kind=2):Tri prog 232 #[zp_ B.g 0,f.val] ((q++(F++(m++(v++(Hr++C)))))++Hs) [gF B E,pF B d J,E.ef] (λ_:{H':Hp // E.St (rl E.stp E.kof d x f 2 (nw,fm)).1 (rl E.stp E.kof d x f 2 (nw,fm)).2 H'}=>.tuple #[]) (λy=>(q++(F++(m++(v++(Hr++C)))))++y.1) (λ_=>[]):=by
  refine fG_ B E J d x f nw fm Hs hS q F m v Hr C K λA N=>?_;have h:=uw_ B E A d x f nw fm Hs hS H G I;have e:rl E.stp E.kof d x f 2 (nw,fm)=_:=(yag_ zbf_).trans (yao_ hk);rw[e];exact h
theorem rl23_c (B:EngB) (E:Emt prog 104) (J:EngA) (d:List (Ky×Pc)) (x:Ix) (f:Fc) (nw fm:List Fc) (Hs:Hp) (hS:E.St nw fm Hs) (q F m v Hr C:Hp) (K:IxO 9 104 B x ⟨q,F,m,v,Hr,C⟩) (H:∀ k,(lat d k).length<=1000000000) (G:∀ k,(lat x.above k).length<=1000000000/\(lat x.under k).length<=1000000000) (I:∀ k,(lat x.frm k).length<=1000000000/\(lat x.into k).length<=1000000000/\(lat x.ranges k).length<=1000000000/\(lat x.firms k).length<=1000000000) (L:f.kind=3->-1099511627776<=f.lo/\f.lo<=f.hi/\f.hi<=1099511627776) (M:f.kind=3->∀ y∈lat d (Ky.mk 9 f.r []),-1099511627776<=y.lo/\y.lo<=y.hi/\y.hi<=1099511627776) (hk:f.kind=2):Tri prog 233 #[zp_ B.g 0,f.val] ((q++(F++(m++(v++(Hr++C)))))++Hs) [gF B E,pF B d J,E.ef] (λ_:{H':Hp // E.St (rl E.stp E.kof d x f 3 (nw,fm)).1 (rl E.stp E.kof d x f 3 (nw,fm)).2 H'}=>.tuple #[]) (λy=>(q++(F++(m++(v++(Hr++C)))))++y.1) (λ_=>[]):=by
  refine fG_ B E J d x f nw fm Hs hS q F m v Hr C K λA N=>?_;have h:=tg_ B E A d x f nw fm Hs hS H G I;have e:rl E.stp E.kof d x f 3 (nw,fm)=_:=(yag_ zbf_).trans (yao_ hk);rw[e];exact h
theorem rl30_c (B:EngB) (E:Emt prog 104) (J:EngA) (d:List (Ky×Pc)) (x:Ix) (f:Fc) (nw fm:List Fc) (Hs:Hp) (hS:E.St nw fm Hs) (q F m v Hr C:Hp) (K:IxO 9 104 B x ⟨q,F,m,v,Hr,C⟩) (H:∀ k,(lat d k).length<=1000000000) (G:∀ k,(lat x.above k).length<=1000000000/\(lat x.under k).length<=1000000000) (I:∀ k,(lat x.frm k).length<=1000000000/\(lat x.into k).length<=1000000000/\(lat x.ranges k).length<=1000000000/\(lat x.firms k).length<=1000000000) (L:f.kind=3->-1099511627776<=f.lo/\f.lo<=f.hi/\f.hi<=1099511627776) (M:f.kind=3->∀ y∈lat d (Ky.mk 9 f.r []),-1099511627776<=y.lo/\y.lo<=y.hi/\y.hi<=1099511627776) (hk:f.kind=3):Tri prog 234 #[zp_ B.g 0,f.val] ((q++(F++(m++(v++(Hr++C)))))++Hs) [gF B E,pF B d J,E.ef] (λ_:{H':Hp // E.St (rl E.stp E.kof d x f 0 (nw,fm)).1 (rl E.stp E.kof d x f 0 (nw,fm)).2 H'}=>.tuple #[]) (λy=>(q++(F++(m++(v++(Hr++C)))))++y.1) (λ_=>[]):=by
  refine fG_ B E J d x f nw fm Hs hS q F m v Hr C K λA N=>?_;have h:=meet_c B E A d x f nw fm Hs hS H G I;have e:rl E.stp E.kof d x f 0 (nw,fm)=_:=(yag_ zbf_).trans (yag_ zbf_);rw[e];exact h
theorem rl31_c (B:EngB) (E:Emt prog 104) (J:EngA) (d:List (Ky×Pc)) (x:Ix) (f:Fc) (nw fm:List Fc) (Hs:Hp) (hS:E.St nw fm Hs) (q F m v Hr C:Hp) (L:IxO 9 104 B x ⟨q,F,m,v,Hr,C⟩) (H:∀ k,(lat d k).length<=1000000000) (G:∀ k,(lat x.above k).length<=1000000000/\(lat x.under k).length<=1000000000) (I:∀ k,(lat x.frm k).length<=1000000000/\(lat x.into k).length<=1000000000/\(lat x.ranges k).length<=1000000000/\(lat x.firms k).length<=1000000000) (K:f.kind=3->-1099511627776<=f.lo/\f.lo<=f.hi/\f.hi<=1099511627776) (M:f.kind=3->∀ y∈lat d (Ky.mk 9 f.r []),-1099511627776<=y.lo/\y.lo<=y.hi/\y.hi<=1099511627776) (hk:f.kind=3):Tri prog 235 #[zp_ B.g 0,f.val] ((q++(F++(m++(v++(Hr++C)))))++Hs) [gF B E,pF B d J,E.ef] (λ_:{H':Hp // E.St (rl E.stp E.kof d x f 1 (nw,fm)).1 (rl E.stp E.kof d x f 1 (nw,fm)).2 H'}=>.tuple #[]) (λy=>(q++(F++(m++(v++(Hr++C)))))++y.1) (λ_=>[]):=by
  refine fG_ B E J d x f nw fm Hs hS q F m v Hr C L λA N=>?_;have h:=out_c B E A d x f nw fm Hs hS H G I (K hk) (M hk);have e:rl E.stp E.kof d x f 1 (nw,fm)=_:=(yag_ zbf_).trans (yag_ zbf_);rw[e];exact h
section
variable {N:Nf} {v0:Vw} {H0:Hp} {fr:Fr}
theorem ot_ {k:Act->World->Prop} {F:Hp}:∀ (B:Hp) {H:Hp} {Γ:List Fct},H.Perm (B++F)->Ok N v0 H0 k fr F (B.reverse.map (λp=>ch_ p.1 p.2)++Γ)->Ok N v0 H0 k fr H Γ
  | [],H,Γ,hH,h=>A_ hH h
  | (b,o)::B,H,Γ,hH,h=>by
    refine eO_ (ch_ b o) (F:=B++F) hH (λ_ d e _=>⟨d,e⟩) ?_;refine ot_ B (.refl _) ?_;simpa using h
end
end Go.Proofs.YtbffkokbdeppaaaGreatDoor
namespace Go.Proofs.YtbffkokbdeppaaaGreatDoor
open Go Go.Sx Go.Proofs Tryz
attribute [local irreducible] Code.wp wpList wpAnyH
open Go.Vs
theorem wX_ {P:Program} (w:World) (d:Nat) (t e:TypeId) (a:Ao) (l c:Nat) (h:P.underlying t=some (.slice e)):(Op.equalIn (d+1) t (.slice a l c) (.slice none 0 0)).run P w=.ok a.isNone w:=by
  cases a<;>simp[Op.equalIn,run_underlying h]
theorem vA_ {P:Program} (w:World) (t e:TypeId) (a:Ao) (l c:Nat) (h:P.underlying t=some (.slice e)):(Op.equal t (.slice a l c) (.slice none 0 0)).run P w=.ok a.isNone w:=wX_ w 9999 t e a l c h
theorem ny_ {P:Program} {N:Nf} {fr:Fr} {H:Hp} {Γ:List Fct} {ty t q e:TypeId} {x y:Operand} {ad:Ao} {m c:Nat} (A:P.underlying t=some (.slice e)) (B:Fr.ev fr x=some (.slice ad m c)) (h:Fr.ev fr y=some (.slice none 0 0)):Yld P N fr H Γ (.binOp .eql t x y q) ty (.bool (decide (ad=none))) :=
  λa v d _ _ _ _ _=>by
    have C:decide (ad=none)=ad.isNone:=by cases ad<;>simp
    simp[execOp,d.ev B,d.ev h,eqGuard,binOp,vA_ v.w t e ad m c A,C]
theorem sn_ {v:Vw} {cs:List Value} (h:bG_ v none cs):cs=[]:=by
 rcases h with h|⟨b,off,e,T,fz,d,_⟩
 .exact h
 cases d
theorem si_ (b:Nat) (e:TypeId) (sz:Nat):at_ e sz (.slice (some ⟨b,0,none⟩) 0 0) 0 [] [(b,.cells #[] e (0,0))]:=⟨by simp,.inr ⟨b,0,#[],rfl,rfl,yaj_ _,by simp[maxLen],by simp,by simp⟩⟩
theorem oZ_ (l:List Str) (ad:Ao) (cap:Nat) (H:l.length<=cap) (hl:l.length<=1000000000):Tri prog 221 #[.slice ad l.length cap] [] [ac_ ad (l.flatMap al_)] (λy:{y:Value×Hp // zR 9 1 al_ y.1 l y.2}=>y.1.1) (λy=>y.1.2) (λ_=>[]):=by
 refine i_ func221 rfl rfl ntmps221 rfl λE=>?_;refine Zz 9 ?_;refine E_ (ny_ iA_ rfl rfl) rfl λC d=>Zz 2 ?_
 cases C
 .replace d:=zdf d
  refine Zz 5 ?_;refine pR_ o_ G_ rfl λB=>A_ d_ (Zz 1 ?_)
  refine eD_ (news:=List.flatMap al_ l) cH_ (si_ B 9 1) rfl rfl (λq=>absurd q d) H T_ (by rw[cr_ al_ 1 au_]) zf (λu F=>az_ cm_ F) zaq_ zaa_ rfl λe m d=>?_;refine A_ yaB_ ?_;have A:at_ 9 1 e (List.length (([]:List Str)++l)) (List.flatMap al_ (([]:List Str)++l)) m:=by rw[yaf_,yaY_];exact d
  refine Zz 4 ?_;exact ab_ results221 ⟨(e,m),by simpa using A⟩ rfl T_ zt
 replace d:=zdt d;refine Zz 7 ?_;refine yD_ (p:=List.flatMap al_ l=[]) (λv _ h=>by have q:=h.1;subst d;exact sn_ q) λG=>?_;have x:l=[]:=yau_ (by have:=yae_ List.length G;rwa [cr_ al_ 1 au_,ydv_]at this);exact ab_ results221 ⟨(.slice none 0 0,[]),by subst x;exact at_.nil _ _⟩ rfl g_ zt
def atS (p:List Pc):List Str:=Lib.compact ((ex_ p++[[42],[33]]).mergeSort λx y=>decide (x<=y))
theorem vO_ (p:List Pc):(atS p).length<=3*p.length+2:=by
  have:=gI_ ((ex_ p++[[42],[33]]).mergeSort λx y=>decide (x<=y));have d:=fr_ p;rw[yaR_,yaf_]at this;simp only[yal_,yaL_]at this;unfold atS;omega
theorem pe_ (p:List Pc):(atS p).Pairwise λx y=>x<y:=hT_ (gf_ _)
theorem hW_ (p:List Pc) (x:Str):x∈atS p↔x∈ex_ p\/x=[42]\/x=[33]:=by
  unfold atS;rw[iW_,ybc_,yah_];simp
theorem atS_c (p:List Pc) (A:Ao) (m:Nat) (V:p.length<=100000000):Tri prog 146 #[.slice A p.length m] [] [ac_ A (p.flatMap Pc.cells)] (λy:{y:Ao×Nat // (atS p).length<=y.2/\y.2<=maxLen/\(y.1=none->y.2=0)}=>.slice y.1.1 (atS p).length y.1.2) (λ_=>[]) (λy=>[ac_ y.1.1 ((atS p).flatMap al_)]):=by
  refine i_ func146 rfl rfl ntmps146 rfl λR=>?_;refine Zz 8 ?_;refine f_ (Cc_ p A m zaa_) rfl g_ zf rfl λ⟨⟨aad,acap⟩,L,P⟩=>?_;dsimp only;refine f_ (oZ_ (ex_ p) aad acap L (by have:=fr_ p;omega)) rfl g_ zf rfl λ⟨⟨T,Q⟩,M⟩=>?_;dsimp only;refine A_ dk_ (O_ o_ G_ ax_ rfl rfl rfl rfl rfl rfl λU=>?_);refine aj_ (news:=List.flatMap al_ [[42],[33]]) cH_ M rfl rfl B_ rfl (aL_ 0 rfl) (λu S=>az_ cm_ S) (by simp only[maxLen];(have:=fr_ p;(try simp only[yaf_,yal_,yaL_]);omega)) zbp_ rfl λE O I=>?_;refine A_ yaB_ ?_;have F:=zsa I;refine Zz 6 ?_;refine f_ (nk_ F zbp_) rfl B_ zt rfl λ⟨v,J⟩=>?_;dsimp only;have q:at_ 9 1 E ((((ex_ p)++[[42],[33]])).mergeSort λx y=>decide (x<=y)).length (List.flatMap al_ ((((ex_ p)++[[42],[33]])).mergeSort λx y=>decide (x<=y))) v:=by rw[yaR_];exact J
  refine Zz 2 ?_;refine A_ (bc_ aU_) (Zz 3 ?_);refine f_ (kr_ q (by rw[yaR_];(have:=fr_ p;(try simp only[yaf_,yal_,yaL_]);omega))) rfl B_ zt rfl λ⟨⟨K,N⟩,G⟩=>?_;dsimp only;refine Zz 4 ?_;refine aW_ G z_ λC H B e d h=>?_;exact ab_ results146 ⟨(C,H),e,d,h⟩ (fs_ rfl B) g_ zf
end Go.Proofs.YtbffkokbdeppaaaGreatDoor
namespace Go.Proofs
open Go.Shelf
def Tryz.sortFc_ren:Go.Shelf.Ren:=⟨fun|6=>150|15=>181|14=>236|28=>267|29=>268|20=>293|21=>294|22=>295|23=>296|24=>297|25=>298|26=>299|27=>300|46=>336|47=>309|48=>310|49=>337|50=>338|57=>375|n=>n,fun|22=>50|24=>104|25=>209|3=>3|39=>231|0=>0|53=>306|55=>308|4=>4|46=>300|45=>299|50=>249|5=>5|9=>9|66=>349|70=>237|76=>388|77=>389|n=>n,fun|n=>n⟩
theorem Tryz.sortFc:Go.Proofs.SlLaysF0.n6 Tryz.prog Tryz.sortFc_ren:={
  mixed:=by kernel_rfl
  f6:=⟨Tryz.f150.name,by decide,Tryz.func150.trans (yae_ some zac_)⟩
  f14:=⟨Tryz.f236.name,by decide,Tryz.func236.trans (yae_ some zac_)⟩
  f15:=Tryz.func181.trans (yae_ some zac_)
  f20:=⟨Tryz.f293.name,by decide,Tryz.func293.trans (yae_ some zac_)⟩
  f21:=⟨Tryz.f294.name,by decide,Tryz.func294.trans (yae_ some zac_)⟩
  f22:=⟨Tryz.f295.name,by decide,Tryz.func295.trans (yae_ some zac_)⟩
  f23:=⟨Tryz.f296.name,by decide,Tryz.func296.trans (yae_ some zac_)⟩
  f24:=⟨Tryz.f297.name,by decide,Tryz.func297.trans (yae_ some zac_)⟩
  f25:=⟨Tryz.f298.name,by decide,Tryz.func298.trans (yae_ some zac_)⟩
  f26:=⟨Tryz.f299.name,by decide,Tryz.func299.trans (yae_ some zac_)⟩
  f27:=⟨Tryz.f300.name,by decide,Tryz.func300.trans (yae_ some zac_)⟩
  f28:=Tryz.func267.trans (yae_ some zac_)
  f29:=Tryz.func268.trans (yae_ some zac_)
  f46:=⟨Tryz.f336.name,by decide,Tryz.func336.trans (yae_ some zac_)⟩
  f47:=Tryz.func309.trans (yae_ some zac_)
  f48:=Tryz.func310.trans (yae_ some zac_)
  f49:=⟨Tryz.f337.name,by decide,Tryz.func337.trans (yae_ some zac_)⟩
  f50:=⟨Tryz.f338.name,by decide,Tryz.func338.trans (yae_ some zac_)⟩
  f57:=⟨Tryz.f375.name,by decide,Tryz.func375.trans (yae_ some zac_)⟩
  t0:=Tryz.underlying0
  a0:=Tryz.isAgg0
  z0:=Tryz.sizeOf0
  v0:=Tryz.zeroValue0
  t3:=Tryz.underlying3
  a3:=Tryz.isAgg3
  z3:=Tryz.sizeOf3
  v3:=Tryz.zeroValue3
  t4:=Tryz.underlying4
  a4:=Tryz.isAgg4
  z4:=Tryz.sizeOf4
  v4:=Tryz.zeroValue4
  t5:=Tryz.underlying5
  a5:=Tryz.isAgg5
  z5:=Tryz.sizeOf5
  v5:=Tryz.zeroValue5
  t9:=Tryz.underlying9
  a9:=Tryz.isAgg9
  z9:=Tryz.sizeOf9
  v9:=Tryz.zeroValue9
  t22:=Tryz.underlying50
  a22:=Tryz.isAgg50
  z22:=Tryz.sizeOf50
  v22:=Tryz.zeroValue50
  t25:=Tryz.underlying209
  a25:=Tryz.isAgg209
  z25:=Tryz.sizeOf209
  v25:=Tryz.zeroValue209
  t39:=Tryz.underlying231
  a39:=Tryz.isAgg231
  z39:=Tryz.sizeOf231
  v39:=Tryz.zeroValue231
  t45:=Tryz.underlying299
  a45:=Tryz.isAgg299
  z45:=Tryz.sizeOf299
  v45:=Tryz.zeroValue299
  t46:=Tryz.underlying300
  a46:=Tryz.isAgg300
  z46:=Tryz.sizeOf300
  v46:=Tryz.zeroValue300
  t50:=Tryz.underlying249
  a50:=Tryz.isAgg249
  z50:=Tryz.sizeOf249
  v50:=Tryz.zeroValue249
  t53:=Tryz.underlying306
  a53:=Tryz.isAgg306
  z53:=Tryz.sizeOf306
  v53:=Tryz.zeroValue306
  t55:=Tryz.underlying308
  a55:=Tryz.isAgg308
  z55:=Tryz.sizeOf308
  v55:=Tryz.zeroValue308
  t66:=Tryz.underlying349
  a66:=Tryz.isAgg349
  z66:=Tryz.sizeOf349
  v66:=Tryz.zeroValue349
  t70:=Tryz.underlying237
  a70:=Tryz.isAgg237
  z70:=Tryz.sizeOf237
  v70:=Tryz.zeroValue237
  t76:=Tryz.underlying388
  a76:=Tryz.isAgg388
  z76:=Tryz.sizeOf388
  v76:=Tryz.zeroValue388
  t77:=Tryz.underlying389
  a77:=Tryz.isAgg389
  z77:=Tryz.sizeOf389
  v77:=Tryz.zeroValue389 }
end Go.Proofs
namespace Go.Proofs
open Go.Shelf
def Tryz.sortTr_ren:Go.Shelf.Ren:=⟨fun|6=>199|15=>181|14=>278|28=>267|29=>268|20=>321|21=>322|22=>323|23=>324|24=>325|25=>326|26=>327|27=>328|46=>366|47=>309|48=>310|49=>367|50=>368|57=>386|n=>n,fun|22=>169|24=>171|25=>240|3=>3|39=>231|0=>0|53=>306|55=>308|4=>4|46=>300|45=>299|50=>249|5=>5|9=>9|66=>349|70=>237|76=>388|77=>389|n=>n,fun|n=>n⟩
theorem Tryz.sortTr:Go.Proofs.SlLaysF0.n6 Tryz.prog Tryz.sortTr_ren:={
  mixed:=by kernel_rfl
  f6:=⟨Tryz.f199.name,by decide,Tryz.func199.trans (yae_ some zac_)⟩
  f14:=⟨Tryz.f278.name,by decide,Tryz.func278.trans (yae_ some zac_)⟩
  f15:=Tryz.func181.trans (yae_ some zac_)
  f20:=⟨Tryz.f321.name,by decide,Tryz.func321.trans (yae_ some zac_)⟩
  f21:=⟨Tryz.f322.name,by decide,Tryz.func322.trans (yae_ some zac_)⟩
  f22:=⟨Tryz.f323.name,by decide,Tryz.func323.trans (yae_ some zac_)⟩
  f23:=⟨Tryz.f324.name,by decide,Tryz.func324.trans (yae_ some zac_)⟩
  f24:=⟨Tryz.f325.name,by decide,Tryz.func325.trans (yae_ some zac_)⟩
  f25:=⟨Tryz.f326.name,by decide,Tryz.func326.trans (yae_ some zac_)⟩
  f26:=⟨Tryz.f327.name,by decide,Tryz.func327.trans (yae_ some zac_)⟩
  f27:=⟨Tryz.f328.name,by decide,Tryz.func328.trans (yae_ some zac_)⟩
  f28:=Tryz.func267.trans (yae_ some zac_)
  f29:=Tryz.func268.trans (yae_ some zac_)
  f46:=⟨Tryz.f366.name,by decide,Tryz.func366.trans (yae_ some zac_)⟩
  f47:=Tryz.func309.trans (yae_ some zac_)
  f48:=Tryz.func310.trans (yae_ some zac_)
  f49:=⟨Tryz.f367.name,by decide,Tryz.func367.trans (yae_ some zac_)⟩
  f50:=⟨Tryz.f368.name,by decide,Tryz.func368.trans (yae_ some zac_)⟩
  f57:=⟨Tryz.f386.name,by decide,Tryz.func386.trans (yae_ some zac_)⟩
  t0:=Tryz.underlying0
  a0:=Tryz.isAgg0
  z0:=Tryz.sizeOf0
  v0:=Tryz.zeroValue0
  t3:=Tryz.underlying3
  a3:=Tryz.isAgg3
  z3:=Tryz.sizeOf3
  v3:=Tryz.zeroValue3
  t4:=Tryz.underlying4
  a4:=Tryz.isAgg4
  z4:=Tryz.sizeOf4
  v4:=Tryz.zeroValue4
  t5:=Tryz.underlying5
  a5:=Tryz.isAgg5
  z5:=Tryz.sizeOf5
  v5:=Tryz.zeroValue5
  t9:=Tryz.underlying9
  a9:=Tryz.isAgg9
  z9:=Tryz.sizeOf9
  v9:=Tryz.zeroValue9
  t22:=Tryz.underlying169
  a22:=Tryz.isAgg169
  z22:=Tryz.sizeOf169
  v22:=Tryz.zeroValue169
  t25:=Tryz.underlying240
  a25:=Tryz.isAgg240
  z25:=Tryz.sizeOf240
  v25:=Tryz.zeroValue240
  t39:=Tryz.underlying231
  a39:=Tryz.isAgg231
  z39:=Tryz.sizeOf231
  v39:=Tryz.zeroValue231
  t45:=Tryz.underlying299
  a45:=Tryz.isAgg299
  z45:=Tryz.sizeOf299
  v45:=Tryz.zeroValue299
  t46:=Tryz.underlying300
  a46:=Tryz.isAgg300
  z46:=Tryz.sizeOf300
  v46:=Tryz.zeroValue300
  t50:=Tryz.underlying249
  a50:=Tryz.isAgg249
  z50:=Tryz.sizeOf249
  v50:=Tryz.zeroValue249
  t53:=Tryz.underlying306
  a53:=Tryz.isAgg306
  z53:=Tryz.sizeOf306
  v53:=Tryz.zeroValue306
  t55:=Tryz.underlying308
  a55:=Tryz.isAgg308
  z55:=Tryz.sizeOf308
  v55:=Tryz.zeroValue308
  t66:=Tryz.underlying349
  a66:=Tryz.isAgg349
  z66:=Tryz.sizeOf349
  v66:=Tryz.zeroValue349
  t70:=Tryz.underlying237
  a70:=Tryz.isAgg237
  z70:=Tryz.sizeOf237
  v70:=Tryz.zeroValue237
  t76:=Tryz.underlying388
  a76:=Tryz.isAgg388
  z76:=Tryz.sizeOf388
  v76:=Tryz.zeroValue388
  t77:=Tryz.underlying389
  a77:=Tryz.isAgg389
  z77:=Tryz.sizeOf389
  v77:=Tryz.zeroValue389 }
end Go.Proofs
namespace Go.Vs
open Go Go.Sx
def Co_ {α:Type} (l:List α) (i:Nat) (Q:Nat->α->Prop):Prop:=∀ j,j<i->∀ a,l[j]? = some a->Q j a
theorem Co_.done {α:Type} {l:List α} {i:Nat} {Q:Nat->α->Prop} (h:Co_ l i Q) (hi:¬ (i:Int)<(l.length:Int)):∀ j a,l[j]? = some a->Q j a:=λj a d =>
  h j zce_ a d
theorem Co_.all {α:Type} {l:List α} {i:Nat} {Q:α->Prop} (h:Co_ l i λ_ a=>Q a) (hi:¬ (i:Int)<(l.length:Int)):∀ a∈l,Q a:=λa e=>by
  obtain⟨j,d⟩:=ybq_ e;exact h.done hi j a d
end Go.Vs
namespace Go.Sx
open Go
section
variable {K:Type} [DecidableEq K] {kv:K->Value}
structure KeyE (kv:K->Value) (es:Array MapEntry) (q:List K):Prop where
  keys:es.toList.map (·.key)=q.map kv
  nd:q.Nodup
theorem SetE.ke {es:Array MapEntry} {q:List K} (h:SetE kv es q):KeyE kv es q:=⟨h.keys,h.nd⟩
theorem KeyE.ofKey {es:Array MapEntry} {q:List K} (hE:KeyE kv es q) {e:MapEntry} (d:e∈es.toList):∃ k∈q,e.key=kv k:=by
  have:e.key∈es.toList.map (·.key):=yaU_ d;rw[hE.keys]at this;obtain⟨k,hk,h⟩:=yap_.1 this;exact⟨k,hk,h.symm⟩
theorem KeyE.entry {es:Array MapEntry} {q:List K} (hE:KeyE kv es q) (hi:∀ x y,kv x=kv y->x=y) {x e:MapEntry} (F:x∈es.toList) (E:e∈es.toList) (h:x.key=e.key):x=e:=by
 obtain⟨i,v,d⟩:=ycQ_ F;obtain⟨j,A,m⟩:=ycQ_ E
 have B:(es.toList.map (·.key)).Nodup:=by
   rw[hE.keys];unfold List.Nodup;rw[ycu_];exact ydc_ (fun {a b} hab e=>hab (hi _ _ e)) hE.nd
 have C:i=j:=by
   rcases ycM_ i j with g|g|g
   . exact ((yaP_.1 B i j (by simpa using v) zbd_ g) (by simp only[ydm_,d,m,h])).elim
   . exact g
   . exact ((yaP_.1 B j i zbd_ (by simpa using v) g) (by simp only[ydm_,d,m,h])).elim
 subst C;rw[<-d,<-m]
theorem ItS.stepK {es:Array MapEntry} {q:List K} {c:Nat} {m:Array Nat} {done:List K} {e:MapEntry} (hi:∀ x y,kv x=kv y->x=y) (hE:KeyE kv es q) (hB:Born es c) (h:ItS kv es m done) (M:e∈(leftOf es m).toList) :
    ∃ k,k∈q/\k ∉ done/\e.key=kv k/\e∈es.toList/\ItS kv es (m.push e.born) (done++[k]):=by
  unfold leftOf at M;rw[Array.toList_filter,yaX_]at M;obtain⟨E,N⟩:=M;obtain⟨k,hk,v⟩:=hE.ofKey E
  have I:k ∉ done:=λhm=>by
    have:=(h.mem e E).2 ⟨k,hm,v⟩;rw[this]at N;simp at N
  have same:∀ x∈es.toList,x.born=e.born->x=e:=λx J H=>by
    have O:=hB.nd;obtain⟨i,F,B⟩:=ycQ_ J;obtain⟨j,G,C⟩:=ycQ_ E
    have L:i=j:=by
      rcases ycM_ i j with g|g|g
      . exact ((yaP_.1 O i j zbg_ (by simpa using G) g) (by simp only[ydm_,B,C,H])).elim
      . exact g
      . exact ((yaP_.1 O j i (by simpa using G) zbg_ g) (by simp only[ydm_,B,C,H])).elim
    subst L;rw[<-B,<-C]
  refine⟨k,hk,I,v,E,⟨?_,λx J=>?_,λy d=>?_⟩⟩
  . rw[ybf_];exact⟨h.nd,by simp,λa Q b H e=>by simp at H;subst H;subst e;exact I Q⟩
  . rw[Array.contains_push,yby_,h.mem x J,ycB_]
    constructor
    . rintro (⟨y,d,A⟩|P)
      . exact⟨y,by simp[d],A⟩
      . have:=same x J P
        exact⟨k,by simp,this▸v⟩
    . rintro ⟨y,d,A⟩
      rcases yah_.1 d with d|d
      . exact .inl ⟨y,d,A⟩
      . rw[yai_]at d
        subst d;exact .inr (yae_ MapEntry.born (hE.entry hi J E (A.trans v.symm)))
  . rcases yah_.1 d with d|d
    . exact h.sub y d
    . rw[yai_]at d
      subst d;exact⟨e,E,v⟩
theorem ItS.endK {es:Array MapEntry} {q:List K} {d:Array Nat} {done:List K} (hi:∀ x y,kv x=kv y->x=y) (hE:KeyE kv es q) (h:ItS kv es d done) (G:(leftOf es d).size=0):done.Perm q:=by
 refine (List.perm_ext_iff_of_nodup h.nd hE.nd).2 λk=>⟨λhk=>?_,λhk=>?_⟩
 .obtain⟨e,B,v⟩:=h.sub k hk
  obtain⟨F,A,m⟩:=hE.ofKey B;exact hi _ _ (v.symm.trans m)▸A
 have:kv k∈es.toList.map (·.key):=by rw[hE.keys];exact yaU_ hk
 obtain⟨e,B,v⟩:=yap_.1 this
 have C:d.contains e.born=true:=by
   cases hc:d.contains e.born
   . exfalso
     have:e∈(leftOf es d).toList:=by unfold leftOf;rw[Array.toList_filter,yaX_];exact⟨B,by simp only[hc];rfl⟩
     have E:=List.length_pos_of_mem this;simp only[ybH_]at E;omega
   . rfl
 obtain⟨F,A,m⟩:=(h.mem e B).1 C;exact hi _ _ (v.symm.trans m)▸A
end
end Go.Sx
namespace Go.Sx
open Go
section
variable {P:Program} {ops:Array Oper} {Q:Exit->Act->World->Prop}
end
section
variable {n:Nat} {P:Program} {N:Nat} {v0:Vw} {H0:Hp} {R:Exit->Act->World->Prop} {K:List Kt} {fr:Fr} {H:Hp} {Γ:List Fct} {ops:Array Oper}
instance {σ:Type} {Hj:σ->Hp} {ok:σ->Prop} {HL:Hp}:NoPan (uQ_ v0 H0 Hj ok HL):=⟨λ_ _ _ _ _ h=>h⟩
end
end Go.Sx
namespace Go.Vs
open Go Go.Sx
structure Thg where
  kind:Int
  name:Str
deriving DecidableEq
def Thg.cells (t:Thg):List Value:=[.int .i64 t.kind,str t.name]
def Thg.val (t:Thg):Value:=.agg t.cells.toArray
def yH_ (x:Pc):List Thg :=
  if x.kind=1\/x.kind=3\/x.kind=8 then [⟨1,x.a⟩]
  else if x.kind=2 then [⟨1,x.a⟩,⟨1,x.b⟩]
  else if x.kind=4 then [⟨2,x.r⟩,⟨1,x.a⟩]
  else if x.kind=5 then [⟨2,x.r⟩]
  else if x.kind=6 then [⟨2,x.r⟩,⟨2,x.s⟩]
  else if x.kind=9 then [⟨3,x.r⟩] else []
def ut_ (x:Pc):List Thg :=
  if x.kind=1\/x.kind=2\/x.kind=4\/x.kind=9 then [⟨1,x.c⟩]
  else if x.kind=3 then [⟨2,x.r⟩,⟨1,x.c⟩]
  else if x.kind=5\/x.kind=6 then [⟨2,x.t⟩]
  else if x.kind=7 then [⟨2,x.r⟩]
  else if x.kind=8 then [⟨3,x.r⟩] else []
def baseT (S:List Str):List Thg:=[⟨1,[42]⟩,⟨1,[33]⟩]++S.map (λs=>⟨1,s⟩)
def BE_ (K:List Thg):List Thg->List Thg
  | []=>[]
  | t::l=>if t∈K then BE_ K l else t::BE_ (K++[t]) l
section
variable {p:List Pc} {S:List Str} {t:Thg} {us:List Int} {j:Nat} {K W:List Thg} {U:List Bool} {wl:List Int} {i:Nat} {x:Pc} {n:Int}
end
end Go.Vs
namespace Go.Sx
open Go Go.Vs
section
variable {P:Program} {N:Nf} {v0:Vw} {H0:Hp} {R:Exit->Act->World->Prop} {Kk:List Kt} {fr:Fr} {H:Hp} {Γ:List Fct}
variable {ops:Array Oper} {lo:List Oper} {d:Nat} {ty:TypeId} {ps:String} {af:Array Edge}
variable {K:Type} [DecidableEq K] {kv:K->Value}
theorem IntE.at {x:TypeId} {es:Array MapEntry} {ks:List K} {vs:List Int} (y:KeyT P x kv) (h:IntE kv es ks vs) {k:K} {i:Nat} {n:Int} (hi:ks[i]? = some k) (A:vs[i]? = some n):∃ e,es[i]? = some e/\e.key=kv k/\e.val=.int .i64 n/\do_ P x (kv k) es.toList (some (i,.int .i64 n)):=by
  have q:i<es.toList.length:=by
    have:=(yac_.1 hi).1;have e:=yae_ List.length h.keys;simp only[yaF_]at e;omega
  have m:=yaa_ q;have v:=yae_ (λl=>l[i]?) h.vals;simp only[yaH_,m,yaO_,A,yak_]at v;have hk:=yae_ (λl=>l[i]?) h.keys;simp only[yaH_,m,yaO_,hi,yak_]at hk;refine⟨es.toList[i],by rw[<-yaQ_];exact m,hk,v,?_⟩;have:=y.sf k es.toList ks i _ h.keys h.nd hi m;rwa [v]at this
end
end Go.Sx
namespace Go.Vs
open Go Go.Sx
def Thg.eqb (p q:Thg):Bool:=(p.kind==q.kind)&&((p.name==q.name)&&true)
theorem Thg.eqb_eq (p q:Thg):p.eqb q=decide (p=q):=by
  rw[ybx_];cases p;cases q;simp[Thg.eqb]
theorem take_snoc {α:Type} {l:List α} {i:Nat} {x:α} (h:l[i]? = some x):l.take (i+1)=l.take i++[x]:=by
  rw[yaz_,h];rfl
def rchG (p:List Pc) (K:List Thg):List Thg:=(p.filter λx=>decide (∀ u∈yH_ x,u∈K)).flatMap ut_
def rchN (p:List Pc):Nat->List Thg->List Thg
  | 0,K=>K
  | n+1,K=>rchN p n (K++BE_ K (rchG p K))
def rchL (p:List Pc) (S:List Str):List Thg:=rchN p (2*p.length+S.length+3) (BE_ [] (baseT S))
def usbB (p:List Pc) (S:List Str) (x:Pc):Bool:=(yH_ x).all λu=>decide (u∈rchL p S)
end Go.Vs
namespace Go.Proofs.YtbffkokbdeppaaaGreatDoor
open Go Go.Sx Go.Proofs Tryz
attribute [local irreducible] Code.wp wpList wpAnyH
open Go.Vs
theorem vC_:Elt prog 63 3 1 8:=hj_ underlying63 (z:=iv_ 0) zac_ rfl zae_
end Go.Proofs.YtbffkokbdeppaaaGreatDoor
namespace Go.Vs
open Go Go.Sx
abbrev SrS (l:List Str):Prop:=l.Pairwise λx y=>x<y
theorem nN_ (a:Str):¬ a<a:=ybM_ a
theorem vX_ {l:List Str} {s:Str} (e:s≠[]) (d:s ∉ l):xD_ l s=l.take (kS l s)++[s]++l.drop (kS l s):=by
  unfold xD_;rw[yag_ (by rintro (q|q);exact e q;exact d (yad_ q))]
structure Rcd where
  a:List Str
  aad:Ao
  acap:Nat
  r:List Str
  rad:Ao
  rcap:Nat
  f:List Str
  fad:Ao
  fcap:Nat
def PcN (x:Pc):Prop:=(1<=x.kind/\x.kind<=9)/\∀ t∈ut_ x,t.name≠[]
theorem kinds9 {x:Pc} (h:1<=x.kind/\x.kind<=9):x.kind=1\/x.kind=2\/x.kind=3\/x.kind=4\/x.kind=5\/x.kind=6\/x.kind=7\/x.kind=8\/x.kind=9:=by omega
end Go.Vs
namespace Go.Proofs.YtbffkokbdeppaaaGreatDoor
open Go Go.Sx Go.Proofs Tryz
attribute [local irreducible] Code.wp wpList wpAnyH
open Go.Vs
theorem uO_ {p:List Pc} {s:Str} (h:s∈atS p):s≠[]:=by
 rcases (hW_ p s).1 h with h|rfl|rfl
 .obtain⟨x,_,d⟩:=yas_.1 ((fq_ p s).1 h)
  simpa using (yaX_.1 d).2
 .decide
 decide
def kk_ (S:List Str):List Pc:=S.map λs=>⟨1,s,[],[42],[],[],[],0,0,-1⟩
def yj_ (a:Ax):Prop:=a.kind=5\/a.kind=6\/a.kind=7
instance (a:Ax):Decidable (yj_ a):=by unfold yj_;infer_instance
def matB (l:List Ax) (p:List Pc) (S:List Str) (i:Int):Bool:=((l[i.toNat]?).any λa=>decide (yj_ a))||p.any λx=>decide (x.frm=i)&&usbB p S x
def matN (l:List Ax) (p:List Pc) (S:List Str) (n:Nat):List Int:=(iot n).filter λi=>matB l p S i
def Ct_ (l:List Ax) (w:List Int):List Ax:=w.filterMap λi=>l[i.toNat]?
end Go.Proofs.YtbffkokbdeppaaaGreatDoor
namespace Go.Vs
open Go Go.Sx
def orF:List Int->Int
  | []=>0
  | x::l=>if x=0 then orF l else x
theorem yA_:∀ {l:List Int} {i:Nat} {x:Int},(∀ y∈l.take i,y=0)->l[i]? = some x->x≠0->orF l=x
  | [],_,_,_,h,_=>by simp at h
  | y::l,0,x,_,h,hx=>by simp at h;subst h;simp[orF,hx]
  | y::l,i+1,x,h0,h,hx=>by
    have d:y=0:=h0 y zaj_;rw[orF,yao_ d];exact yA_ (i:=i) (λz e=>h0 z zbT_) zaH_ hx
theorem sx_:∀ {l:List Int},(∀ y∈l,y=0)->orF l=0
  | [],_=>rfl
  | y::l,h=>by rw[orF,yao_ (h y zaj_)];exact sx_ λz d=>h z zaS_
theorem cI_neg (x y:Int):Lib.compareInt x y<0↔x<y:=by unfold Lib.compareInt;(repeat' split)<;>omega
theorem rE_ (x y:Int):Lib.compareInt x y=0↔x=y:=by unfold Lib.compareInt;(repeat' split)<;>omega
theorem lM_:∀ (x y:Str),Lib.compareBytes x y<0↔x<y
 | [],[]=>by simp[Lib.compareBytes]
 | [],b::y=>by simp[Lib.compareBytes]
 | a::x,[]=>by simp[Lib.compareBytes]
 | a::x,b::y=>by
   rw[Lib.compareBytes,ycx_]
   by_cases d:a<b
   . rw[yao_ d];simp[d]
   . by_cases h:b<a
     . rw[yag_ d,yao_ h]
       have:a≠b:=λe=>by subst e;exact d h
       simp[d,this]
     . have e:a=b:=UInt8.le_antisymm (UInt8.not_lt.1 h) (UInt8.not_lt.1 d)
       rw[yag_ d,yag_ h,lM_ x y];simp[e]
theorem gK_:∀ (x y:Str),Lib.compareBytes x y=0↔x=y
 | [],[]=>by simp[Lib.compareBytes]
 | [],b::y=>by simp[Lib.compareBytes]
 | a::x,[]=>by simp[Lib.compareBytes]
 | a::x,b::y=>by
   rw[Lib.compareBytes]
   by_cases d:a<b
   . rw[yao_ d]
     have:a≠b:=λe=>by subst e;exact absurd d (UInt8.lt_irrefl a)
     simp[this]
   . by_cases h:b<a
     . rw[yag_ d,yao_ h]
       have:a≠b:=λe=>by subst e;exact d h
       simp[this]
     . have e:a=b:=UInt8.le_antisymm (UInt8.not_lt.1 h) (UInt8.not_lt.1 d)
       rw[yag_ d,yag_ h,gK_ x y];simp[e]
theorem jm_ (x:Int) (l:List Int):orF (x::l)<0↔x<0\/x=0/\orF l<0:=by
  rw[orF];split<;>omega
theorem jP_ (x:Int) (l:List Int):orF (x::l)=0↔x=0/\orF l=0:=by
  rw[orF];split<;>omega
theorem vl_:orF []=0:=rfl
theorem jD_ (x y:Int):Lib.compareInt y x=- Lib.compareInt x y:=by unfold Lib.compareInt;(repeat' split)<;>omega
theorem jC_:∀ (x y:Str),Lib.compareBytes y x=- Lib.compareBytes x y
 | [],[]=>by simp[Lib.compareBytes]
 | [],b::y=>by simp[Lib.compareBytes]
 | a::x,[]=>by simp[Lib.compareBytes]
 | a::x,b::y=>by
   rw[Lib.compareBytes,Lib.compareBytes]
   by_cases d:a<b
   . have e:¬ b<a:=λh=>absurd (UInt8.lt_trans d h) (UInt8.lt_irrefl a)
     rw[yag_ e,yao_ d,yao_ d];rfl
   . by_cases e:b<a
     . rw[yao_ e,yag_ d,yao_ e]
     . rw[yag_ e,yag_ d,yag_ d,yag_ e,jC_ x y]
theorem rD_:∀ (x y:Str),Lib.compareBytes x y=if x<y then -1 else if y<x then 1 else 0
 | [],[]=>by simp[Lib.compareBytes]
 | [],b::y=>by simp[Lib.compareBytes]
 | a::x,[]=>by simp[Lib.compareBytes]
 | a::x,b::y=>by
   rw[Lib.compareBytes]
   by_cases d:a<b
   . have l:a::x<b::y:=by rw[ycx_];exact .inl d
     rw[yao_ d,yao_ l]
   . by_cases h:b<a
     . have l:b::y<a::x:=by rw[ycx_];exact .inl h
       have m:¬ a::x<b::y:=λq=>absurd (ybU_ q l) (ybM_ _)
       rw[yag_ d,yao_ h,yag_ m,yao_ l]
     . have e:a=b:=UInt8.le_antisymm (UInt8.not_lt.1 h) (UInt8.not_lt.1 d)
       subst e;rw[yag_ d,yag_ h,rD_ x y];simp only[ycx_,d,false_or,ydi_]
def Tr3 (x y z:Int):Prop:=(x<=0->y<=0->z<=0/\(z=0->x=0/\y=0))/\(x=0->y=0->z=0)
theorem Tr3.cI (a b c:Int):Tr3 (Lib.compareInt a b) (Lib.compareInt b c) (Lib.compareInt a c):=by
  unfold Tr3 Lib.compareInt;refine⟨?_,?_⟩<;>(repeat' split)<;>omega
theorem Tr3.cS (a b c:Str):Tr3 (Lib.compareBytes a b) (Lib.compareBytes b c) (Lib.compareBytes a c):=by
 have C:=lM_ a b;have v:=gK_ a b;have F:=lM_ b c;have m:=gK_ b c;have y:=lM_ a c;have A:=gK_ a c;constructor
 .intro e d
  by_cases q:Lib.compareBytes a b=0
  .have:=v.1 q;subst this
   refine⟨d,λh=>⟨q,h⟩⟩
  have B:a<b:=C.1 zaa_
  by_cases x:Lib.compareBytes b c=0
  .have:=m.1 x;subst this
   exact⟨e,λh=>⟨h,x⟩⟩
  have E:b<c:=F.1 zaa_;have:=y.2 (ybU_ B E);exact⟨by omega,λh=>by omega⟩
 intro e d;rw[v]at e;rw[m]at d;subst e;subst d;exact A.2 rfl
theorem Tr3.or {x y z e d m:Int} (h:Tr3 x y z) (q:Tr3 e d m):Tr3 (if x=0 then e else x) (if y=0 then d else y) (if z=0 then m else z):=by
  unfold Tr3 at h q ⊢
  (repeat' split)<;>omega
theorem Tr3.nil:Tr3 0 0 0:=by unfold Tr3;omega
theorem Tr3.orF {x y z:Int} {l m n:List Int} (h:Tr3 x y z) (d:Tr3 (Go.Vs.orF l) (Go.Vs.orF m) (Go.Vs.orF n)):Tr3 (Go.Vs.orF (x::l)) (Go.Vs.orF (y::m)) (Go.Vs.orF (z::n)):=by
  rw[Go.Vs.orF,Go.Vs.orF,Go.Vs.orF];exact h.or d
theorem dl_ {x y:Int} {l m:List Int} (h:y=-x) (d:orF m=- orF l):orF (y::m)=- orF (x::l):=by
  rw[orF,orF];(repeat' split)<;>omega
def dL_:List Str->List Str->Int
  | [],[]=>0
  | [],_::_=>-1
  | _::_,[]=>1
  | x::xs,y::ys=>if Lib.compareBytes x y=0 then dL_ xs ys else Lib.compareBytes x y
theorem qu_:∀ a b,dL_ b a=- dL_ a b
  | [],[]=>rfl
  | [],_::_=>rfl
  | _::_,[]=>rfl
  | x::xs,y::ys=>by
    have d:=jC_ x y;have e:=qu_ xs ys;rw[dL_,dL_];(repeat' split)<;>omega
theorem qt_:∀ a b,dL_ a b=0↔a=b
  | [],[]=>by simp[dL_]
  | [],_::_=>by simp[dL_]
  | _::_,[]=>by simp[dL_]
  | x::xs,y::ys=>by
    rw[dL_,ybE_,<-gK_,<-qt_ xs ys]
    split<;>simp_all
theorem Tr3.cL:∀ a b c,Tr3 (dL_ a b) (dL_ b c) (dL_ a c)
  | [],[],[]=>by unfold Tr3 dL_;omega
  | [],[],_::_=>by unfold Tr3;simp[dL_]
  | [],_::_,[]=>by unfold Tr3;simp[dL_]
  | [],_::_,_::_=>by unfold Tr3;simp[dL_]
  | _::_,[],[]=>by unfold Tr3;simp[dL_]
  | _::_,[],_::_=>by unfold Tr3;simp[dL_]
  | _::_,_::_,[]=>by unfold Tr3;simp[dL_]
  | x::xs,y::ys,z::zs=>by
    rw[dL_,dL_,dL_];exact (Tr3.cS x y z).or (Tr3.cL xs ys zs)
namespace Con
def core:Con->Con
  | mk k n l h _ _ ps=>mk k n l h none 0 (cores ps)
where cores:List Con->List Con
  | []=>[]
  | p::ps=>core p::cores ps
theorem cores_map:∀ ps:List Con,core.cores ps=ps.map core
  | []=>rfl
  | p::ps=>by rw[core.cores,cores_map ps];rfl
theorem core_eq (c:Con):c.core=mk c.kind c.name c.lo c.hi none 0 (c.parts.map core):=by cases c;simp only[core,cores_map,kind,name,lo,hi,parts]
def cmp:Con->Con->Int
  | mk k n l h _ _ ps,d=>orF [Lib.compareInt ((1+sz.szs ps:Nat):Int) (d.sz:Int),Lib.compareInt k d.kind,Lib.compareBytes n d.name,Lib.compareInt l d.lo,Lib.compareInt h d.hi,cmps ps d.parts]
where cmps:List Con->List Con->Int
  | [],[]=>0
  | [],_::_=>-1
  | _::_,[]=>1
  | p::ps,q::qs=>if cmp p q=0 then cmps ps qs else cmp p q
theorem cmp_eq (c d:Con):cmp c d=orF [Lib.compareInt (c.sz:Int) (d.sz:Int),Lib.compareInt c.kind d.kind,Lib.compareBytes c.name d.name,Lib.compareInt c.lo d.lo,Lib.compareInt c.hi d.hi,cmp.cmps c.parts d.parts]:=by cases c;rfl
mutual
theorem cmp_anti:∀ c d:Con,cmp d c=- cmp c d
  | mk k n l h a cp ps,mk k' n' l' h' a' cp' ps'=>by
    rw[cmp,cmp];exact dl_ (jD_ _ _) (dl_ (jD_ _ _) (dl_ (jC_ _ _) (dl_ (jD_ _ _) (dl_ (jD_ _ _) (dl_ (qr_ ps ps') rfl)))))
theorem qr_:∀ ps e:List Con,cmp.cmps e ps=- cmp.cmps ps e
  | [],[]=>rfl
  | [],_::_=>rfl
  | _::_,[]=>rfl
  | p::ps,q::e=>by
    have m:=cmp_anti p q;have v:=qr_ ps e;rw[cmp.cmps,cmp.cmps];(repeat' split)<;>omega
end
mutual
theorem cmp_tr:∀ a b c:Con,Tr3 (cmp a b) (cmp b c) (cmp a c)
  | mk k n l h a cp ps,mk k' n' l' h' a' cp' ps',mk k2 n2 l2 h2 a2 cp2 ps2=>by
    rw[cmp,cmp,cmp];exact (Tr3.cI _ _ _).orF ((Tr3.cI _ _ _).orF ((Tr3.cS _ _ _).orF ((Tr3.cI _ _ _).orF ((Tr3.cI _ _ _).orF ((vH_ ps ps' ps2).orF Tr3.nil)))))
theorem vH_:∀ a b c:List Con,Tr3 (cmp.cmps a b) (cmp.cmps b c) (cmp.cmps a c)
  | [],[],[]=>by unfold Tr3;simp[cmp.cmps]
  | [],[],_::_=>by unfold Tr3;simp[cmp.cmps]
  | [],_::_,[]=>by unfold Tr3;simp[cmp.cmps]
  | [],_::_,_::_=>by unfold Tr3;simp[cmp.cmps]
  | _::_,[],[]=>by unfold Tr3;simp[cmp.cmps]
  | _::_,[],_::_=>by unfold Tr3;simp[cmp.cmps]
  | _::_,_::_,[]=>by unfold Tr3;simp[cmp.cmps]
  | x::xs,y::ys,z::zs=>by
    rw[cmp.cmps,cmp.cmps,cmp.cmps];exact (cmp_tr x y z).or (vH_ xs ys zs)
end
mutual
theorem cmp_zero:∀ a b:Con,cmp a b=0↔a.core=b.core
  | mk k n l h a cp ps,mk k' n' l' h' a' cp' ps'=>by
    rw[cmp,core,core];simp only[jP_,vl_];simp only[rE_,gK_,qp_ ps ps',and_true,mk.injEq,kind,name,lo,hi,parts,ydi_];constructor
    . rintro ⟨_,e,v,m,q,d⟩;exact⟨e,v,m,q,d⟩
    . rintro ⟨e,v,m,q,d⟩
      refine⟨?_,e,v,m,q,d⟩;have:=szs_core ps ps' d;simp only[sz];omega
theorem qp_:∀ a b:List Con,cmp.cmps a b=0↔core.cores a=core.cores b
  | [],[]=>by simp[cmp.cmps]
  | [],_::_=>by simp[cmp.cmps,core.cores]
  | _::_,[]=>by simp[cmp.cmps,core.cores]
  | x::xs,y::ys=>by
    rw[cmp.cmps,core.cores,core.cores,ybE_,<-cmp_zero x y,<-qp_ xs ys]
    split<;>simp_all
theorem sz_core:∀ a b:Con,a.core=b.core->a.sz=b.sz
  | mk k n l h a cp ps,mk k' n' l' h' a' cp' ps'=>by
    rw[core,core,mk.injEq];rintro ⟨_,_,_,_,_,_,d⟩;have:=szs_core ps ps' d;simp only[sz];omega
theorem szs_core:∀ a b:List Con,core.cores a=core.cores b->sz.szs a=sz.szs b
  | [],[]=>λ_=>rfl
  | [],_::_=>by simp[core.cores]
  | _::_,[]=>by simp[core.cores]
  | x::xs,y::ys=>by
    rw[core.cores,core.cores,ybE_];rintro ⟨A,e⟩;have:=sz_core x y A;have:=szs_core xs ys e;simp only[sz.szs];omega
end
theorem cmp_self (a:Con):cmp a a=0:=(cmp_zero a a).2 rfl
end Con
def Ax.wgt (x:Ax):Int:=(if x.left.kind=0 then 0 else (x.left.sz:Int))+(if x.right.kind=0 then 0 else (x.right.sz:Int))+(x.roles.length:Int)+(if x.role=[] then 0 else 1)+(if x.a=[] then 0 else 1)+(if x.b=[] then 0 else 1)
def Ax.cmp (x y:Ax):Int:=orF [Lib.compareInt x.wgt y.wgt,Lib.compareInt x.kind y.kind,Con.cmp x.left y.left,Con.cmp x.right y.right,dL_ x.roles y.roles,Lib.compareBytes x.role y.role,Lib.compareBytes x.a y.a,Lib.compareBytes x.b y.b]
theorem Ax.cmp_anti (x y:Ax):cmp y x=- cmp x y :=
  dl_ (jD_ _ _) (dl_ (jD_ _ _) (dl_ (Con.cmp_anti _ _) (dl_ (Con.cmp_anti _ _) (dl_ (qu_ _ _) (dl_ (jC_ _ _) (dl_ (jC_ _ _) (dl_ (jC_ _ _) rfl)))))))
theorem Ax.cmp_tr (x y z:Ax):Tr3 (cmp x y) (cmp y z) (cmp x z) :=
  (Tr3.cI _ _ _).orF ((Tr3.cI _ _ _).orF ((Con.cmp_tr _ _ _).orF ((Con.cmp_tr _ _ _).orF ((Tr3.cL _ _ _).orF ((Tr3.cS _ _ _).orF ((Tr3.cS _ _ _).orF ((Tr3.cS _ _ _).orF Tr3.nil)))))))
def Ax.alk (x y:Ax):Prop:=x.kind=y.kind/\x.left.core=y.left.core/\x.right.core=y.right.core/\x.roles=y.roles/\x.role=y.role/\x.a=y.a/\x.b=y.b
theorem Con.core_kind {a b:Con} (h:a.core=b.core):a.kind=b.kind:=by
  rw[Con.core_eq,Con.core_eq,Con.mk.injEq]at h;exact h.1
theorem Ax.cmp_zero (x y:Ax):cmp x y=0↔x.alk y:=by
 unfold cmp alk;simp only[jP_,vl_];simp only[rE_,gK_,Con.cmp_zero,qt_,and_true];constructor
 .rintro ⟨_,h⟩;exact h
 rintro ⟨B,d,e,q,A,m,v⟩;refine⟨?_,B,d,e,q,A,m,v⟩;unfold wgt;rw[Con.core_kind d,Con.core_kind e,Con.sz_core _ _ d,Con.sz_core _ _ e,q,A,m,v]
theorem Ax.cmp_self (x:Ax):cmp x x=0:=(cmp_zero x x).2 ⟨rfl,rfl,rfl,rfl,rfl,rfl,rfl⟩
theorem Ax.cmp_lt {x y z:Ax} (h:cmp x y<0) (d:cmp y z<0):cmp x z<0:=by
  have:=cmp_tr x y z;unfold Tr3 at this;omega
end Go.Vs
namespace Go.Proofs.YtbffkokbdeppaaaGreatDoor
open Go Go.Sx Go.Proofs Tryz
attribute [local irreducible] Code.wp wpList wpAnyH
open Go.Vs
instance:Inhabited Fc:=⟨⟨0,[],[],[],0,0⟩⟩
theorem dM_ (x y:Int):Fn0 prog 125 #[iv_ x,iv_ y] (iv_ (Lib.compareInt x y)) :=
  bZ_ (callable func125 rfl rfl) λv _ _=>(Tryz.cmp_Compare_int x y v.w).mono zag_
theorem fB_ (x y:Str):Fn0 prog 128 #[str x,str y] (iv_ (Lib.compareBytes x y)) :=
  bZ_ (callable func128 rfl rfl) λv _ _=>(Tryz.strings_Compare ⟨x.toArray⟩ ⟨y.toArray⟩ v.w).mono zag_
def hU_ (x y:Fc):Int:=orF [Lib.compareInt x.kind y.kind,Lib.compareBytes x.a y.a,Lib.compareBytes x.b y.b,Lib.compareBytes x.r y.r,Lib.compareInt x.lo y.lo,Lib.compareInt x.hi y.hi]
theorem tn_ (x y:Fc):hU_ x y<0↔x.lt y:=by
  unfold hU_ Fc.lt;rw[jm_,jm_,jm_,jm_,jm_,jm_];simp only[cI_neg,rE_,lM_,gK_,orF,Int.lt_irrefl,and_false,ybW_]
theorem sy_ (l:List Int) (ad:Ao) (cap:Nat) (hl:l.length<=1000):Tri prog 124 #[.slice ad l.length cap] [] [ac_ ad (l.flatMap fn_)] (λ_:Unit=>iv_ (orF l)) (λ_=>[]) (λ_=>[]):=by
 refine i_ func124 rfl rfl ntmps124 rfl λA=>?_;refine Zz 19 ?_;refine H_ (ι:={y:Nat // y<=l.length/\∀ z∈l.take y,z=0}) (λy=>[(3,iv_ 0),(6,.slice ad l.length cap),(7,iv_ (List.length l:Int)),(8,iv_ y.1)]) (λy=>([])) (λy=>[ac_ ad (l.flatMap fn_)]) (λy=>l.length - y.1) ⟨(0:Nat),by simp,by simp⟩ zl g_ zh ?_;rintro ⟨i,hi,d⟩;dsimp only at hi d ⊢;refine Zi 2 (λq=>?_) λq=>?_
 .refine Zz 13 ?_
  exact ab_ results124 () (bl_ rfl (sx_ λy h=>d y (by rw[yab_ zaa_];exact h)).symm) g_ zt
 obtain⟨m,B,e,x⟩:=zge (show i<l.length by omega);refine Zi 19 (λv=>?_) λv=>?_
 .refine Zz 10 ?_
  exact u_ ⟨i+1,m,λy h=>by rw[yaz_,e]at h;simp only[ybd_,yah_,yai_]at h;rcases h with h|rfl;exact d y h;omega⟩ zab_ zl g_ zh
 refine Zz 10 ?_;exact ab_ results124 () (bl_ rfl (yA_ d e zal_).symm) g_ zt
theorem cmpF_c (x y:Fc):Fn0 prog 151 #[Fc.val x,Fc.val y] (iv_ (hU_ x y)):=by
  refine i_ func151 rfl rfl ntmps151 rfl λe=>?_;refine Zz 2 ?_;refine P_ rfl rfl λh=>P_ rfl rfl λm=>Zz 5 ?_
  refine D_ 9 [0,1,2,3,5,6,7,8,10,11,12,13,15,16,17,18,20,21,22,23,25,26,27,28] zk zs (Zz 25 ?_);refine p_ 4 rfl zk (f_ (dM_ x.kind y.kind) rfl g_ zt rfl λ_=>Zz 3 ?_);refine p_ 9 rfl zk (f_ (fB_ x.a y.a) rfl g_ zt rfl λ_=>Zz 3 ?_);refine p_ 14 rfl zk (f_ (fB_ x.b y.b) rfl g_ zt rfl λ_=>Zz 3 ?_);refine p_ 19 rfl zk (f_ (fB_ x.r y.r) rfl g_ zt rfl λ_=>Zz 3 ?_);refine p_ 24 rfl zk (f_ (dM_ x.lo y.lo) rfl g_ zt rfl λ_=>Zz 3 ?_);refine p_ 29 rfl zk (f_ (dM_ x.hi y.hi) rfl g_ zt rfl λ_=>Zz 3 ?_);refine p_ 30 rfl zk (O_ aZ_ ag_ dD_ rfl rfl rfl rfl rfl rfl λd=>?_);refine bC_ (List.flatMap fn_ [(Lib.compareInt x.kind y.kind),(Lib.compareBytes x.a y.a),(Lib.compareBytes x.b y.b),(Lib.compareBytes x.r y.r),(Lib.compareInt x.lo y.lo),(Lib.compareInt x.hi y.hi)]) d_ rfl ?_;refine Zz 3 ?_;refine p_ 31 rfl zk (f_ (sy_ [(Lib.compareInt x.kind y.kind),(Lib.compareBytes x.a y.a),(Lib.compareBytes x.b y.b),(Lib.compareBytes x.r y.r),(Lib.compareInt x.lo y.lo),(Lib.compareInt x.hi y.hi)] (some ⟨d,0,none⟩) 6 zaj_) rfl g_ zf rfl λ_=>Zz 3 ?_);refine D_ 0 [32] zk zs (Zz 5 ?_);exact ab_ results151 () (bl_ rfl (by rfl)) g_ zt
structure Cl where
  atoms:List Str
  aad:Ao
  acap:Nat
  facts:List Fc
  fad:Ao
  fcap:Nat
def Cl.cells (c:Cl):List Value:=[.slice c.aad c.atoms.length c.acap,.slice c.fad c.facts.length c.fcap]
def Cl.val (c:Cl):Value:=.agg c.cells.toArray
def Cl.row (c:Cl):List Fct:=[ac_ c.aad (c.atoms.flatMap al_),ac_ c.fad (c.facts.flatMap Fc.cells)]
def Cl.no:Cl:=Cl.mk [] none 0 [] none 0
structure Cl.ok (c:Cl):Prop where
  al:c.atoms.length<=c.acap
  am:c.acap<=maxLen
  az:c.aad=none->c.acap=0
  fl:c.facts.length<=c.fcap
  fm:c.fcap<=maxLen
  fz:c.fad=none->c.fcap=0
theorem Cl.no_ok:Cl.no.ok:=⟨yaj_ _,by simp[Cl.no],λ_=>rfl,yaj_ _,by simp[Cl.no],λ_=>rfl⟩
theorem AN_ {s:Str} (h:ct_ s=true):s≠[]:=λe=>by subst e;revert h;decide
theorem wu_ {s:Str} (h:aV_ s=true):s≠[]:=λe=>by subst e;revert h;decide
theorem jf_ {p:Pc} (h:p.valid=true):p.vok:=by
 unfold Pc.valid at h
 split at h
 .simp at h
 rename_i d
 split at h
 .simp at h
 rename_i e
 split at h
 .simp at h
 have v:∀ {b:Bool} {s:Str},bY_ b s ct_=true->b=true->s≠[]:=λd e=>by
   subst e;simp[bY_]at d;exact AN_ d
 have x:∀ {b:Bool} {s:Str},bY_ b s aV_=true->b=true->s≠[]:=λd e=>by
   subst e;simp[bY_]at d;exact wu_ d
 simp only[yaq_]at h;obtain⟨⟨⟨⟨⟨_,_⟩,_⟩,m⟩,A⟩,y⟩:=h;unfold Pc.rok at *;refine⟨⟨λq=>?_,λq=>?_,λq=>?_⟩,λq=>?_⟩
 .rcases q with q|q|q|q|q|q|q<;>rw[q]at m
  .exact v m zae_
  .exact v m zae_
  .exact v m zae_
  .exact x m zae_
  .exact v m zae_
  .exact v m zae_
  exact x m zae_
 .rw[q]at A y;exact⟨v A zae_,v y zae_⟩
 .rw[q]at y;exact v y zae_
 rcases q with q|q<;>rw[q]at e<;>have:(nus 8).numbers=true/\(nus 9).numbers=true:=by decide
 all_goals simp only[this.1,this.2,ydi_]at e;omega
theorem tr_ {p:List Pc} (h:cs_ p=0):p.length<=16384/\p.all Pc.valid=true:=by
 unfold cs_ at h
 split at h
 .simp at h
 split at h
 .exact⟨by omega,by assumption⟩
 simp at h
theorem qv_ {p:List Pc} (h:cs_ p=0):∀ x∈p,x.vok:=λx d=>jf_ (yaW_.1 (tr_ h).2 x d)
section
variable {P:Program} {N:Nf} {v0:Vw} {H0:Hp} {fr:Fr} {H F Ha Hu Ho Hi Hr Hm Hs:Hp} {Γ:List Fct}
theorem bI_ {fn:Func} {t s b n:Nat} {ty T:TypeId} {us:List Value} {u:Value} (i:Nat) (m:fn.results=#[.cell t ty,.tmp s]) (E:∀ w,(isAgg ty).run P w=.ok true w) (x:∀ w,(sizeOf ty).run P w=.ok n w) (B:us.length=n) (A:Fr.get fr t=some (zp_ b 0)) (q:Fr.get fr s=some u)
    (hi:H[i]? = some (b,.cells us.toArray T (0,0))) (a:Act) (v:Vw) (d:Fr.sat N fr a) (h:v.sat H):(results fn a.tmps).run P v.w=.ok (.tuple #[.agg us.toArray,u]) v.w:=by
  have e:=d.val t _ A;have G:=d.val s _ q;have hl:=dI_ (t:=ty) (w:=v.w) (b:=b) (off:=0) E x B (λj y C=>by rw[ybw_,gi_ h hi];simpa using C);simp[results,m,e,G,asAddr,hl]
theorem pf_six (h:H.Perm ((Ha++(Hu++(Ho++(Hi++(Hr++(Hm++Hs))))))++F)):H.Perm (((Ha++(Hu++(Ho++(Hi++(Hr++Hm)))))++Hs)++F):=by simpa [yar_] using h
theorem AW_:(((Ha++(Hu++(Ho++(Hi++(Hr++Hm)))))++Hs)++F).Perm (Ha++(Hu++(Ho++(Hi++(Hr++(Hm++(Hs++F))))))):=by simp[yar_]
theorem AX_ {a b c:Nat×Obj} {d:Hp}:((Ha++(Hu++(Ho++(Hi++(Hr++(Hm++(a::b::([c]++d))))))))++F).Perm (Ha++(Hu++(Ho++(Hi++(Hr++(Hm++(a::b::([c]++(d++F))))))))):=by simp[yar_]
end
theorem hz_:gp_ prog 110 [(0,1),(1,1)] [.slice none 0 0,.slice none 0 0]:=⟨_,iy_,runUnderlying110,λw=>by simp[bP_,cq_]⟩
end Go.Proofs.YtbffkokbdeppaaaGreatDoor
namespace Go.Proofs.YtbffkokbdeppaaaGreatDoor
open Go Go.Sx Go.Proofs Tryz
attribute [local irreducible] Code.wp wpList wpAnyH
open Go.Vs Go.Shelf Go.RowKit
theorem fx_ {v d:Vw} (h:v.to [] d []) (C:¬ v.sl):∃ q os,d.w=Sort.grow (v.w.drewN q) os:=by
 have A:v.w.drawn<=d.w.drawn:=h.dr.resolve_left C;refine⟨d.w.drawn - v.w.drawn,d.w.heap.extract v.w.heap.size d.w.heap.size,?_⟩
 have y:d.w.heap=v.w.heap++d.w.heap.extract v.w.heap.size d.w.heap.size:=by
   apply yco_
   intro i;have G:=h.size;rw[Array.getElem?_append]
   split
   . rename_i hi;exact h.block i hi zaj_
   . rename_i hi
     rw[Array.getElem?_extract]
     split
     . congr 1;omega
     . rw[yda_ zaa_]
 have e:=h.os;have x:=h.tape;have m:=h.output;obtain⟨B,⟨H,I,dn,E,J⟩,F⟩:=d;simp only at e x m y A;simp only[Sort.grow,World.drewN,World.mk.injEq];exact⟨y,x,by omega,e,m⟩
theorem BR_ (d off size:Nat) (w:World):CmpLays prog 151 #[] Fc.cells 6 hU_ d off size w:=λm os B _ x y=>by
  have h:=(cmpF_c x y).run ⟨λ_=>False,sortWorldK Fc.cells 6 w d off m B os,False⟩ ⟨by simp,by simp,λ_ h=>h.elim⟩ trivial;refine h.mono ?_;rintro e w' ⟨_,E,rfl,rfl,_,_,C⟩;obtain⟨q,v,A⟩:=fx_ C (λh=>h);exact⟨rfl,q,v,A⟩
theorem ltF (x y:Fc):ltOf hU_ x y=decide (x.lt y):=by unfold ltOf;rw[ybm_];exact tn_ x y
theorem Au_:Sort.SWO (ltOf hU_) where
 irrefl x:=by rw[ltF];exact yaS_ x.lt_irr
 trans x y z h1 h2:=by rw[ltF,yaI_]at *;exact Fc.lt_trans h1 h2
 ntrans x y z h1 h2:=by
   rw[ltF,yaV_]at *;intro h;rcases Fc.lt_tri x y with g|g|g
   . exact h1 g
   . subst g;exact h2 h
   . exact h2 (Fc.lt_trans g h)
theorem totF (x y:Fc) (d:ltOf hU_ x y=false) (e:ltOf hU_ y x=false):x=y:=by
 rw[ltF,yaV_]at d e;rcases Fc.lt_tri x y with g|g|g
 .exact absurd g d
 .exact g
 exact absurd g e
theorem hO_ (xs:List Fc):Sort.flatK Fc.cells 6 xs.toArray=(xs.flatMap Fc.cells).toArray:=by
 apply yco_
 intro t;have d:(xs.flatMap Fc.cells).toArray[t]? = (xs.flatMap Fc.cells)[t]? := by simp
 rw[d]
 by_cases h:t<xs.length*6
 .have e:t / 6<xs.length:=by omega
  have:=kq_ Fc.cells 6 Fc.cells_len xs (t / 6) (t%6) xs[t / 6] (yaa_ e) (ydA_ _ zae_);rw[show t / 6*6+t%6=t by omega]at this;rw[this];simp only[Sort.flatK,Array.getElem?_map,ybI_];rw[ybR_ zaH_];simp only[Array.getElem_range,yaO_];rw[getElem!_pos xs.toArray (t / 6) zbc_];have hl:t%6<(Fc.cells xs[t / 6]).length:=by rw[Fc.cells_len];omega
  rw[yaa_ hl];simp only[List.getElem_toArray];rw[getElem!_pos (Fc.cells xs[t / 6]) (t%6) hl]
 rw[ybv_ (by rw[cr_ Fc.cells 6 Fc.cells_len];omega),yda_ (by simp[Sort.flatK];omega)]
theorem mC_ {P:Program} {Γ:List Fct} {f:FuncId} {args:Array Value} {r:Value} {g:Nat} {cur:Array Value} {T:TypeId} {d:Array Value} (J:ec_ P f)
    (h:∀ v:Vw,v.sat [(g,.cells cur T (0,0))]->Calls P f args v.w λe w'=>e=.returned r/\∃ n os,w'=Sort.grow (Sort.putRow id (Sort.ahead v.w n) g 0 d) os) :
    Tri P f args [(g,.cells cur T (0,0))] Γ (λ_:Unit=>r) (λ_=>[(g,.cells (Sort.putCells id 0 d cur) T (0,0))]) (λ_=>[]) :=
  ⟨J,λv E _=>(h v E).mono λe w' ⟨I,n,os,x⟩=>by
    have C:=(E.own _ yav_);have B:g<v.w.heap.size:=(yax_.1 C.1).1
    have A:∀ b,b<v.w.heap.size->w'.heap[b]? = if b=g then some (.cells (Sort.putCells id 0 d cur) T (0,0)) else v.w.heap[b]? := λb A=>by
      rw[x];simp only[Sort.grow,Sort.putRow,Sort.mapBlock,Sort.ahead];rw[ybA_ zbd_,ybk_]
      by_cases e:b=g
      . subst e
        simp only[ycn_,C.1,yaO_,Sort.onCells]
      . rw[yag_ (λq=>e q.symm),yag_ e]
    have y:v.w.heap.size<=w'.heap.size:=by rw[x];simp[Sort.grow,Sort.putRow,Sort.mapBlock,Sort.ahead]
    refine⟨(),⟨v.im,w',v.sl⟩,I,rfl,⟨λp G=>?_,by simp,λb m=>ybQ_ (E.lt b m) y⟩,trivial,⟨by rw[x];rfl,by rw[x];rfl,by rw[x];rfl,y,λb m H=>?_,λ_ h=>h,λ_ h=>.inl h,λb hm=>.inl (by simpa using hm),rfl,.inr zbH_⟩⟩
    . simp only[yai_]at G
      subst G;exact⟨by show w'.heap[g]? = _;rw[A g B,yao_ rfl],C.2⟩
    . have F:b≠g:=by simpa using H
      show w'.heap[b]? = _
      rw[A b m,yag_ F]⟩
theorem jj_ {cur:Array Value} {d:List Value} (h:d.length<=cur.size):(Sort.putCells id 0 d.toArray cur).toList.take d.length=d:=by
 apply ybD_
 intro j;rw[yaK_]
 split
 .rename_i e
  simp only[Sort.putCells,yaQ_,Array.getElem?_mapIdx];rw[ybR_ zaa_];simp only[yaO_,ybC_,ydi_,ybw_,ybI_,e,ycn_,ydM_];rw[yaa_ e,getElem!_pos d.toArray j zbc_];rfl
 rename_i e
 rw[ybv_ zaa_]
theorem jk_ {cur d:Array Value}:(Sort.putCells id 0 d cur).size=cur.size:=by simp[Sort.putCells]
theorem rh_ {g:Nat} {cur:Array Value} {T:TypeId} {xs:List Value} {v:Vw} (m:v.sat [(g,.cells cur T (0,0))]) (h:cur.toList.take xs.length=xs):Sort.Holds id v.w g 0 xs.toArray:=by
 intro j d;have e:=(m.own _ yav_).1;simp only[ybI_]at d
 have q:cur[j]? = some xs[j]:=by
   have:=yae_ (λl=>l[j]?) h;simp only[yaK_,d,ycn_,yaQ_]at this;rw[this,yaa_ d]
 refine⟨?_,?_⟩
 .simp only[World.cell?,ybw_,e,ycZ_,ybn_,yce_]
  rw[q,getElem!_pos xs.toArray j zbA_];rfl
 simp[World.frozen?,e]
def eU_ (xs:List Fc):List Fc:=xs.mergeSort λx y=>!(ltOf hU_) y x
theorem dH_ (xs:List Fc):(eU_ xs).length=xs.length:=yaR_ _
theorem sh_ (xs:List Fc) (x:Fc):x∈eU_ xs↔x∈xs:=ybc_
theorem xT_ {xs:List Fc} (h:xs.Nodup):Srt (eU_ xs):=by
 have e:(eU_ xs).Pairwise λx y=>(!(ltOf hU_) y x)=true:=ycY_
   (λa b c e d=>by simp only[ybp_]at *;exact Au_.ntrans c b a d e)
   (λa b=>by
     simp only[yby_,ybp_];rw[ltF,ltF,yaV_,yaV_];rcases Fc.lt_tri a b with g|g|g
     . exact .inl λq=>Fc.lt_irr a (Fc.lt_trans g q)
     . subst g;exact .inl a.lt_irr
     . exact .inr λq=>Fc.lt_irr a (Fc.lt_trans q g)) xs
 have d:(eU_ xs).Nodup:=(ycE_ xs _).nodup_iff.2 h;refine (e.and d).imp ?_;rintro x y ⟨a,b⟩;simp only[ybp_,ltF,yaV_]at a;rcases Fc.lt_tri x y with g|g|g
 .exact g
 .exact absurd g b
 exact absurd g a
theorem AG_ {sv:Value} {xs:List Fc} {Hr:Hp} (h:at_ 104 6 sv xs.length (xs.flatMap Fc.cells) Hr) (hl:xs.length<=1000000000000) :
    Tri prog 150 #[sv,.func (.func 151) #[] #[]] Hr [] (λ_:{y:Hp // at_ 104 6 sv (eU_ xs).length ((eU_ xs).flatMap Fc.cells) y}=>.tuple #[]) (λy=>y.1) (λ_=>[]):=by
  rcases h.2 with⟨rfl,K,rfl⟩|⟨g,cap,cur,rfl,rfl,G,J,E,L⟩
  . obtain rfl:xs=[]:=yau_ K
    have T:=bZ_ (P:=prog) (H:=[]) (Γ:=[]) (callable func150 rfl rfl) (λv _ _=>(AnyF.slices_SortFunc_none Tryz.sortFc none 0 (.func (.func 151) #[] #[]) v.w).mono zag_);exact⟨T.callable,λv a b=>(T.run v a b).mono zbi_⟩
  . have Q:(xs.flatMap Fc.cells).length=xs.length*6:=cr_ Fc.cells 6 Fc.cells_len xs
    have T:=mC_ (P:=prog) (Γ:=[]) (r:=.tuple #[]) (g:=g) (cur:=cur) (T:=104) (d:=((eU_ xs).flatMap Fc.cells).toArray) (f:=150) (args:=#[.slice (some ⟨g,0,none⟩) xs.length cap,.func (.func 151) #[] #[]]) (callable func150 rfl rfl) (λv M=>by
      have N:=AnyQ.slices_SortFunc_total Tryz.sortFc 6 bv_ y_ Fc.cells Fc.cells_len (λx u O=>yaW_.1 x.cells_one u O) hU_ Au_ 151 #[] g 0 cap xs.toArray v.w (λargs w=>(callable func151 rfl rfl) args w) (BR_ g 0 _ v.w) zbO_ (yax_.1 (M.own _ yav_).1).1 zan_ totF;refine N.mono ?_;rintro e w' ⟨rfl,n,os,rfl⟩;refine⟨rfl,n,os,?_⟩;unfold sortWorldK Sort.putRowK;rw[show ((xs.toArray.toList.mergeSort λx y=>!(ltOf hU_) y x))=eU_ xs from rfl,hO_])
    refine⟨T.callable,λv a b=>(T.run v a b).mono ?_⟩;rintro e w' ⟨x,F,m,q,B,A,C⟩;have I:((eU_ xs).flatMap Fc.cells).length=xs.length*6:=by rw[cr_ Fc.cells 6 Fc.cells_len,dH_]
    refine⟨⟨_,by rw[I,dH_],.inr ⟨g,cap,_,by rw[dH_],rfl,by rw[dH_];exact G,J,by rw[jk_];exact E,?_⟩⟩,F,m,q,B,A,C⟩;have:=jj_ (cur:=cur) (d:=(eU_ xs).flatMap Fc.cells) (by rw[I,E];omega);rw[I]at this;rw[dH_];exact this
end Go.Proofs.YtbffkokbdeppaaaGreatDoor
namespace Go.Proofs.YtbffkokbdeppaaaGreatDoor
open Go Go.Sx Go.Proofs Tryz
attribute [local irreducible] Code.wp wpList wpAnyH
open Go.Vs Go.Shelf Go.RowKit
theorem jv_ {D:Type} [Inhabited D] {cells:D->List Value} {k:Nat} (hk:∀ x,(cells x).length=k) (d:0<k) (xs:List D):Sort.flatK cells k xs.toArray=(xs.flatMap cells).toArray:=by
 apply yco_
 intro t;have e:(xs.flatMap cells).toArray[t]? = (xs.flatMap cells)[t]? := by simp
 rw[e]
 by_cases m:t<xs.length*k
 .have h:t / k<xs.length:=(Nat.div_lt_iff_lt_mul d).2 m
  have:=kq_ cells k hk xs (t / k) (t%k) xs[t / k] (yaa_ h) (ydA_ _ d);rw[Nat.div_add_mod' t k]at this;rw[this];simp only[Sort.flatK,Array.getElem?_map,ybI_];rw[ybR_ zaA_];simp only[Array.getElem_range,yaO_];rw[getElem!_pos xs.toArray (t / k) zaH_];have hl:t%k<(cells xs[t / k]).length:=by rw[hk];exact ydA_ _ d
  rw[yaa_ hl];simp only[List.getElem_toArray];rw[getElem!_pos (cells xs[t / k]) (t%k) hl]
 rw[ybv_ (by rw[cr_ cells k hk];omega),yda_ (by simp[Sort.flatK];omega)]
theorem mD_ {P:Program} {Γ:List Fct} {f:FuncId} {args:Array Value} {r:Value} {g:Nat} {cur:Array Value} {T:TypeId} {ι:Type} {d:ι->Array Value} (K:ec_ P f)
    (h:∀ v:Vw,v.sat [(g,.cells cur T (0,0))]->af_ Γ v->Calls P f args v.w λe w'=>e=.returned r/\∃ (i:ι) (n:Nat) (os:Array Obj),w'=Sort.grow (Sort.putRow id (Sort.ahead v.w n) g 0 (d i)) os) :
    Tri P f args [(g,.cells cur T (0,0))] Γ (λ_:ι=>r) (λi=>[(g,.cells (Sort.putCells id 0 (d i) cur) T (0,0))]) (λ_=>[]) :=
  ⟨K,λv E H=>(h v E H).mono λe w' ⟨J,i,n,os,x⟩=>by
    have C:=(E.own _ yav_);have B:g<v.w.heap.size:=(yax_.1 C.1).1
    have A:∀ b,b<v.w.heap.size->w'.heap[b]? = if b=g then some (.cells (Sort.putCells id 0 (d i) cur) T (0,0)) else v.w.heap[b]? := λb A=>by
      rw[x];simp only[Sort.grow,Sort.putRow,Sort.mapBlock,Sort.ahead];rw[ybA_ zbd_,ybk_]
      by_cases e:b=g
      . subst e
        simp only[ycn_,C.1,yaO_,Sort.onCells]
      . rw[yag_ (λq=>e q.symm),yag_ e]
    have y:v.w.heap.size<=w'.heap.size:=by rw[x];simp[Sort.grow,Sort.putRow,Sort.mapBlock,Sort.ahead]
    refine⟨i,⟨v.im,w',v.sl⟩,J,rfl,⟨λp G=>?_,by simp,λb m=>ybQ_ (E.lt b m) y⟩,trivial,⟨by rw[x];rfl,by rw[x];rfl,by rw[x];rfl,y,λb m I=>?_,λ_ h=>h,λ_ h=>.inl h,λb hm=>.inl (by simpa using hm),rfl,.inr zbH_⟩⟩
    . simp only[yai_]at G
      subst G;exact⟨by show w'.heap[g]? = _;rw[A g B,yao_ rfl],C.2⟩
    . have F:b≠g:=by simpa using I
      show w'.heap[b]? = _
      rw[A b m,yag_ F]⟩
structure Wko {D:Type} (cf:D->D->Int):Prop where
  irr:∀ x,¬ cf x x<0
  tr:∀ x y z,cf x y<0->cf y z<0->cf x z<0
  ntr:∀ x y z,¬ cf x y<0->¬ cf y z<0->¬ cf x z<0
theorem sortG {P:Program} {ρ:Ren} (L:SlLaysF0.n6 P ρ) {D:Type} {cells:D->List Value} {k:Nat} {Te:TypeId} (hk:∀ x,(cells x).length=k) (Y:0<k) (Z:∀ x,(cells x).all Value.oneCell'=true)
    (aE:∀ w,(isAgg (ρ.t 24)).run P w=.ok true w) (zE:∀ w,(Go.sizeOf (ρ.t 24)).run P w=.ok k w) {cf:D->D->Int} (hO:Wko cf) {g:Nat} (hg:ec_ P g) (hF:ec_ P (ρ.f 6))
    {Γ:List Fct} (hΓ:∀ (v:Vw) (q:Prop),af_ Γ v->af_ Γ ⟨v.im,v.w,q⟩) {sv:Value} {xs:List D} {Hr:Hp} (h:at_ Te k sv xs.length (xs.flatMap cells) Hr) (hl:xs.length<=1000000000000)
    (hC:∀ x∈xs,∀ y∈xs,Tri P g #[.agg (cells x).toArray,.agg (cells y).toArray] [] Γ (λ_:Unit=>iv_ (cf x y)) (λ_=>[]) (λ_=>[])) :
    Tri P (ρ.f 6) #[sv,.func (.func g) #[] #[]] Hr Γ (λ_:{y:Hp×List D // at_ Te k sv y.2.length (y.2.flatMap cells) y.1/\y.2.Perm xs/\y.2.Pairwise λa b=>¬ cf b a<0}=>.tuple #[]) (λy=>y.1.1) (λ_=>[]):=by
  by_cases C:xs=[]
  . subst C
    rcases h.2 with⟨rfl,G,rfl⟩|⟨b,cap,cur,rfl,rfl,N,a0,R,h_5⟩
    . have T:=bZ_ (P:=P) (H:=[]) (Γ:=Γ) hF (λv _ _=>(AnyF.slices_SortFunc_none { L with } none 0 (.func (.func g) #[] #[]) v.w).mono zag_)
      exact⟨T.callable,λv a b=>(T.run v a b).mono (by rintro e w' ⟨x,V,A,E,K,J,M⟩;exact⟨⟨([],[]),at_.nil _ _,.refl _,List.Pairwise.nil⟩,V,A,E,K,J,M⟩)⟩
    . have T:=bZ_ (P:=P) (H:=[(b,.cells cur Te (0,0))]) (Γ:=Γ) hF (λv _ _=>(AnyF.slices_SortFunc_none { L with } (some ⟨b,0,none⟩) cap (.func (.func g) #[] #[]) v.w).mono zag_)
      exact⟨T.callable,λv a c=>(T.run v a c).mono (by rintro e w' ⟨x,V,A,E,K,J,M⟩;exact⟨⟨([(b,.cells cur Te (0,0))],[]),h,.refl _,List.Pairwise.nil⟩,V,A,E,K,J,M⟩)⟩
  . rcases h.2 with⟨_,G,_⟩|⟨b,cap,cur,rfl,rfl,N,a0,R,h_5⟩
    . exact absurd (yau_ G) C
    . obtain⟨x_1,C⟩:=List.exists_mem_of_ne_nil _ C
      haveI:Inhabited {x // x∈xs}:=⟨⟨x_1,C⟩⟩
      have hx:(xs.flatMap cells).length=xs.length*k:=cr_ cells k hk xs;have hf:∀ l:List {x // x∈xs},(l.flatMap λz=>cells z.1)=(l.map Subtype.val).flatMap cells:=λl=>by rw[ydD_]
      have X:(xs.attach.map Subtype.val)=xs:=ydt_ xs
      have T:=mD_ (P:=P) (Γ:=Γ) (r:=.tuple #[]) (g:=b) (cur:=cur) (T:=Te) (ι:={d:Array {x // x∈xs} // d.size=xs.length/\d.toList.Perm xs.attach/\d.toList.Pairwise λa b=>¬ cf b.1 a.1<0}) (d:=λd=>((d.1.toList.map Subtype.val).flatMap cells).toArray) (f:=ρ.f 6) (args:=#[.slice (some ⟨b,0,none⟩) xs.length cap,.func (.func g) #[] #[]]) hF (λv hs hv=>by
        have hh:=AnyQ.slices_SortFunc L k aE zE (λz:{x // x∈xs}=>cells z.1) (λz=>hk z.1) (λx u hu=>yaW_.1 (Z x.1) u hu) (λa b=>cf a.1 b.1)
          ⟨λx=>yaS_ (hO.irr x.1),λx y z Z G=>yaC_ (hO.tr _ _ _ (yaZ_ Z) (yaZ_ G)),λx y z Z G=>yaS_ (hO.ntr _ _ _ (ycf_ Z) (ycf_ G))⟩
          g #[] b 0 cap xs.attach.toArray v.w (λargs w=>hg args w) ?_ (by unfold Sort.HoldsK;rw[jv_ (cells:=λz:{x // x∈xs}=>cells z.1) (λz=>hk z.1) Y,hf,X];exact rh_ hs (by rw[hx];exact h_5)) (yax_.1 (hs.own _ yav_).1).1 zan_
        . have A:xs.attach.toArray.size=xs.length:=by simp
          rw[A]at hh;refine hh.mono ?_;rintro e w' ⟨rfl,F,n,os,hp,W,rfl⟩;have I:F.size=xs.length:=by have:=hp.1;rwa [A]at this
          refine⟨rfl,⟨F,I,?_,?_⟩,n,os,?_⟩
          . have:=hp.2.2
            rw[<-I,ycT_,I]at this
            have E:xs.attach.toArray.extract 0 xs.length=xs.attach.toArray:=by
              have q:=ycT_ (xs:=xs.attach.toArray);rwa [A]at q
            rw[E]at this;exact this
          . rw[yaP_]
            intro i j hi hj hij;have hj':j<F.size:=by simpa using hj
            have:=W i j (ybC_ _) hij zaa_;rw[getElem!_pos F j hj',getElem!_pos F i zaa_]at this;have:=ycf_ this;simpa using this
          . unfold sortWorldK Sort.putRowK
            have Q:=jv_ (cells:=λz:{x // x∈xs}=>cells z.1) (λz=>hk z.1) Y F.toList;rw[hf]at Q;rw[show F.toList.toArray=F by simp]at Q;rw[Q]
        . intro m os dk _ x y
          have hgb:=hs.own _ yav_
          have S:∀ c,c<v.w.heap.size->c≠b->(sortWorldK (λz:{x // x∈xs}=>cells z.1) k v.w b 0 m dk os).heap[c]? = v.w.heap[c]? := λc U hn=>by
            unfold sortWorldK Sort.putRowK;simp only[Sort.grow,Sort.putRow,Sort.mapBlock,Sort.ahead];rw[ybA_ (by simpa using U),ybk_,yag_ (λq=>hn q.symm)]
          have O:v.w.heap.size<=(sortWorldK (λz:{x // x∈xs}=>cells z.1) k v.w b 0 m dk os).heap.size:=by unfold sortWorldK Sort.putRowK;simp[Sort.grow,Sort.putRow,Sort.mapBlock,Sort.ahead]
          have hq:=(hC x.1 x.2 y.1 y.2).run ⟨v.im,sortWorldK (λz:{x // x∈xs}=>cells z.1) k v.w b 0 m dk os,False⟩ ⟨by simp,by simp,λc U=>ybQ_ (hs.lt c U) O⟩
            (av_ (v:=⟨v.im,v.w,False⟩) ⟨λ_ q=>q,λc U=>S c (hs.lt c U) (λe=>hgb.2 (e▸U)),rfl⟩ (hΓ v False hv))
          refine hq.mono ?_;rintro e w' ⟨_,V,rfl,rfl,_,_,ht⟩;obtain⟨q,os',hw⟩:=fx_ ht (λh=>h);exact⟨rfl,q,os',hw⟩)
      refine⟨T.callable,λv a b=>(T.run v a b).mono ?_⟩;rintro e w' ⟨⟨F,I,hp,hpw⟩,V,A,E,K,J,M⟩;have B:(F.toList.map Subtype.val).length=xs.length:=by simp[I]
      have hy:((F.toList.map Subtype.val).flatMap cells).length=xs.length*k:=by rw[cr_ cells k hk,B]
      refine⟨⟨(_,F.toList.map Subtype.val),⟨by rw[hy,B],.inr ⟨_,cap,_,by rw[B],rfl,by rw[B];exact N,a0,by rw[jk_];exact R,?_⟩⟩,?_,?_⟩,V,A,E,K,J,M⟩
      . have:=jj_ (cur:=cur) (d:=(F.toList.map Subtype.val).flatMap cells) (by rw[hy,R];exact ybr_ k N)
        rw[hy]at this;dsimp only;rw[B];exact this
      . have:=hp.map Subtype.val
        rwa [X]at this
      . rw[ycu_];exact hpw
end Go.Proofs.YtbffkokbdeppaaaGreatDoor
