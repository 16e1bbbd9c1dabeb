/-
  Lemmas for the law TopChanges (no condition).
-/
import Derived.Test.YtfjcabalehamcaaGreatDoorQTopChanges9
import Derived.Shelf.SlSortCmp.NoneTotal
import Derived.Test.YtfjcabalehamcaaGreatDoorProg
set_option linter.unusedVariables false
set_option linter.unusedSimpArgs false
set_option linter.unusedSectionVars false
set_option maxHeartbeats 1000000
namespace Go.Proofs.YtfjcabalehamcaaGreatDoor
open Go Go.Sx Go.Proofs Tryz
attribute [local irreducible] Code.wp wpList wpAnyH
open Go.Vs
theorem lK_ (x:Pc) (d at':Str) (pm:List (Ky×Pc)) (E F:Nat) (g pb kb ab ub ob ib rb sb fb:Nat) (ev:Value) (lv:Value) (S:Hp) (hm:cs_ Ky.val Pc.cells 32 10 pm pb S) (G:pm.length<=1000000000):Tri prog 121 #[str d,str at',zp_ E 0,zp_ F 0] ((E,.cells #[i4_ x.kind,str x.a,str x.b,str x.c,str x.r,str x.s,str x.t,i4_ x.lo,i4_ x.hi,i4_ x.frm] 32 (0,0))::(F,.cells #[zp_ g 0] 84 (0,0))::(g,.cells #[.map (some pb),lv,.map (some kb),ev,.map (some ab),.map (some ub),.map (some ob),.map (some ib),.map (some rb),.map (some sb),.map (some fb)] 94 (0,0))::S) [] (λ_:{H:Hp // cs_ Ky.val Pc.cells 32 10 (pm++[((Ky.mk x.kind d at'),x)]) pb H}=>.tuple #[]) (λy=>(E,.cells #[i4_ x.kind,str x.a,str x.b,str x.c,str x.r,str x.s,str x.t,i4_ x.lo,i4_ x.hi,i4_ x.frm] 32 (0,0))::(F,.cells #[zp_ g 0] 84 (0,0))::(g,.cells #[.map (some pb),lv,.map (some kb),ev,.map (some ab),.map (some ub),.map (some ob),.map (some ib),.map (some rb),.map (some sb),.map (some fb)] 94 (0,0))::y.1) (λ_=>[]):=by
  refine g_ func121 rfl rfl ntmps121 rfl λW=>?_;refine Zz 6 ?_;refine e_ (w_ et_ rfl rfl) rfl (u_ zeroValue195 rfl λK=>n_ 0 sizeOf195 rfl rfl rfl rfl rfl rfl (Zz 2 ?_));refine V_ ((K,.cells #[i4_ x.kind,str d,str at'] 195 (0,0))::((E,.cells #[i4_ x.kind,str x.a,str x.b,str x.c,str x.r,str x.s,str x.t,i4_ x.lo,i4_ x.hi,i4_ x.frm] 32 (0,0))::((F,.cells #[zp_ g 0] 84 (0,0))::((g,.cells #[.map (some pb),lv,.map (some kb),ev,.map (some ab),.map (some ub),.map (some ob),.map (some ib),.map (some rb),.map (some sb),.map (some fb)] 94 (0,0))::[])))) zk ?_;refine s_ 6 [0,1,2,3,4,5] zk zs (Zz 7 ?_);refine l_ 6 rfl zk (M_ z_ A_ O_ rfl rfl rfl rfl rfl rfl λV=>Zz 2 ?_);refine H_ zs (l_ 7 rfl zk ?_);have J:=ybv_ (eB_ pm (Ky.mk x.kind d at')) G;refine eT_ (k:=(Ky.mk x.kind d at')) hM_ hm bI_ bu_ rfl rfl (c_ (c_ (c_ (c_ E_)))) rfl λL P M R U N Q B m=>Zz 2 ?_
  refine H_ (λ_ a b=>⟨Vw.sat.sub (a.perm (m_ (c_ (j_ (j_ (c_ d_)))) (m_ (c_ (j_ (j_ (c_ d_)))) (m_ (c_ (j_ (j_ (c_ d_)))) (c_ (j_ (j_ (c_ d_)))))))),b⟩) (s_ 2 [8,10] zk (λ_ a b=>⟨Vw.sat.sub (a.perm (m_ (c_ (j_ (j_ (c_ d_)))) (m_ (c_ (j_ (j_ (c_ d_)))) (m_ (c_ (j_ (j_ (c_ d_)))) (c_ (j_ (j_ (c_ d_)))))))),b⟩) (Zz 3 ?_));refine l_ 9 rfl zk (am_ (news:=List.flatMap Pc.cells [x]) iA_ m rfl rfl zp rfl (eR_ zp) (λu X=>aG_ Pc.cells_one X) zaj_ zaa_ rfl λO T C=>?_);have A:=zsa C;refine Zz 2 ?_;refine H_ (λ_ a b=>⟨Vw.sat.sub (a.perm (m_ (j_ (c_ (j_ (c_ d_)))) (m_ (j_ (c_ (j_ (c_ d_)))) (m_ (j_ (c_ (j_ (c_ d_)))) (j_ (c_ (j_ (c_ d_)))))))),b⟩) (l_ 11 rfl zk (cH_ (k:=(Ky.mk x.kind d at')) (dd:=x) B (by rw[ec_];exact A) rfl rfl rfl (eb_ (m_ (j_ d_) (G_ x_ x_))) λI v=>?_));refine Zz 2 ?_;refine H_ zs (Zz 2 ?_);exact bK_ results121 ⟨I,v⟩ rfl zp zt
theorem hY_ {G:Prop} (h:G:=by
 have A:lps=lps++ap_ [x]:=by simp[ap_, *]
 exact bK_ results62 ⟨(lv,m,I),v▸d,A▸hl⟩ rfl zp zt):G:=h
theorem hZ_ {G:Prop} (h:G:=by
 have A:lps=lps++ap_ [x]:=by simp[ap_, *]
 exact bK_ results62 ⟨(lv,F,I),v▸G,A▸hl⟩ rfl zp zt):G:=h
theorem lt_ {G:Prop} (h:G:=by
 refine T_ (lK_ x x.r [] pm B C g pb kb ab ub ob ib rb sb fb ev lv H hm zap_) rfl rfl zp zt rfl λ⟨m,d⟩=>?_;dsimp only;simp only[yav_];refine Zz 2 ?_;have v:(pm++[((Ky.mk x.kind x.r []),x)])=pm++cJ_ x:=by simp[cJ_, *]
 exact hY_):G:=h
theorem lu_ {G:Prop} (h:G:=by
 refine Zz 2 ?_;refine H_ zs (s_ 1 [9,10] zk zs (Zz 3 ?_));refine l_ 11 rfl zk (t_ (X_ (j_ d_) (X_ (j_ d_) (X_ (j_ d_) (be_ (j_ d_))))) (dm_ 3 E ft_ rfl rfl rfl rfl (Zz 2 ?_)));refine H_ (λ_ a b=>⟨Vw.sat.sub (a.perm (m_ (c_ d_) (c_ d_))),b⟩) (Zz 2 ?_);have v:pm=pm++cJ_ x:=by simp[cJ_, *]
 have A:(lps++[x.r])=lps++ap_ [x]:=by simp[ap_, *]
 exact bK_ results62 ⟨(K,H,M),v▸hm,A▸E⟩ rfl (m_ (c_ (c_ (c_ d_))) (G_ (c_ (c_ (c_ bg_))) (c_ (c_ E_)))) zt):G:=h
theorem ia_ {G:Prop} (h:G:=by
 refine T_ (lK_ x [] x.a pm B C g pb kb ab ub ob ib rb sb fb ev lv H hm zap_) rfl rfl zp zt rfl λ⟨m,d⟩=>?_;dsimp only;simp only[yav_];refine Zz 2 ?_;have v:(pm++[((Ky.mk x.kind [] x.a),x)])=pm++cJ_ x:=by simp[cJ_, *]
 exact hY_):G:=h
theorem vN_ (x:Pc) (pm:List (Ky×Pc)) (lps:List Str) (g pb kb ab ub ob ib rb sb fb:Nat) (ev:Value) (lv:Value) (H I:Hp) (hm:cs_ Ky.val Pc.cells 32 10 pm pb H) (hl:zR 9 1 ar_ lv lps I) (X:pm.length<=900000000) (W:lps.length<=900000000):Tri prog 62 #[zp_ g 0,Pc.val x] ((g,.cells #[.map (some pb),lv,.map (some kb),ev,.map (some ab),.map (some ub),.map (some ob),.map (some ib),.map (some rb),.map (some sb),.map (some fb)] 94 (0,0))::(H++I)) [] (λ_:{y:Value×Hp×Hp // cs_ Ky.val Pc.cells 32 10 (pm++cJ_ x) pb y.2.1/\zR 9 1 ar_ y.1 (lps++ap_ [x]) y.2.2}=>.tuple #[]) (λy=>(g,.cells #[.map (some pb),y.1.1,.map (some kb),ev,.map (some ab),.map (some ub),.map (some ob),.map (some ib),.map (some rb),.map (some sb),.map (some fb)] 94 (0,0))::(y.1.2.1++y.1.2.2)) (λ_=>[]):=by
 refine g_ func62 rfl rfl ntmps62 rfl λY=>?_;refine Zz 2 ?_;refine F_ rfl rfl λC=>F_ rfl rfl λB=>Zz 4 ?_
 refine e_ (aR_ rfl rfl) rfl (Zi 13 (λN=>?_) λN=>?_)
 .refine Zi 6 (λL=>?_) λL=>?_
  .refine Zi 5 (λS=>?_) λS=>?_
   .refine Zi 6 (λQ=>?_) λQ=>?_
    .refine Zi 6 (λJ=>?_) λJ=>?_
     .refine Zi 7 (λT=>?_) λT=>?_
      .refine Zi 5 (λR=>?_) λR=>?_
       .refine Zi 6 (λP=>?_) λP=>?_
        .refine Zi 6 (λO=>?_) λO=>?_
         .refine Zz 6 ?_
          have v:pm=pm++cJ_ x:=by simp[cJ_, *]
          have A:lps=lps++ap_ [x]:=by simp[ap_, *]
          exact bK_ results62 ⟨(lv,H,I),v▸hm,A▸hl⟩ rfl zp zt
         refine Zz 4 ?_;refine V_ ((B,.cells #[i4_ x.kind,str x.a,str x.b,str x.c,str x.r,str x.s,str x.t,i4_ x.lo,i4_ x.hi,i4_ x.frm] 32 (0,0))::((C,.cells #[zp_ g 0] 84 (0,0))::[])) zk ?_;refine s_ 6 [0,1,2,3,5,6] zk zs (Zz 7 ?_);refine do_ 4 7 rfl rfl zk ?_ ?_
         .refine Zz 3 ?_
          refine H_ zs (l_ 7 rfl zk (M_ B_ U_ at_ rfl rfl rfl rfl rfl rfl λV=>Zz 2 ?_));refine H_ zs (l_ 8 rfl zk (am_ (news:=List.flatMap ar_ [x.r]) eC_ hl rfl rfl zp rfl (ba_ 0 rfl) (λu U=>aG_ dE_ U) zaB_ zap_ rfl λK M N=>?_));have E:=zsa N;exact lu_
         refine M_ B_ U_ at_ rfl rfl rfl rfl rfl rfl λV=>Zz 2 ?_
         refine H_ zs (l_ 4 rfl zk (Zz 3 ?_));refine H_ zs (l_ 8 rfl zk (am_ (news:=List.flatMap ar_ [x.r]) eC_ hl rfl rfl zp rfl (ba_ 0 rfl) (λu U=>aG_ dE_ U) zaB_ zap_ rfl λK M L=>?_));have E:=zsa L;exact lu_
        refine Zz 9 ?_;refine T_ (lK_ x x.r [] pm B C g pb kb ab ub ob ib rb sb fb ev lv H hm zap_) rfl rfl zp zt rfl λ⟨m,d⟩=>?_;dsimp only;simp only[yav_];refine Zz 6 ?_;refine T_ (lK_ x [] x.s (pm++[((Ky.mk x.kind x.r []),x)]) B C g pb kb ab ub ob ib rb sb fb ev lv m d zap_) rfl rfl zp zt rfl λ⟨F,G⟩=>?_;dsimp only;simp only[yav_];refine Zz 2 ?_;have v:((pm++[((Ky.mk x.kind x.r []),x)])++[((Ky.mk x.kind [] x.s),x)])=pm++cJ_ x:=by simp[cJ_, *]
        exact hZ_
       refine Zz 8 ?_;exact lt_
      refine Zz 11 ?_;exact lt_
     refine Zz 9 ?_;refine T_ (lK_ x [] x.a pm B C g pb kb ab ub ob ib rb sb fb ev lv H hm zap_) rfl rfl zp zt rfl λ⟨m,d⟩=>?_;dsimp only;simp only[yav_];refine Zz 8 ?_;refine T_ (lK_ x x.r x.a (pm++[((Ky.mk x.kind [] x.a),x)]) B C g pb kb ab ub ob ib rb sb fb ev lv m d zap_) rfl rfl zp zt rfl λ⟨F,G⟩=>?_;dsimp only;simp only[yav_];refine Zz 2 ?_;have v:((pm++[((Ky.mk x.kind [] x.a),x)])++[((Ky.mk x.kind x.r x.a),x)])=pm++cJ_ x:=by simp[cJ_, *]
     exact hZ_
    refine Zz 9 ?_;refine T_ (lK_ x [] x.a pm B C g pb kb ab ub ob ib rb sb fb ev lv H hm zap_) rfl rfl zp zt rfl λ⟨m,d⟩=>?_;dsimp only;simp only[yav_];refine Zi 8 (λJ=>?_) λJ=>?_
    .refine Zz 5 ?_
     have v:(pm++[((Ky.mk x.kind [] x.a),x)])=pm++cJ_ x:=by simp[cJ_, *]
     exact hY_
    refine Zz 7 ?_;refine T_ (lK_ x [] x.b (pm++[((Ky.mk x.kind [] x.a),x)]) B C g pb kb ab ub ob ib rb sb fb ev lv m d zap_) rfl rfl zp zt rfl λ⟨F,G⟩=>?_;dsimp only;simp only[yav_];refine Zz 2 ?_;have v:((pm++[((Ky.mk x.kind [] x.a),x)])++[((Ky.mk x.kind [] x.b),x)])=pm++cJ_ x:=by simp[cJ_, *]
    exact hZ_
   refine Zz 8 ?_;exact ia_
  refine Zz 11 ?_;exact ia_
 refine Zz 11 ?_;exact ia_
structure NewE where
  g:Nat
  pb:Nat
  kb:Nat
  ab:Nat
  ub:Nat
  ob:Nat
  ib:Nat
  rb:Nat
  sb:Nat
  fb:Nat
  lv:Value
  hm:Hp
  hl:Hp
def NewE.ok (ps:List Pc) (y:NewE):Prop:=cs_ Ky.val Pc.cells 32 10 (aC_ ps) y.pb y.hm/\zR 9 1 ar_ y.lv (ap_ ps) y.hl
def NewE.own (y:NewE):Hp:=(y.g,.cells #[.map (some y.pb),y.lv,.map (some y.kb),.nilFunc,.map (some y.ab),.map (some y.ub),.map (some y.ob),.map (some y.ib),.map (some y.rb),.map (some y.sb),.map (some y.fb)] 94 (0,0))::(y.kb,.map #[] 0)::(y.ab,.map #[] 0)::(y.ub,.map #[] 0)::(y.ob,.map #[] 0)::(y.ib,.map #[] 0)::(y.rb,.map #[] 0)::(y.sb,.map #[] 0)::(y.fb,.map #[] 0)::(y.hm++y.hl)
theorem fK_ {p:List Pc} {i:Nat} {x:Pc} (h:p[i]? = some x):uniq [] (List.take (i+1) p)=if x.zf∈uniq [] (p.take i) then uniq [] (p.take i) else uniq [] (p.take i)++[x.zf]:=by
  have d:∀ (l:List Pc) (r:List Pc),uniq l (r++[x])=if x.zf∈uniq l r then uniq l r else uniq l r++[x.zf]:=by
    intro l r
    induction r generalizing l with
    | nil=>rfl
    | cons y r ih=>exact ih _
  rw[yao_,h,yaC_];exact d _ _
theorem va_ (l:List Pc) (x:Pc):aC_ (l++[x])=aC_ l++cJ_ x:=by simp[aC_]
theorem pB_ (l:List Pc) (x:Pc):ap_ (l++[x])=ap_ l++ap_ [x]:=by simp[ap_]
theorem wP_ (x:Pc):(cJ_ x).length<=2:=by unfold cJ_;(repeat' split)<;>simp
theorem nb_:∀ l:List Pc,(aC_ l).length<=2*l.length
  | []=>by simp[aC_]
  | x::l=>by
    have:=nb_ l;have d:=wP_ x;simp only[aC_,yaV_,yaj_,yai_]at this ⊢;omega
theorem lO_ (l:List Pc):(ap_ l).length<=l.length:=by
  simp only[ap_,yaO_];exact ybN_ _ _
theorem ro_ (p:List Pc) (pad:Ao) (pcap:Nat) (hp:p.length<=100000000):Tri prog 28 #[.slice pad p.length pcap] [] [L_ pad (p.flatMap Pc.cells)] (λy:{y:NewE // y.ok (uniq [] p)}=>zp_ y.1.g 0) (λy=>y.1.own) (λ_=>[]):=by
 refine g_ func28 rfl rfl ntmps28 rfl λv_1=>?_;refine Zz 7 ?_;refine aX_ rfl λE=>aX_ rfl λF=>aX_ rfl λM=>aX_ rfl λH=>aX_ rfl λJ=>aX_ rfl λI=>aX_ rfl λL=>aX_ rfl λK=>aX_ rfl λG=>e_ (w_ strt94 rfl rfl) rfl ?_
 refine F_ rfl rfl λA=>Zz 5 ?_
 refine aX_ rfl λN=>Zz 12 ?_
 refine I_ (ι:={y:Nat×Array MapEntry×Nat×Hp×Value×Hp // y.1<=List.length p/\SetE Pc.val y.2.1 (uniq [] (p.take y.1))/\cs_ Ky.val Pc.cells 32 10 (aC_ (uniq [] (p.take y.1))) E y.2.2.2.1/\zR 9 1 ar_ y.2.2.2.2.1 (ap_ (uniq [] (p.take y.1))) y.2.2.2.2.2}) (λy=>[(3,zp_ A 0),(4,.map (some N)),(19,.slice pad p.length pcap),(20,i4_ (List.length p:Int)),(21,i4_ y.1.1)]) (λy=>((A,.cells #[.map (some E),y.1.2.2.2.2.1,.map (some F),.nilFunc,.map (some M),.map (some H),.map (some J),.map (some I),.map (some L),.map (some K),.map (some G)] 94 (0,0))::((N,.map y.1.2.1 y.1.2.2.1)::((F,.map #[] 0)::((M,.map #[] 0)::((H,.map #[] 0)::((J,.map #[] 0)::((I,.map #[] 0)::((L,.map #[] 0)::((K,.map #[] 0)::((G,.map #[] 0)::(y.1.2.2.2.1++y.1.2.2.2.2.2)))))))))))) (λy=>[L_ pad (p.flatMap Pc.cells)]) (λy=>p.length - y.1.1) ⟨((0:Nat),#[],0,[(E,.map #[] 0)],(.slice none 0 0),[]),by simp,by exact SetE.nil,by exact cs_.nil _ _,(ad_.nil 9 1)⟩ zl zp zh ?_;rintro ⟨⟨i,es,cs,Hm,C,P⟩,hi,hE,hm,m⟩;dsimp only at hi hE hm m ⊢;have a0:=jM_ (p.take i) [];have hbt:=List.length_take_le i p;simp only[yaB_]at a0;have hbp:(aC_ (uniq [] (p.take i))).length<=900000000:=by have:=nb_ (uniq [] (p.take i));omega
 have Z:(ap_ (uniq [] (p.take i))).length<=900000000:=by have:=lO_ (uniq [] (p.take i));omega
 refine Zi 2 (λS=>?_) λS=>?_
 .refine Zz 13 ?_
  have O:List.take i p=p:=yad_ zaa_;rw[O]at hm m;exact ac_ results28 ⟨NewE.mk A E F M H J I L K G C Hm P,hm,m⟩ rfl (m_ d_ (m_ (c_ d_) (m_ (c_ d_) (m_ (c_ d_) (m_ (c_ d_) (m_ (c_ d_) (m_ (c_ d_) (m_ (c_ d_) (m_ (c_ d_) (G_ (c_ x_) E_)))))))))) zt
 have x:i<p.length:=by omega
 obtain⟨Q,d⟩:∃ O,p[i]? = some O:=⟨_,yaa_ x⟩;refine Zz 12 ?_;refine u_ O_ rfl λb_12=>n_ 0 A_ rfl rfl rfl rfl rfl rfl (Zz 5 ?_)
 refine n_ 0 K_ rfl rfl rfl rfl rfl rfl (Zz 6 ?_);refine P_ (df_ (k:=Pc.zf Q) (q:=(uniq [] (p.take i))) pE_ jV_ bO_ rfl rfl hE (λv h _=>(h.own _ (yac_ (i:=2) rfl)).1)) rfl λa1 B=>e_ (aH_ rfl) rfl (Zz 2 ?_)
 cases a1
 .replace B:=zdf B
  refine Zz 5 ?_;refine ex_ (k:=Pc.zf Q) (q:=(uniq [] (p.take i))) 2 pE_ (.inr rfl) jV_ rfl rfl rfl rfl hE λR a2 V=>Zz 5 ?_
  refine f_ (vN_ Q.zf (aC_ (uniq [] (p.take i))) (ap_ (uniq [] (p.take i))) A E F M H J I L K G .nilFunc C Hm P hm m  hbp Z) rfl (m_ (c_ d_) (G_ (c_ (c_ (c_ (c_ (c_ (c_ (c_ (c_ (c_ (c_ x_)))))))))) (c_ (c_ (c_ (c_ (c_ (c_ (c_ (c_ (c_ E_))))))))))) zt rfl λ⟨⟨W,X,U⟩,T,Y⟩=>?_;dsimp only;simp only[yav_,yap_];refine Zz 2 ?_;refine t_ (X_ d_ (X_ (j_ (j_ d_)) (X_ (j_ (j_ d_)) (X_ (j_ (j_ d_)) (X_ (j_ (j_ d_)) (X_ (j_ (j_ d_)) (X_ (j_ (j_ d_)) (X_ (j_ (j_ d_)) (X_ (j_ (j_ d_)) (X_ (j_ (j_ d_)) (be_ (j_ bg_)))))))))))) (Zz 5 ?_);exact C_ ⟨(i+1,R,a2,X,W,U),x,by rw[fK_ d];exact V,by rw[fK_ d,yaf_ zae_,va_];exact T,(by rw[fK_ d,yaf_ zae_,pB_];exact Y)⟩ zab_ zl zp zh
 replace B:=zdt B;refine Zz 8 ?_;exact C_ ⟨(i+1,es,cs,Hm,C,P),x,by rw[fK_ d,yaq_ zae_];exact hE,by rw[fK_ d,yaq_ zae_];exact hm,(by rw[fK_ d,yaq_ zae_];exact m)⟩ zab_ zl (m_ (c_ d_) (m_ (c_ d_) (m_ (c_ d_) (m_ (c_ d_) (m_ (c_ d_) (m_ (c_ d_) (m_ (c_ d_) (m_ (c_ d_) (m_ (c_ d_) (m_ (c_ d_) (G_ (c_ x_) E_))))))))))) zh
theorem mC_ {P:Program} {N:Nf} {fr:Fr} {H:Hp} {Γ:List Fct} {ty:TypeId} {K:Type} [DecidableEq K] {kv:K->Value} {t kt A:TypeId} {x:Operand} {d c:Nat} {es:Array MapEntry} {q:List K} (hE:SetE kv es q) (m:∀ w,(underlying t).run P w=.ok (.map kt A) w) (y:Fr.ev fr x=some (.map (some d))) (hm:∀ v,v.sat H->Z_ Γ v->v.w.heap[d]? = some (.map es c)) :
    Yld P N fr H Γ (.call ⟨.builtin .len,#[x],#[t]⟩) ty (i4_ q.length):=by
  rw[<-hE.size];exact vX_ m y hm
def andF (a b:Fct):Fct where
  p v:=a.p v/\b.p v
  mono:=λv v' h ⟨h1,h2⟩=>⟨a.mono v v' h h1,b.mono v v' h h2⟩
def StA (b9 kb fb:Nat) (nw fm:List Fc) (H:Hp):Prop:=∃ sv es c es' c' q Hq,H=(b9,.cells #[sv] 35 (0,0))::(kb,.map es c)::([(fb,.map es' c')]++Hq)/\ad_ 87 6 sv nw.length (nw.flatMap Fc.cells) Hq/\SetE Fc.val es nw/\SetE Fc.val es' q/\∀ f,f∈q↔f∈fm
theorem ls_ {G:Prop} (h:G:=by
 have d:bm_ m f nw=nw:=by unfold bm_;rw[yaf_ (by rintro ⟨S,F⟩;first|omega|exact absurd zae_ F)]
 exact bK_ results29 ⟨_,sv,es,c,B,N,q,L,rfl,by rw[d];exact R,by rw[d];exact hE,hF,O⟩ rfl zp zt):G:=h
theorem Aq_ (f:Fc) (nw fm:List Fc) (m:Nat) (hm:m<=65536) (g U V M kb fb:Nat) (c0 X c3 c4 c5 c6 c7 c8 c9 Q sv:Value) (es B:Array MapEntry) (c N:Nat) (q:List Fc) (L:Hp) (R:ad_ 87 6 sv nw.length (nw.flatMap Fc.cells) L) (hE:SetE Fc.val es nw) (hF:SetE Fc.val B q) (O:∀ f,f∈q↔f∈fm):Tri prog 29 #[Fc.val f,zp_ U 0,zp_ V 0,zp_ M 0] ((M,.cells #[sv] 35 (0,0))::(kb,.map es c)::([(fb,.map B N)]++L)) [cf_ U (.cells #[zp_ g 0] 84 (0,0)),cf_ V (.cells #[i4_ m] 3 (0,0)),cf_ g (.cells #[c0,X,.map (some kb),c3,c4,c5,c6,c7,c8,c9,Q] 94 (0,0))] (λ_:{H:Hp // StA M kb fb (bm_ m f nw) fm H}=>.tuple #[]) (λy=>y.1) (λ_=>[]):=by
 refine g_ func29 rfl rfl ntmps29 rfl λY=>?_;refine Zz 2 ?_;refine F_ rfl rfl λT=>Zz 4 ?_
 refine s_ 8 [0,1,2,3,4,5,6,7] zk zs (Zz 4 ?_);refine S_ rfl (mC_ hE bj_ rfl (λv h _=>(h.own _ (yac_ (i:=2) rfl)).1)) rfl (Zi 1 (λA=>?_) λA=>?_)
 .refine Zz 2 ?_
  refine s_ 0 [8,9,10,11,12,13,14,15] zk zs (Zz 14 ?_);exact ls_
 refine Zz 2 ?_;refine s_ 0 [8,9,10,11,12,13,14,15] zk zs (Zz 5 ?_);refine dq_ rfl rfl rfl (df_ (k:=f) gy_ bj_ bO_ rfl rfl hE (λv h _=>(h.own _ (yac_ (i:=2) rfl)).1)) rfl λP x=>cY_ rfl rfl rfl (aH_ rfl) rfl (Zz 4 ?_)
 cases P
 .replace x:=zdf x
  refine Zz 2 ?_;refine V_ ((T,.cells #[i4_ f.kind,str f.a,str f.b,str f.r,i4_ f.lo,i4_ f.hi] 87 (0,0))::((M,.cells #[sv] 35 (0,0))::[])) zk ?_;refine s_ 1 [0,1,2,3,4] zk zs (Zz 6 ?_);refine l_ 5 rfl zk (ex_ (k:=f) 2 gy_ (.inr rfl) bj_ rfl rfl rfl rfl hE λG J E=>Zz 8 ?_);refine M_ ai_ N_ W_ rfl rfl rfl rfl rfl rfl λW=>?_;refine am_ (news:=List.flatMap Fc.cells [f]) jB_ R rfl rfl (c_ (c_ (c_ (c_ bg_)))) rfl (ba_ 0 rfl) (λu Z=>aG_ Fc.cells_one Z) zaj_ zaa_ rfl λI K A=>?_;have C:=zsa A;refine t_ (X_ (j_ d_) (X_ (j_ d_) (X_ (j_ d_) (be_ (j_ d_))))) (dm_ 2 C pn_ rfl rfl rfl rfl (Zz 2 ?_));have d:bm_ m f nw=nw++[f]:=by unfold bm_;rw[yaq_ ⟨by omega,by assumption⟩]
  exact bK_ results29 ⟨_,I,G,J,B,N,q,K,rfl,by rw[d];exact C,by rw[d];rw[yaf_ zae_]at E;exact E,hF,O⟩ rfl (m_ (c_ (c_ d_)) (m_ (c_ (c_ d_)) (G_ (c_ (c_ bg_)) (c_ E_)))) zt
 replace x:=zdt x;refine Zz 3 ?_;exact ls_
def EA (m:Nat) (hm:m<=65536) (B:EngB) (b7 b8 b9 kb fb:Nat):Emt prog 87 where
 stp:=bm_ m
 kof:=idk
 St:=StA b9 kb fb
 fn:=29
 caps:=[zp_ b7 0,zp_ b8 0,zp_ b9 0]
 ef:=andF (cf_ b7 (.cells #[zp_ B.g 0] 84 (0,0))) (andF (cf_ b8 (.cells #[.int .i64 (m:Int)] 3 (0,0))) (cf_ B.g (.cells #[.map (some B.pb),.slice B.lad B.lps.length B.lcap,.map (some kb),.func (.func 29) #[] #[zp_ b7 0,zp_ b8 0,zp_ b9 0],.map (some B.ab),.map (some B.ub),.map (some B.ob),.map (some B.ib),.map (some B.rb),.map (some B.sb),.map (some fb)] 94 (0,0))))
 kb:=kb
 fb:=fb
 grows:=fw_ m
 emit:=λf nw fm H hS=>by
   obtain⟨sv,es,c,es2,c2,q,Hq,rfl,h1,h2,h3,h4⟩:=hS;exact jN_ [] (Aq_ f nw fm m hm B.g b7 b8 b9 kb fb _ _ _ _ _ _ _ _ _ _ sv es es2 c c2 q Hq h1 h2 h3 h4) (λv _ h=>⟨h.1.1,h.1.2.1,h.1.2.2,trivial⟩)
 known:=λhS=>by
   obtain⟨sv,es,c,es2,c2,q,Hq,rfl,h1,h2,h3,h4⟩:=hS;exact⟨es,c,by simp,h2⟩
 firm:=λhS=>by
   obtain⟨sv,es,c,es2,c2,q,Hq,rfl,h1,h2,h3,h4⟩:=hS;exact⟨es2,c2,q,by simp,h3,h4⟩
 setf:=fun {nw fm H} f hS=>by
   obtain⟨sv,es,c,es2,c2,q,Hq,rfl,h1,h2,h3,h4⟩:=hS;refine⟨es2,c2,q,(b9,.cells #[sv] 35 (0,0))::(kb,.map es c)::Hq,be_ zp,h3,h4,λes' c' h5=>⟨(b9,.cells #[sv] 35 (0,0))::(kb,.map es c)::([(fb,.map es' c')]++Hq),⟨sv,es,c,es',c',_,Hq,rfl,h1,h2,h5,?_⟩,be_ zp⟩⟩;intro z
   split
   . rename_i hz;rw[h4,yan_];constructor
     . exact .inr
     . rintro (rfl|h)
       . exact (h4 _).1 hz
       . exact h
   . rw[yag_,yak_,h4,yan_,or_comm]
def fvC (v:Value):List Value:=[v]
theorem iS_ (v:Value):(fvC v).length=1:=rfl
theorem uz_ {P:Program} {N:Nf} {fr:Fr} {H:Hp} {Γ:List Fct} {ty:TypeId} {t e:TypeId} {n sz:Nat} {parts:List (Nat×Operand)} {vs:List (Nat×Value)} {z cs:List Value} (B:∀ w,(zeroValue t).run P w=.ok (.agg z.toArray) w) (v:∀ w,(underlying t).run P w=.ok (.array n e) w) (x:∀ w,(sizeOf e).run P w=.ok sz w) (y:Fr.evp fr parts=some vs) (m:ko_ (λi=>some (i*sz,sz)) z vs=some cs) :
    Yld P N fr H Γ (.build t parts.toArray) ty (.agg cs.toArray) :=
  kE_ (λa A w=>by
    have:=A.evp y;rw[ybp_,this];have d:=ha_ _ _ _ _ m;simp only[Instr.build,Sem.run_bind,B,Result.andThen_ok,v,x,Value.cells,d,Sem.run_pure])
def rlV (g:Nat) (k:Nat):List Value:=if k=1 then [(Value.func (.func 69) #[zp_ g 0] #[]),(Value.func (.func 70) #[zp_ g 0] #[]),(Value.func (.func 71) #[zp_ g 0] #[]),(Value.func (.func 72) #[zp_ g 0] #[]),(Value.func (.func 73) #[zp_ g 0] #[]),(Value.func (.func 74) #[zp_ g 0] #[])] else if k=2 then [(Value.func (.func 75) #[zp_ g 0] #[]),(Value.func (.func 76) #[zp_ g 0] #[]),(Value.func (.func 77) #[zp_ g 0] #[]),(Value.func (.func 78) #[zp_ g 0] #[])] else [(Value.func (.func 79) #[zp_ g 0] #[]),(Value.func (.func 80) #[zp_ g 0] #[])]
theorem zm_ (g:Nat):Tri prog 32 #[zp_ g 0] [] [] (λy:Nat×Nat×Nat=>.agg #[.slice none 0 0,.slice (some ⟨y.1,0,none⟩) 6 6,.slice (some ⟨y.2.1,0,none⟩) 4 4,.slice (some ⟨y.2.2,0,none⟩) 2 2]) (λ_=>[]) (λy=>[L_ (some ⟨y.1,0,none⟩) (List.flatMap fvC (rlV g 1)),L_ (some ⟨y.2.1,0,none⟩) (List.flatMap fvC (rlV g 2)),L_ (some ⟨y.2.2,0,none⟩) (List.flatMap fvC (rlV g 3))]):=by
  refine g_ func32 rfl rfl ntmps32 rfl λC=>?_;refine Zz 2 ?_;refine u_ zeroValue98 rfl λE=>Zz 5 ?_
  refine e_ (aR_ (us:=[zp_ g 0]) (vs:=[]) rfl rfl) rfl (Zz 1 ?_);refine e_ (aR_ (us:=[zp_ g 0]) (vs:=[]) rfl rfl) rfl (Zz 1 ?_);refine e_ (aR_ (us:=[zp_ g 0]) (vs:=[]) rfl rfl) rfl (Zz 1 ?_);refine e_ (aR_ (us:=[zp_ g 0]) (vs:=[]) rfl rfl) rfl (Zz 1 ?_);refine e_ (aR_ (us:=[zp_ g 0]) (vs:=[]) rfl rfl) rfl (Zz 1 ?_);refine e_ (aR_ (us:=[zp_ g 0]) (vs:=[]) rfl rfl) rfl (M_ dZ_ fs_ zeroValue89 rfl rfl rfl rfl rfl rfl λm=>?_);refine aL_ (List.flatMap fvC [(Value.func (.func 69) #[zp_ g 0] #[]),(Value.func (.func 70) #[zp_ g 0] #[]),(Value.func (.func 71) #[zp_ g 0] #[]),(Value.func (.func 72) #[zp_ g 0] #[]),(Value.func (.func 73) #[zp_ g 0] #[]),(Value.func (.func 74) #[zp_ g 0] #[])]) d_ rfl ?_;refine Zz 1 ?_;refine e_ (aR_ (us:=[zp_ g 0]) (vs:=[]) rfl rfl) rfl (Zz 1 ?_);refine e_ (aR_ (us:=[zp_ g 0]) (vs:=[]) rfl rfl) rfl (Zz 1 ?_);refine e_ (aR_ (us:=[zp_ g 0]) (vs:=[]) rfl rfl) rfl (Zz 1 ?_);refine e_ (aR_ (us:=[zp_ g 0]) (vs:=[]) rfl rfl) rfl (M_ dZ_ fs_ zeroValue89 rfl rfl rfl rfl rfl rfl λx=>?_);refine aL_ (List.flatMap fvC [(Value.func (.func 75) #[zp_ g 0] #[]),(Value.func (.func 76) #[zp_ g 0] #[]),(Value.func (.func 77) #[zp_ g 0] #[]),(Value.func (.func 78) #[zp_ g 0] #[])]) d_ rfl ?_;refine Zz 1 ?_;refine e_ (aR_ (us:=[zp_ g 0]) (vs:=[]) rfl rfl) rfl (Zz 1 ?_);refine e_ (aR_ (us:=[zp_ g 0]) (vs:=[]) rfl rfl) rfl (M_ dZ_ fs_ zeroValue89 rfl rfl rfl rfl rfl rfl λd=>?_);refine aL_ (List.flatMap fvC [(Value.func (.func 79) #[zp_ g 0] #[]),(Value.func (.func 80) #[zp_ g 0] #[])]) d_ rfl ?_;refine e_ (uz_ zeroValue98 wD_ sizeOf97 rfl rfl) rfl (n_ 0 sizeOf98 rfl rfl rfl rfl rfl rfl (Zz 3 ?_));exact dI_ (m,x,d) (λF v A B=>cu_ (us:=[.slice none 0 0,.slice (some ⟨m,0,none⟩) (List.length [(Value.func (.func 69) #[zp_ g 0] #[]),(Value.func (.func 70) #[zp_ g 0] #[]),(Value.func (.func 71) #[zp_ g 0] #[]),(Value.func (.func 72) #[zp_ g 0] #[]),(Value.func (.func 73) #[zp_ g 0] #[]),(Value.func (.func 74) #[zp_ g 0] #[])]) 6,.slice (some ⟨x,0,none⟩) (List.length [(Value.func (.func 75) #[zp_ g 0] #[]),(Value.func (.func 76) #[zp_ g 0] #[]),(Value.func (.func 77) #[zp_ g 0] #[]),(Value.func (.func 78) #[zp_ g 0] #[])]) 4,.slice (some ⟨d,0,none⟩) (List.length [(Value.func (.func 79) #[zp_ g 0] #[]),(Value.func (.func 80) #[zp_ g 0] #[])]) 2]) 0 results32 isAgg98 sizeOf98 rfl rfl rfl F v A B) i_ zf
theorem fu_ (B:EngB) (E:Emt prog 87) (I:EngA) (pm:List (Ky×Pc)) (x:Ix) (f:Fc) (nw fm:List Fc) (Hs:Hp) (hS:E.St nw fm Hs) (M V J S Hr T:Hp) (hI:IxO 9 87 B x ⟨M,V,J,S,Hr,T⟩) {n:FuncId} {args:Array Value} {m:Hp->Prop} (hT:∀ A:EngA,A.p=I.p->Tri prog n args Hs [gF B E,pF B pm A,aF B x A,uF B x A,oF B x A,iF B x A,rF B x A,sF B x A,E.ef] (λ_:{H':Hp // m H'}=>.tuple #[]) (λy=>y.1) (λ_=>[])) :
    Tri prog n args ((M++(V++(J++(S++(Hr++T)))))++Hs) [gF B E,pF B pm I,E.ef] (λ_:{H':Hp // m H'}=>.tuple #[]) (λy=>(M++(V++(J++(S++(Hr++T)))))++y.1) (λ_=>[]):=by
  obtain⟨ha,Z,X,hi,Y,hm⟩:=hI;dsimp only at ha Z X hi Y hm;obtain⟨R,Q⟩:=ha.lent (P:=prog) hR_;obtain⟨F,K⟩:=Z.lent (P:=prog) hR_;obtain⟨N,G⟩:=X.lent (P:=prog) dz_;obtain⟨W,L⟩:=hi.lent (P:=prog) dz_;obtain⟨H,O⟩:=Y.lent (P:=prog) dz_;obtain⟨C,U⟩:=hm.lent (P:=prog) dz_;refine jN_ _ (hT ⟨I.p,R,F,N,W,H,C⟩ rfl) λv hB h=>⟨h.1,h.2.1,Q v λp d=>hB p zaK_,K v λp d=>hB p zaK_,G v λp d=>hB p zaK_,L v λp d=>hB p zaK_,O v λp d=>hB p zaK_,U v λp d=>hB p zaK_,h.2.2.1,trivial⟩
theorem rl10_c (B:EngB) (E:Emt prog 87) (J:EngA) (pm:List (Ky×Pc)) (x:Ix) (f:Fc) (nw fm:List Fc) (Hs:Hp) (hS:E.St nw fm Hs) (m F d v Hr C:Hp) (K:IxO 9 87 B x ⟨m,F,d,v,Hr,C⟩) (H:∀ k,(lat pm k).length<=1000000000) (G:∀ k,(lat x.above k).length<=1000000000/\(lat x.under k).length<=1000000000) (I:∀ k,(lat x.frm k).length<=1000000000/\(lat x.into k).length<=1000000000/\(lat x.ranges k).length<=1000000000/\(lat x.firms k).length<=1000000000) (M:f.kind=3->-1099511627776<=f.lo/\f.lo<=f.hi/\f.hi<=1099511627776) (N:f.kind=3->∀ y∈lat pm (Ky.mk 9 f.r []),-1099511627776<=y.lo/\y.lo<=y.hi/\y.hi<=1099511627776) (L:f.kind=1):Tri prog 69 #[zp_ B.g 0,f.val] ((m++(F++(d++(v++(Hr++C)))))++Hs) [gF B E,pF B pm J,E.ef] (λ_:{H':Hp // E.St (rl E.stp E.kof pm x f 0 (nw,fm)).1 (rl E.stp E.kof pm x f 0 (nw,fm)).2 H'}=>.tuple #[]) (λy=>(m++(F++(d++(v++(Hr++C)))))++y.1) (λ_=>[]):=by
  refine fu_ B E J pm x f nw fm Hs hS m F d v Hr C K λA O=>?_;have h:=vD_ B E A pm x f nw fm Hs hS H G I;have e:rl E.stp E.kof pm x f 0 (nw,fm)=_:=yaq_ L;rw[e];exact h
theorem rl11_c (B:EngB) (E:Emt prog 87) (J:EngA) (pm:List (Ky×Pc)) (x:Ix) (f:Fc) (nw fm:List Fc) (Hs:Hp) (hS:E.St nw fm Hs) (m F d v Hr C:Hp) (K:IxO 9 87 B x ⟨m,F,d,v,Hr,C⟩) (H:∀ k,(lat pm k).length<=1000000000) (G:∀ k,(lat x.above k).length<=1000000000/\(lat x.under k).length<=1000000000) (I:∀ k,(lat x.frm k).length<=1000000000/\(lat x.into k).length<=1000000000/\(lat x.ranges k).length<=1000000000/\(lat x.firms k).length<=1000000000) (M:f.kind=3->-1099511627776<=f.lo/\f.lo<=f.hi/\f.hi<=1099511627776) (N:f.kind=3->∀ y∈lat pm (Ky.mk 9 f.r []),-1099511627776<=y.lo/\y.lo<=y.hi/\y.hi<=1099511627776) (L:f.kind=1):Tri prog 70 #[zp_ B.g 0,f.val] ((m++(F++(d++(v++(Hr++C)))))++Hs) [gF B E,pF B pm J,E.ef] (λ_:{H':Hp // E.St (rl E.stp E.kof pm x f 1 (nw,fm)).1 (rl E.stp E.kof pm x f 1 (nw,fm)).2 H'}=>.tuple #[]) (λy=>(m++(F++(d++(v++(Hr++C)))))++y.1) (λ_=>[]):=by
  refine fu_ B E J pm x f nw fm Hs hS m F d v Hr C K λA O=>?_;have h:=both_c B E A pm x f nw fm Hs hS H G I;have e:rl E.stp E.kof pm x f 1 (nw,fm)=_:=yaq_ L;rw[e];exact h
theorem rl12_c (B:EngB) (E:Emt prog 87) (J:EngA) (pm:List (Ky×Pc)) (x:Ix) (f:Fc) (nw fm:List Fc) (Hs:Hp) (hS:E.St nw fm Hs) (m F d v Hr C:Hp) (K:IxO 9 87 B x ⟨m,F,d,v,Hr,C⟩) (H:∀ k,(lat pm k).length<=1000000000) (G:∀ k,(lat x.above k).length<=1000000000/\(lat x.under k).length<=1000000000) (I:∀ k,(lat x.frm k).length<=1000000000/\(lat x.into k).length<=1000000000/\(lat x.ranges k).length<=1000000000/\(lat x.firms k).length<=1000000000) (M:f.kind=3->-1099511627776<=f.lo/\f.lo<=f.hi/\f.hi<=1099511627776) (N:f.kind=3->∀ y∈lat pm (Ky.mk 9 f.r []),-1099511627776<=y.lo/\y.lo<=y.hi/\y.hi<=1099511627776) (L:f.kind=1):Tri prog 71 #[zp_ B.g 0,f.val] ((m++(F++(d++(v++(Hr++C)))))++Hs) [gF B E,pF B pm J,E.ef] (λ_:{H':Hp // E.St (rl E.stp E.kof pm x f 2 (nw,fm)).1 (rl E.stp E.kof pm x f 2 (nw,fm)).2 H'}=>.tuple #[]) (λy=>(m++(F++(d++(v++(Hr++C)))))++y.1) (λ_=>[]):=by
  refine fu_ B E J pm x f nw fm Hs hS m F d v Hr C K λA O=>?_;have h:=some_c B E A pm x f nw fm Hs hS H G I;have e:rl E.stp E.kof pm x f 2 (nw,fm)=_:=yaq_ L;rw[e];exact h
theorem rl13_c (B:EngB) (E:Emt prog 87) (J:EngA) (pm:List (Ky×Pc)) (x:Ix) (f:Fc) (nw fm:List Fc) (Hs:Hp) (hS:E.St nw fm Hs) (m F d v Hr C:Hp) (K:IxO 9 87 B x ⟨m,F,d,v,Hr,C⟩) (H:∀ k,(lat pm k).length<=1000000000) (G:∀ k,(lat x.above k).length<=1000000000/\(lat x.under k).length<=1000000000) (I:∀ k,(lat x.frm k).length<=1000000000/\(lat x.into k).length<=1000000000/\(lat x.ranges k).length<=1000000000/\(lat x.firms k).length<=1000000000) (M:f.kind=3->-1099511627776<=f.lo/\f.lo<=f.hi/\f.hi<=1099511627776) (N:f.kind=3->∀ y∈lat pm (Ky.mk 9 f.r []),-1099511627776<=y.lo/\y.lo<=y.hi/\y.hi<=1099511627776) (L:f.kind=1):Tri prog 72 #[zp_ B.g 0,f.val] ((m++(F++(d++(v++(Hr++C)))))++Hs) [gF B E,pF B pm J,E.ef] (λ_:{H':Hp // E.St (rl E.stp E.kof pm x f 3 (nw,fm)).1 (rl E.stp E.kof pm x f 3 (nw,fm)).2 H'}=>.tuple #[]) (λy=>(m++(F++(d++(v++(Hr++C)))))++y.1) (λ_=>[]):=by
  refine fu_ B E J pm x f nw fm Hs hS m F d v Hr C K λA O=>?_;have h:=te_ B E A pm x f nw fm Hs hS H G I;have e:rl E.stp E.kof pm x f 3 (nw,fm)=_:=yaq_ L;rw[e];exact h
theorem rl14_c (B:EngB) (E:Emt prog 87) (J:EngA) (pm:List (Ky×Pc)) (x:Ix) (f:Fc) (nw fm:List Fc) (Hs:Hp) (hS:E.St nw fm Hs) (m F d v Hr C:Hp) (K:IxO 9 87 B x ⟨m,F,d,v,Hr,C⟩) (H:∀ k,(lat pm k).length<=1000000000) (G:∀ k,(lat x.above k).length<=1000000000/\(lat x.under k).length<=1000000000) (I:∀ k,(lat x.frm k).length<=1000000000/\(lat x.into k).length<=1000000000/\(lat x.ranges k).length<=1000000000/\(lat x.firms k).length<=1000000000) (M:f.kind=3->-1099511627776<=f.lo/\f.lo<=f.hi/\f.hi<=1099511627776) (N:f.kind=3->∀ y∈lat pm (Ky.mk 9 f.r []),-1099511627776<=y.lo/\y.lo<=y.hi/\y.hi<=1099511627776) (L:f.kind=1):Tri prog 73 #[zp_ B.g 0,f.val] ((m++(F++(d++(v++(Hr++C)))))++Hs) [gF B E,pF B pm J,E.ef] (λ_:{H':Hp // E.St (rl E.stp E.kof pm x f 4 (nw,fm)).1 (rl E.stp E.kof pm x f 4 (nw,fm)).2 H'}=>.tuple #[]) (λy=>(m++(F++(d++(v++(Hr++C)))))++y.1) (λ_=>[]):=by
  refine fu_ B E J pm x f nw fm Hs hS m F d v Hr C K λA O=>?_;have h:=rN_ B E A pm x f nw fm Hs hS H G I;have e:rl E.stp E.kof pm x f 4 (nw,fm)=_:=yaq_ L;rw[e];exact h
theorem rl15_c (B:EngB) (E:Emt prog 87) (J:EngA) (pm:List (Ky×Pc)) (x:Ix) (f:Fc) (nw fm:List Fc) (Hs:Hp) (hS:E.St nw fm Hs) (m F d v Hr C:Hp) (K:IxO 9 87 B x ⟨m,F,d,v,Hr,C⟩) (H:∀ k,(lat pm k).length<=1000000000) (G:∀ k,(lat x.above k).length<=1000000000/\(lat x.under k).length<=1000000000) (I:∀ k,(lat x.frm k).length<=1000000000/\(lat x.into k).length<=1000000000/\(lat x.ranges k).length<=1000000000/\(lat x.firms k).length<=1000000000) (M:f.kind=3->-1099511627776<=f.lo/\f.lo<=f.hi/\f.hi<=1099511627776) (N:f.kind=3->∀ y∈lat pm (Ky.mk 9 f.r []),-1099511627776<=y.lo/\y.lo<=y.hi/\y.hi<=1099511627776) (L:f.kind=1):Tri prog 74 #[zp_ B.g 0,f.val] ((m++(F++(d++(v++(Hr++C)))))++Hs) [gF B E,pF B pm J,E.ef] (λ_:{H':Hp // E.St (rl E.stp E.kof pm x f 5 (nw,fm)).1 (rl E.stp E.kof pm x f 5 (nw,fm)).2 H'}=>.tuple #[]) (λy=>(m++(F++(d++(v++(Hr++C)))))++y.1) (λ_=>[]):=by
  refine fu_ B E J pm x f nw fm Hs hS m F d v Hr C K λA O=>?_;have h:=yN_ B E A pm x f nw fm Hs hS H G I;have e:rl E.stp E.kof pm x f 5 (nw,fm)=_:=yaq_ L;rw[e];exact h
theorem rl20_c (B:EngB) (E:Emt prog 87) (K:EngA) (pm:List (Ky×Pc)) (x:Ix) (f:Fc) (nw fm:List Fc) (Hs:Hp) (hS:E.St nw fm Hs) (m F d v Hr C:Hp) (L:IxO 9 87 B x ⟨m,F,d,v,Hr,C⟩) (H:∀ k,(lat pm k).length<=1000000000) (G:∀ k,(lat x.above k).length<=1000000000/\(lat x.under k).length<=1000000000) (I:∀ k,(lat x.frm k).length<=1000000000/\(lat x.into k).length<=1000000000/\(lat x.ranges k).length<=1000000000/\(lat x.firms k).length<=1000000000) (M:f.kind=3->-1099511627776<=f.lo/\f.lo<=f.hi/\f.hi<=1099511627776) (N:f.kind=3->∀ y∈lat pm (Ky.mk 9 f.r []),-1099511627776<=y.lo/\y.lo<=y.hi/\y.hi<=1099511627776) (J:f.kind=2):Tri prog 75 #[zp_ B.g 0,f.val] ((m++(F++(d++(v++(Hr++C)))))++Hs) [gF B E,pF B pm K,E.ef] (λ_:{H':Hp // E.St (rl E.stp E.kof pm x f 0 (nw,fm)).1 (rl E.stp E.kof pm x f 0 (nw,fm)).2 H'}=>.tuple #[]) (λy=>(m++(F++(d++(v++(Hr++C)))))++y.1) (λ_=>[]):=by
  refine fu_ B E K pm x f nw fm Hs hS m F d v Hr C L λA O=>?_;have h:=vx_ B E A pm x f nw fm Hs hS H G I;have e:rl E.stp E.kof pm x f 0 (nw,fm)=_:=(yaf_ zbl_).trans (yaq_ J);rw[e];exact h
theorem rl21_c (B:EngB) (E:Emt prog 87) (K:EngA) (pm:List (Ky×Pc)) (x:Ix) (f:Fc) (nw fm:List Fc) (Hs:Hp) (hS:E.St nw fm Hs) (m F d v Hr C:Hp) (L:IxO 9 87 B x ⟨m,F,d,v,Hr,C⟩) (H:∀ k,(lat pm k).length<=1000000000) (G:∀ k,(lat x.above k).length<=1000000000/\(lat x.under k).length<=1000000000) (I:∀ k,(lat x.frm k).length<=1000000000/\(lat x.into k).length<=1000000000/\(lat x.ranges k).length<=1000000000/\(lat x.firms k).length<=1000000000) (M:f.kind=3->-1099511627776<=f.lo/\f.lo<=f.hi/\f.hi<=1099511627776) (N:f.kind=3->∀ y∈lat pm (Ky.mk 9 f.r []),-1099511627776<=y.lo/\y.lo<=y.hi/\y.hi<=1099511627776) (J:f.kind=2):Tri prog 76 #[zp_ B.g 0,f.val] ((m++(F++(d++(v++(Hr++C)))))++Hs) [gF B E,pF B pm K,E.ef] (λ_:{H':Hp // E.St (rl E.stp E.kof pm x f 1 (nw,fm)).1 (rl E.stp E.kof pm x f 1 (nw,fm)).2 H'}=>.tuple #[]) (λy=>(m++(F++(d++(v++(Hr++C)))))++y.1) (λ_=>[]):=by
  refine fu_ B E K pm x f nw fm Hs hS m F d v Hr C L λA O=>?_;have h:=Av_ B E A pm x f nw fm Hs hS H G I;have e:rl E.stp E.kof pm x f 1 (nw,fm)=_:=(yaf_ zbl_).trans (yaq_ J);rw[e];exact h
theorem rl22_c (B:EngB) (E:Emt prog 87) (K:EngA) (pm:List (Ky×Pc)) (x:Ix) (f:Fc) (nw fm:List Fc) (Hs:Hp) (hS:E.St nw fm Hs) (m F d v Hr C:Hp) (L:IxO 9 87 B x ⟨m,F,d,v,Hr,C⟩) (H:∀ k,(lat pm k).length<=1000000000) (G:∀ k,(lat x.above k).length<=1000000000/\(lat x.under k).length<=1000000000) (I:∀ k,(lat x.frm k).length<=1000000000/\(lat x.into k).length<=1000000000/\(lat x.ranges k).length<=1000000000/\(lat x.firms k).length<=1000000000) (M:f.kind=3->-1099511627776<=f.lo/\f.lo<=f.hi/\f.hi<=1099511627776) (N:f.kind=3->∀ y∈lat pm (Ky.mk 9 f.r []),-1099511627776<=y.lo/\y.lo<=y.hi/\y.hi<=1099511627776) (J:f.kind=2):Tri prog 77 #[zp_ B.g 0,f.val] ((m++(F++(d++(v++(Hr++C)))))++Hs) [gF B E,pF B pm K,E.ef] (λ_:{H':Hp // E.St (rl E.stp E.kof pm x f 2 (nw,fm)).1 (rl E.stp E.kof pm x f 2 (nw,fm)).2 H'}=>.tuple #[]) (λy=>(m++(F++(d++(v++(Hr++C)))))++y.1) (λ_=>[]):=by
  refine fu_ B E K pm x f nw fm Hs hS m F d v Hr C L λA O=>?_;have h:=td_ B E A pm x f nw fm Hs hS H G I;have e:rl E.stp E.kof pm x f 2 (nw,fm)=_:=(yaf_ zbl_).trans (yaq_ J);rw[e];exact h
theorem rl23_c (B:EngB) (E:Emt prog 87) (K:EngA) (pm:List (Ky×Pc)) (x:Ix) (f:Fc) (nw fm:List Fc) (Hs:Hp) (hS:E.St nw fm Hs) (m F d v Hr C:Hp) (L:IxO 9 87 B x ⟨m,F,d,v,Hr,C⟩) (H:∀ k,(lat pm k).length<=1000000000) (G:∀ k,(lat x.above k).length<=1000000000/\(lat x.under k).length<=1000000000) (I:∀ k,(lat x.frm k).length<=1000000000/\(lat x.into k).length<=1000000000/\(lat x.ranges k).length<=1000000000/\(lat x.firms k).length<=1000000000) (M:f.kind=3->-1099511627776<=f.lo/\f.lo<=f.hi/\f.hi<=1099511627776) (N:f.kind=3->∀ y∈lat pm (Ky.mk 9 f.r []),-1099511627776<=y.lo/\y.lo<=y.hi/\y.hi<=1099511627776) (J:f.kind=2):Tri prog 78 #[zp_ B.g 0,f.val] ((m++(F++(d++(v++(Hr++C)))))++Hs) [gF B E,pF B pm K,E.ef] (λ_:{H':Hp // E.St (rl E.stp E.kof pm x f 3 (nw,fm)).1 (rl E.stp E.kof pm x f 3 (nw,fm)).2 H'}=>.tuple #[]) (λy=>(m++(F++(d++(v++(Hr++C)))))++y.1) (λ_=>[]):=by
  refine fu_ B E K pm x f nw fm Hs hS m F d v Hr C L λA O=>?_;have h:=rM_ B E A pm x f nw fm Hs hS H G I;have e:rl E.stp E.kof pm x f 3 (nw,fm)=_:=(yaf_ zbl_).trans (yaq_ J);rw[e];exact h
theorem rl30_c (B:EngB) (E:Emt prog 87) (K:EngA) (pm:List (Ky×Pc)) (x:Ix) (f:Fc) (nw fm:List Fc) (Hs:Hp) (hS:E.St nw fm Hs) (m F d v Hr C:Hp) (L:IxO 9 87 B x ⟨m,F,d,v,Hr,C⟩) (H:∀ k,(lat pm k).length<=1000000000) (G:∀ k,(lat x.above k).length<=1000000000/\(lat x.under k).length<=1000000000) (I:∀ k,(lat x.frm k).length<=1000000000/\(lat x.into k).length<=1000000000/\(lat x.ranges k).length<=1000000000/\(lat x.firms k).length<=1000000000) (M:f.kind=3->-1099511627776<=f.lo/\f.lo<=f.hi/\f.hi<=1099511627776) (N:f.kind=3->∀ y∈lat pm (Ky.mk 9 f.r []),-1099511627776<=y.lo/\y.lo<=y.hi/\y.hi<=1099511627776) (J:f.kind=3):Tri prog 79 #[zp_ B.g 0,f.val] ((m++(F++(d++(v++(Hr++C)))))++Hs) [gF B E,pF B pm K,E.ef] (λ_:{H':Hp // E.St (rl E.stp E.kof pm x f 0 (nw,fm)).1 (rl E.stp E.kof pm x f 0 (nw,fm)).2 H'}=>.tuple #[]) (λy=>(m++(F++(d++(v++(Hr++C)))))++y.1) (λ_=>[]):=by
  refine fu_ B E K pm x f nw fm Hs hS m F d v Hr C L λA O=>?_;have h:=meet_c B E A pm x f nw fm Hs hS H G I;have e:rl E.stp E.kof pm x f 0 (nw,fm)=_:=(yaf_ zbl_).trans (yaf_ zbl_);rw[e];exact h
theorem rl31_c (B:EngB) (E:Emt prog 87) (K:EngA) (pm:List (Ky×Pc)) (x:Ix) (f:Fc) (nw fm:List Fc) (Hs:Hp) (hS:E.St nw fm Hs) (m G d v Hr F:Hp) (M:IxO 9 87 B x ⟨m,G,d,v,Hr,F⟩) (I:∀ k,(lat pm k).length<=1000000000) (H:∀ k,(lat x.above k).length<=1000000000/\(lat x.under k).length<=1000000000) (J:∀ k,(lat x.frm k).length<=1000000000/\(lat x.into k).length<=1000000000/\(lat x.ranges k).length<=1000000000/\(lat x.firms k).length<=1000000000) (L:f.kind=3->-1099511627776<=f.lo/\f.lo<=f.hi/\f.hi<=1099511627776) (N:f.kind=3->∀ y∈lat pm (Ky.mk 9 f.r []),-1099511627776<=y.lo/\y.lo<=y.hi/\y.hi<=1099511627776) (C:f.kind=3):Tri prog 80 #[zp_ B.g 0,f.val] ((m++(G++(d++(v++(Hr++F)))))++Hs) [gF B E,pF B pm K,E.ef] (λ_:{H':Hp // E.St (rl E.stp E.kof pm x f 1 (nw,fm)).1 (rl E.stp E.kof pm x f 1 (nw,fm)).2 H'}=>.tuple #[]) (λy=>(m++(G++(d++(v++(Hr++F)))))++y.1) (λ_=>[]):=by
  refine fu_ B E K pm x f nw fm Hs hS m G d v Hr F M λA O=>?_;have h:=out_c B E A pm x f nw fm Hs hS I H J (L C) (N C);have e:rl E.stp E.kof pm x f 1 (nw,fm)=_:=(yaf_ (by rw[C];decide)).trans (yaf_ (by rw[C];decide));rw[e];exact h
section
variable {N:Nf} {v0:Vw} {H0:Hp} {fr:Fr}
theorem kd_ {k:Act->World->Prop} {F:Hp}:∀ (B:Hp) {H:Hp} {Γ:List Fct},H.Perm (B++F)->Ok N v0 H0 k fr F (B.reverse.map (λp=>cf_ p.1 p.2)++Γ)->Ok N v0 H0 k fr H Γ
  | [],H,Γ,hH,h=>t_ hH h
  | (b,o)::B,H,Γ,hH,h=>by
    refine hy_ (cf_ b o) (F:=B++F) hH (λ_ d m _=>⟨d,m⟩) ?_;refine kd_ B (.refl _) ?_;simpa using h
end
end Go.Proofs.YtfjcabalehamcaaGreatDoor
namespace Go.Proofs.YtfjcabalehamcaaGreatDoor
open Go Go.Sx Go.Proofs Tryz
attribute [local irreducible] Code.wp wpList wpAnyH
open Go.Vs
theorem vz_ {P:Program} (w:World) (d:Nat) (t e:TypeId) (a:Ao) (l c:Nat) (h:P.underlying t=some (.slice e)):(Op.equalIn (d+1) t (.slice a l c) (.slice none 0 0)).run P w=.ok a.isNone w:=by
  cases a<;>simp[Op.equalIn,run_underlying h]
theorem Ap_ {P:Program} (w:World) (t e:TypeId) (a:Ao) (l c:Nat) (h:P.underlying t=some (.slice e)):(Op.equal t (.slice a l c) (.slice none 0 0)).run P w=.ok a.isNone w:=vz_ w 9999 t e a l c h
theorem mA_ {P:Program} {N:Nf} {fr:Fr} {H:Hp} {Γ:List Fct} {ty t B e:TypeId} {x y:Operand} {ad:Ao} {m c:Nat} (C:P.underlying t=some (.slice e)) (E:Fr.ev fr x=some (.slice ad m c)) (A:Fr.ev fr y=some (.slice none 0 0)):Yld P N fr H Γ (.binOp .eql t x y B) ty (.bool (decide (ad=none))) :=
  λa v d _ _ _ _ _=>by
    have F:decide (ad=none)=ad.isNone:=by cases ad<;>simp
    simp[execOp,d.ev E,d.ev A,eqGuard,binOp,Ap_ v.w t e ad m c C,F]
theorem qN_ {v:Vw} {cs:List Value} (h:bl_ v none cs):cs=[]:=by
 rcases h with h|⟨b,off,m,T,fz,d,_⟩
 .exact h
 cases d
theorem ij_ (b:Nat) (e:TypeId) (sz:Nat):ad_ e sz (.slice (some ⟨b,0,none⟩) 0 0) 0 [] [(b,.cells #[] e (0,0))]:=⟨by simp,.inr ⟨b,0,#[],rfl,rfl,yae_ _,by simp[maxLen],by simp,by simp⟩⟩
theorem yj_ (l:List Str) (ad:Ao) (cap:Nat) (I:l.length<=cap) (hl:l.length<=1000000000):Tri prog 63 #[.slice ad l.length cap] [] [L_ ad (l.flatMap ar_)] (λy:{y:Value×Hp // zR 9 1 ar_ y.1 l y.2}=>y.1.1) (λy=>y.1.2) (λ_=>[]):=by
 refine g_ func63 rfl rfl ntmps63 rfl λF=>?_;refine Zz 9 ?_;refine P_ (mA_ ig_ rfl rfl) rfl λE d=>Zz 2 ?_
 cases E
 .replace d:=zdf d
  refine Zz 5 ?_;refine gR_ B_ U_ rfl λC=>t_ d_ (Zz 1 ?_)
  refine cS_ (news:=List.flatMap ar_ l) eC_ (ij_ C 9 1) rfl rfl (λq=>absurd q d) I af_ (by rw[cK_ ar_ 1 aO_]) zf (λu G=>aG_ dE_ G) zaj_ zaa_ rfl λm x d=>?_;refine t_ yax_ ?_;have B:ad_ 9 1 m (List.length (([]:List Str)++l)) (List.flatMap ar_ (([]:List Str)++l)) x:=by rw[yaj_,yaW_];exact d
  refine Zz 4 ?_;exact ac_ results63 ⟨(m,x),by simpa using B⟩ rfl af_ zt
 replace d:=zdt d;refine Zz 7 ?_;refine xg_ (p:=List.flatMap ar_ l=[]) (λv _ h=>by have q:=h.1;subst d;exact qN_ q) λH=>?_;have A:l=[]:=yaz_ (by have:=yah_ List.length H;rwa [cK_ ar_ 1 aO_,Nat.mul_one]at this);exact ac_ results63 ⟨(.slice none 0 0,[]),by subst A;exact ad_.nil _ _⟩ rfl i_ zt
def atS (p:List Pc):List Str:=Lib.compact ((cn_ p++[[42],[33]]).mergeSort λx y=>decide (x<=y))
theorem qf_ (p:List Pc):(atS p).length<=3*p.length+2:=by
  have:=iB_ ((cn_ p++[[42],[33]]).mergeSort λx y=>decide (x<=y));have d:=el_ p;rw[ybz_,yaj_]at this;simp only[yai_,yaB_]at this;unfold atS;omega
theorem tt_ (p:List Pc):(atS p).Pairwise λx y=>x<y:=th_ (qF_ _)
theorem kz_ (p:List Pc) (x:Str):x∈atS p↔x∈cn_ p\/x=[42]\/x=[33]:=by
  unfold atS;rw[lT_,ycD_,yag_];simp
theorem atS_c (p:List Pc) (pad:Ao) (pcap:Nat) (W:p.length<=100000000):Tri prog 30 #[.slice pad p.length pcap] [] [L_ pad (p.flatMap Pc.cells)] (λy:{y:Ao×Nat // (atS p).length<=y.2/\y.2<=maxLen/\(y.1=none->y.2=0)}=>.slice y.1.1 (atS p).length y.1.2) (λ_=>[]) (λy=>[L_ y.1.1 ((atS p).flatMap ar_)]):=by
  refine g_ func30 rfl rfl ntmps30 rfl λS=>?_;refine Zz 8 ?_;refine f_ (up_ p pad pcap zaa_) rfl i_ zf rfl λ⟨⟨aad,acap⟩,M,Q⟩=>?_;dsimp only;refine f_ (yj_ (cn_ p) aad acap M (by have:=el_ p;omega)) rfl i_ zf rfl λ⟨⟨U,R⟩,N⟩=>?_;dsimp only;refine t_ fc_ (M_ B_ U_ at_ rfl rfl rfl rfl rfl rfl λV=>?_);refine am_ (news:=List.flatMap ar_ [[42],[33]]) eC_ N rfl rfl E_ rfl (ba_ 0 rfl) (λu T=>aG_ dE_ T) (by simp only[maxLen];(have:=el_ p;(try simp only[yaj_,yai_,yaB_]);omega)) zaV_ rfl λF P J=>?_;refine t_ yax_ ?_;have G:=zsa J;refine Zz 6 ?_;refine f_ (pm_ G zaV_) rfl E_ zt rfl λ⟨B,K⟩=>?_;dsimp only;have A:ad_ 9 1 F ((((cn_ p)++[[42],[33]])).mergeSort λx y=>decide (x<=y)).length (List.flatMap ar_ ((((cn_ p)++[[42],[33]])).mergeSort λx y=>decide (x<=y))) B:=by rw[ybz_];exact K
  refine Zz 2 ?_;refine t_ (be_ bg_) (Zz 3 ?_);refine f_ (nO_ A (by rw[ybz_];(have:=el_ p;(try simp only[yaj_,yai_,yaB_]);omega))) rfl E_ zt rfl λ⟨⟨L,O⟩,H⟩=>?_;dsimp only;refine Zz 4 ?_;refine aZ_ H x_ λE I C m d v=>?_;exact ac_ results30 ⟨(E,I),m,d,v⟩ (fE_ rfl C) i_ zf
end Go.Proofs.YtfjcabalehamcaaGreatDoor
namespace Go.Proofs
open Go.Shelf
def Tryz.sortFc_ren:Go.Shelf.Ren:=⟨fun|6=>34|15=>82|14=>81|28=>133|29=>134|20=>125|21=>126|22=>127|23=>128|24=>129|25=>130|26=>131|27=>132|46=>195|47=>196|48=>197|49=>198|50=>199|57=>255|n=>n,fun|22=>35|24=>87|25=>101|3=>3|39=>149|0=>0|53=>211|55=>213|4=>4|46=>204|45=>203|50=>208|5=>5|9=>9|66=>280|70=>185|76=>326|77=>327|n=>n,fun|n=>n⟩
theorem Tryz.sortFc:Go.Proofs.SlLaysF0.n6 Tryz.prog Tryz.sortFc_ren:={
  mixed:=by kernel_rfl
  f6:=⟨Tryz.f34.name,by decide,Tryz.func34.trans (yah_ some zad_)⟩
  f14:=⟨Tryz.f81.name,by decide,Tryz.func81.trans (yah_ some zad_)⟩
  f15:=Tryz.func82.trans (yah_ some zad_)
  f20:=⟨Tryz.f125.name,by decide,Tryz.func125.trans (yah_ some zad_)⟩
  f21:=⟨Tryz.f126.name,by decide,Tryz.func126.trans (yah_ some zad_)⟩
  f22:=⟨Tryz.f127.name,by decide,Tryz.func127.trans (yah_ some zad_)⟩
  f23:=⟨Tryz.f128.name,by decide,Tryz.func128.trans (yah_ some zad_)⟩
  f24:=⟨Tryz.f129.name,by decide,Tryz.func129.trans (yah_ some zad_)⟩
  f25:=⟨Tryz.f130.name,by decide,Tryz.func130.trans (yah_ some zad_)⟩
  f26:=⟨Tryz.f131.name,by decide,Tryz.func131.trans (yah_ some zad_)⟩
  f27:=⟨Tryz.f132.name,by decide,Tryz.func132.trans (yah_ some zad_)⟩
  f28:=Tryz.func133.trans (yah_ some zad_)
  f29:=Tryz.func134.trans (yah_ some zad_)
  f46:=⟨Tryz.f195.name,by decide,Tryz.func195.trans (yah_ some zad_)⟩
  f47:=Tryz.func196.trans (yah_ some zad_)
  f48:=Tryz.func197.trans (yah_ some zad_)
  f49:=⟨Tryz.f198.name,by decide,Tryz.func198.trans (yah_ some zad_)⟩
  f50:=⟨Tryz.f199.name,by decide,Tryz.func199.trans (yah_ some zad_)⟩
  f57:=⟨Tryz.f255.name,by decide,Tryz.func255.trans (yah_ some zad_)⟩
  t0:=Tryz.underlying0
  a0:=Tryz.isAgg0
  z0:=Tryz.sizeOf0
  v0:=Tryz.zeroValue0
  t3:=Tryz.underlying3
  a3:=Tryz.isAgg3
  z3:=Tryz.sizeOf3
  v3:=Tryz.zeroValue3
  t4:=Tryz.underlying4
  a4:=Tryz.isAgg4
  z4:=Tryz.sizeOf4
  v4:=Tryz.zeroValue4
  t5:=Tryz.underlying5
  a5:=Tryz.isAgg5
  z5:=Tryz.sizeOf5
  v5:=Tryz.zeroValue5
  t9:=Tryz.underlying9
  a9:=Tryz.isAgg9
  z9:=Tryz.sizeOf9
  v9:=Tryz.zeroValue9
  t22:=Tryz.underlying35
  a22:=Tryz.isAgg35
  z22:=Tryz.sizeOf35
  v22:=Tryz.zeroValue35
  t25:=Tryz.underlying101
  a25:=Tryz.isAgg101
  z25:=Tryz.sizeOf101
  v25:=Tryz.zeroValue101
  t39:=Tryz.underlying149
  a39:=Tryz.isAgg149
  z39:=Tryz.sizeOf149
  v39:=Tryz.zeroValue149
  t45:=Tryz.underlying203
  a45:=Tryz.isAgg203
  z45:=Tryz.sizeOf203
  v45:=Tryz.zeroValue203
  t46:=Tryz.underlying204
  a46:=Tryz.isAgg204
  z46:=Tryz.sizeOf204
  v46:=Tryz.zeroValue204
  t50:=Tryz.underlying208
  a50:=Tryz.isAgg208
  z50:=Tryz.sizeOf208
  v50:=Tryz.zeroValue208
  t53:=Tryz.underlying211
  a53:=Tryz.isAgg211
  z53:=Tryz.sizeOf211
  v53:=Tryz.zeroValue211
  t55:=Tryz.underlying213
  a55:=Tryz.isAgg213
  z55:=Tryz.sizeOf213
  v55:=Tryz.zeroValue213
  t66:=Tryz.underlying280
  a66:=Tryz.isAgg280
  z66:=Tryz.sizeOf280
  v66:=Tryz.zeroValue280
  t70:=Tryz.underlying185
  a70:=Tryz.isAgg185
  z70:=Tryz.sizeOf185
  v70:=Tryz.zeroValue185
  t76:=Tryz.underlying326
  a76:=Tryz.isAgg326
  z76:=Tryz.sizeOf326
  v76:=Tryz.zeroValue326
  t77:=Tryz.underlying327
  a77:=Tryz.isAgg327
  z77:=Tryz.sizeOf327
  v77:=Tryz.zeroValue327 }
end Go.Proofs
namespace Go.Proofs.YtfjcabalehamcaaGreatDoor
open Go Go.Sx Go.Proofs Tryz
attribute [local irreducible] Code.wp wpList wpAnyH
open Go.Vs
theorem eqKy2 (p q:Ky) (w:World):(Op.equalIn 10000 245 (Ky.val p) (Ky.val q)).run prog w=.ok (decide (p=q)) w:=by
  have h:=run_equalIn_struct (P:=prog) w 9999 245 (Ky.cells p).toArray (Ky.cells q).toArray (by simp only[Program.fieldsOf,underlying245]) Tryz.stoodInHeld245;refine h.trans ?_;rw[<-Ky.eqb_eq];simp only[Program.fieldsOf,underlying245];exact bD_ rfl au_ rfl rfl (eqI o_ w) (bD_ rfl ae_ rfl rfl (eqS av_ w) (bD_ rfl ae_ rfl rfl (eqS av_ w) (kr_ w)))
theorem okKy2 (p:Ky):hP_ prog 245 (Ky.val p):=λe w=>by
 have hi:∀ (n:Int) (w:World),(Instr.checkKey e (9998+1) 3 (.int .i64 n)).run prog w=.ok () w:=λn w=>MapKept.run_checkKey (d:=.int .i64) o_ zbq_ e 9998
 have v:∀ (n:Str) (w:World),(Instr.checkKey e (9998+1) 9 (str n)).run prog w=.ok () w:=λn w=>MapKept.run_checkKey (d:=.string) av_ zaT_ e 9998
 refine ckF (n:=9999) underlying245 λf m=>?_;simp only[yan_,yaJ_,ybG_]at m;rcases m with rfl|rfl|rfl
 .exact⟨rfl,au_,_,rfl,hi _⟩
 .exact⟨rfl,ae_,_,rfl,v _⟩
 exact⟨rfl,ae_,_,rfl,v _⟩
theorem is_:KeyT prog 245 Ky.val:=fo_ (K:=Ky) underlying245 okKy2 (λp q w=>eqKy2 p q w) λk=>im_ (l:=Ky.cells k) λv d=>by
 simp only[Ky.cells,yan_,yaJ_,ybG_]at d;rcases d with rfl|rfl|rfl
 .exact dY_ _ _
 .exact cF_ _ _
 exact cF_ _ _
theorem kt_:Elt prog 44 3 1 8:=gA_ ok_ (z:=i4_ 0) zad_ rfl zac_
theorem uk_:Elt prog 117 173 9 112:=gA_ underlying117 (z:=.agg #[i4_ 0,i4_ 0,str [],str [],str [],i4_ 0,i4_ 0,i4_ 0,.slice none 0 0]) zad_ rfl zac_
theorem ho_:fH_ prog 245 [(0,1),(1,1),(2,1)] [i4_ 0,str [],str []]:=⟨_,zeroValue245,runUnderlying245,λw=>by simp[K_,U_]⟩
theorem yW_:fH_ prog 238 [(0,1),(1,1),(2,1),(3,1),(4,1),(5,1),(6,1),(7,1),(8,1),(9,1)] [.slice none 0 0,.map none,.slice none 0 0,.map none,.map none,.map none,.map none,.map none,.map none,.map none]:=⟨_,zeroValue238,runUnderlying238,λw=>by simp[cj_,wy_,sizeOf233,sizeOf234,sizeOf235,sizeOf236]⟩
theorem yZ_:fH_ prog 173 [(0,1),(1,6),(7,1),(8,1)] [i4_ 0,i4_ 0,str [],str [],str [],i4_ 0,i4_ 0,i4_ 0,.slice none 0 0]:=⟨_,dV_,runUnderlying173,λw=>by simp[K_,AK_,N_]⟩
theorem Stp.cells_one (s:Stp):s.cells.all Value.oneCell'=true:=rfl
def RecR {K:Type} [DecidableEq K] (ks:List K) (vs:List Int) (k:K) (n m:Int):Prop:=(k∈ks->∃ i:Nat,ks[i]? = some k/\vs[i]? = some m)/\(k ∉ ks->m=n)
theorem wM_ (k:Fc) (n:Int) (ks:List Fc) (vs:List Int) (E:Nat) (es:Array MapEntry) (c:Nat) (hE:IntE Fc.val es ks vs):Tri prog 165 #[.map (some E),Fc.val k,i4_ n] [(E,.map es c)] [] (λy:{y:(Bool×Int)×Array MapEntry×Nat // decide (k ∉ ks)=y.1.1/\RecR ks vs k n y.1.2/\IntE Fc.val y.2.1 (if k∈ks then ks else ks++[k]) (if k∈ks then vs else vs++[n])}=>.tuple #[.bool y.1.1.1,i4_ y.1.1.2]) (λy=>[(E,.map y.1.2.1 y.1.2.2)]) (λ_=>[]):=by
 refine g_ func165 rfl rfl ntmps165 rfl λF=>?_;refine Zz 2 ?_;refine F_ rfl rfl λG=>Zz 9 ?_
 refine kP_ (k:=k) gy_ runUnderlying234 aN_ rfl rfl hE zp rfl λB A d m=>Zz 12 ?_
 cases B
 .replace d:=zdf d
  refine Zz 8 ?_;refine nj_ (k:=k) 1 gy_ (.inr rfl) runUnderlying234 rfl rfl rfl rfl hE zae_ λx v C=>Zz 10 ?_
  exact hQ_ results165 ⟨((true,n),x,v),by simp[*],⟨λq=>absurd q zae_,λ_=>rfl⟩,by rw[yaf_ zae_,yaf_ zae_];exact C⟩ rfl rfl rfl (c_ d_) zt
 replace d:=zdt d;refine Zz 9 ?_;exact hQ_ results165 ⟨((false,A),es,c),by simp[*],⟨λ_=>m rfl,λq=>absurd zae_ q⟩,by rw[yaq_ zae_,yaq_ zae_];exact hE⟩ rfl rfl rfl zp zt
theorem recP_c (k:Pc) (n:Int) (ks:List Pc) (vs:List Int) (E:Nat) (es:Array MapEntry) (c:Nat) (hE:IntE Pc.val es ks vs):Tri prog 155 #[.map (some E),Pc.val k,i4_ n] [(E,.map es c)] [] (λy:{y:(Bool×Int)×Array MapEntry×Nat // decide (k ∉ ks)=y.1.1/\RecR ks vs k n y.1.2/\IntE Pc.val y.2.1 (if k∈ks then ks else ks++[k]) (if k∈ks then vs else vs++[n])}=>.tuple #[.bool y.1.1.1,i4_ y.1.1.2]) (λy=>[(E,.map y.1.2.1 y.1.2.2)]) (λ_=>[]):=by
 refine g_ func155 rfl rfl ntmps155 rfl λF=>?_;refine Zz 2 ?_;refine F_ rfl rfl λG=>Zz 9 ?_
 refine kP_ (k:=k) pE_ runUnderlying239 aN_ rfl rfl hE zp rfl λB A d m=>Zz 12 ?_
 cases B
 .replace d:=zdf d
  refine Zz 8 ?_;refine nj_ (k:=k) 1 pE_ (.inr rfl) runUnderlying239 rfl rfl rfl rfl hE zae_ λx v C=>Zz 10 ?_
  exact hQ_ results155 ⟨((true,n),x,v),by simp[*],⟨λq=>absurd q zae_,λ_=>rfl⟩,by rw[yaf_ zae_,yaf_ zae_];exact C⟩ rfl rfl rfl (c_ d_) zt
 replace d:=zdt d;refine Zz 9 ?_;exact hQ_ results155 ⟨((false,A),es,c),by simp[*],⟨λ_=>m rfl,λq=>absurd zae_ q⟩,by rw[yaq_ zae_,yaq_ zae_];exact hE⟩ rfl rfl rfl zp zt
structure PB where
  g:Nat
  pb:Nat
  kb:Nat
  ab:Nat
  ub:Nat
  ob:Nat
  ib:Nat
  rb:Nat
  sb:Nat
  pad:Ao
  pcap:Nat
def gpF (B:PB) (p:List Pc) (u:Value):List Value:=[.slice B.pad p.length B.pcap,.map (some B.pb),u,.map (some B.kb),.map (some B.ab),.map (some B.ub),.map (some B.ob),.map (some B.ib),.map (some B.rb),.map (some B.sb)]
structure PSt where
  sv:Value
  es:Array MapEntry
  c:Nat
  h:Hp
def PSt.ok (y:PSt) (l:List Stp):Prop:=zR 173 9 Stp.cells y.sv l y.h/\IntE Fc.val y.es (fcs l) (iot l.length)
def PSt.own (B:PB) (p:List Pc) (y:PSt):Hp:=(B.g,.cells #[.slice B.pad p.length B.pcap,.map (some B.pb),y.sv,.map (some B.kb),.map (some B.ab),.map (some B.ub),.map (some B.ob),.map (some B.ib),.map (some B.rb),.map (some B.sb)] 238 (0,0))::(B.kb,.map y.es y.c)::y.h
theorem lh_ {G:Prop} (h:G:=by
 refine H_ zs (l_ 11 rfl zk (am_ (news:=List.flatMap Stp.cells [(Stp.mk rule f piece fad fcap fr)]) uk_ L rfl rfl zp rfl (ba_ 0 rfl) (λu O=>aG_ Stp.cells_one O) zaB_ zap_ rfl λF H I=>?_));refine t_ yax_ ?_;have x:=zsa I;refine Zz 2 ?_;refine H_ (λ_ a b=>⟨Vw.sat.sub (a.perm (c_ (c_ d_))),b⟩) (s_ 1 [12,13] zk (λ_ a b=>⟨Vw.sat.sub (a.perm (c_ (c_ d_))),b⟩) (Zz 3 ?_));refine l_ 14 rfl zk (dm_ 3 x wy_ rfl rfl rfl rfl (Zz 2 ?_));refine H_ (λ_ a b=>⟨Vw.sat.sub (a.perm (c_ (c_ d_))),b⟩) (Zz 2 ?_);have A:me_ l (Stp.mk rule f piece fad fcap fr)=(l++[(Stp.mk rule f piece fad fcap fr)]):=yaf_ zae_;rw[yaf_ zae_,yaf_ zae_]at d;exact bK_ results157 ⟨((l++[(Stp.mk rule f piece fad fcap fr)]),⟨F,E,C,H⟩),A.symm,⟨x,(by rw[dL_,yaj_];show IntE _ _ _ (iot (l.length+1));rw[xG_];exact d)⟩⟩ rfl (m_ (c_ (c_ (c_ d_))) (m_ (c_ d_) (c_ E_))) (λv _ h=>by exact⟨sn_ h.1 h.2.1,trivial⟩)):G:=h
theorem tv_ (B:PB) (p:List Pc) (rule piece:Int) (f:Fc) (fad:Ao) (fcap:Nat) (fr:List Int) (l:List Stp) (sv:Value) (es:Array MapEntry) (c:Nat) (Hr:Hp) (L:zR 173 9 Stp.cells sv l Hr) (Q:IntE Fc.val es (fcs l) (iot l.length)) (hl:l.length<=100000000):Tri prog 157 #[zp_ B.g 0,i4_ rule,Fc.val f,i4_ piece,.slice fad fr.length fcap] ((B.g,.cells #[.slice B.pad p.length B.pcap,.map (some B.pb),sv,.map (some B.kb),.map (some B.ab),.map (some B.ub),.map (some B.ob),.map (some B.ib),.map (some B.rb),.map (some B.sb)] 238 (0,0))::(B.kb,.map es c)::Hr) [bY_ l,L_ fad (fr.flatMap aY_)] (λ_:{y:List Stp×PSt // y.1=me_ l (Stp.mk rule f piece fad fcap fr)/\y.2.ok y.1}=>.tuple #[]) (λy=>y.1.2.own B p) (λy=>[bY_ y.1.1]):=by
 refine g_ func157 rfl rfl ntmps157 rfl λR=>?_;refine Zz 2 ?_;refine F_ rfl rfl λK=>Zz 3 ?_
 refine V_ ((K,.cells #[i4_ f.kind,str f.a,str f.b,str f.r,i4_ f.lo,i4_ f.hi] 87 (0,0))::((B.g,.cells #[.slice B.pad p.length B.pcap,.map (some B.pb),sv,.map (some B.kb),.map (some B.ab),.map (some B.ub),.map (some B.ob),.map (some B.ib),.map (some B.rb),.map (some B.sb)] 238 (0,0))::Hr)) zk ?_;refine s_ 6 [0,1,2,3,4,5,6,7,8,9] zk zs (Zz 9 ?_);refine S_ rfl (bU_ L aT_ rfl) rfl (bt_ (l_ 10 rfl zk (f_ (wM_ f (List.length l:Int) (fcs l) (iot l.length) B.kb es c Q) rfl zp zt rfl λ⟨⟨⟨J,P⟩,E,C⟩,m,M,d⟩=>?_)));dsimp only;simp only[yav_,ybC_];refine Zz 2 ?_;refine H_ zs (s_ 0 [11,12,13,14,15] zk zs (Zz 13 ?_));cases J
 .replace m:=zdf m
  refine Zz 3 ?_;have G:f∈fcs l:=Decidable.not_not.1 zae_;have A:me_ l (Stp.mk rule f piece fad fcap fr)=l:=yaq_ G;rw[yaq_ G,yaq_ G]at d;exact bK_ results157 ⟨(l,⟨sv,E,C,Hr⟩),A.symm,⟨L,d⟩⟩ rfl (m_ (c_ (c_ d_)) (m_ d_ E_)) zf
 replace m:=zdt m;refine bG_ rfl ?_;refine V_ ((K,.cells #[i4_ f.kind,str f.a,str f.b,str f.r,i4_ f.lo,i4_ f.hi] 87 (0,0))::[]) zk ?_;refine s_ 6 [0,1,2,3,5,6,7,8,9] zk zs (Zz 8 ?_);refine S_ rfl (w_ yZ_ rfl rfl) rfl (bt_ ?_);refine do_ 4 10 rfl rfl zk ?_ ?_
 .refine Zz 3 ?_
  refine H_ zs (l_ 10 rfl zk (M_ aT_ bv_ dV_ rfl rfl rfl rfl rfl rfl λN=>Zz 2 ?_));exact lh_
 refine M_ aT_ bv_ dV_ rfl rfl rfl rfl rfl rfl λN=>Zz 2 ?_
 refine H_ zs (l_ 4 rfl zk (Zz 3 ?_));exact lh_
theorem mN_ (a b:Str):Fn0 prog 152 #[str a,str b] (Fc.val (Q_ a b)):=by
  refine g_ func152 rfl rfl ntmps152 rfl λA=>?_;refine Zz 2 ?_;refine u_ W_ rfl λy=>Zz 6 ?_
  refine e_ (w_ jo_ rfl rfl) rfl (n_ 0 N_ rfl rfl rfl rfl rfl rfl (Zz 3 ?_));exact dI_ () (λx v m d=>cu_ (us:=Fc.cells (Q_ a b)) 0 results152 cp_ N_ rfl rfl rfl x v m d) i_ zt
theorem putP_c (x:Pc) (n:Int) (d at':Str) (fm:List (Ky×Int)) (E G F:Nat) (g pb:Nat) (N L c3 c4 c5 c6 c7 c8 c9:Value) (V:Hp) (hm:cs_ Ky.val aY_ 3 1 fm pb V) (I:fm.length<=100000000):Tri prog 217 #[str d,str at',zp_ E 0,zp_ G 0,zp_ F 0] ((E,.cells #[i4_ x.kind,str x.a,str x.b,str x.c,str x.r,str x.s,str x.t,i4_ x.lo,i4_ x.hi,i4_ x.frm] 32 (0,0))::(G,.cells #[zp_ g 0] 166 (0,0))::(F,.cells #[i4_ n] 3 (0,0))::(g,.cells #[N,.map (some pb),L,c3,c4,c5,c6,c7,c8,c9] 238 (0,0))::V) [] (λ_:{H:Hp // cs_ Ky.val aY_ 3 1 (fm++[((Ky.mk x.kind d at'),n)]) pb H}=>.tuple #[]) (λy=>(E,.cells #[i4_ x.kind,str x.a,str x.b,str x.c,str x.r,str x.s,str x.t,i4_ x.lo,i4_ x.hi,i4_ x.frm] 32 (0,0))::(G,.cells #[zp_ g 0] 166 (0,0))::(F,.cells #[i4_ n] 3 (0,0))::(g,.cells #[N,.map (some pb),L,c3,c4,c5,c6,c7,c8,c9] 238 (0,0))::y.1) (λ_=>[]):=by
  refine g_ func217 rfl rfl ntmps217 rfl λZ=>?_;refine Zz 6 ?_;refine e_ (w_ ho_ rfl rfl) rfl (u_ zeroValue245 rfl λM=>n_ 0 sizeOf245 rfl rfl rfl rfl rfl rfl (Zz 2 ?_));refine V_ ((M,.cells #[i4_ x.kind,str d,str at'] 245 (0,0))::((E,.cells #[i4_ x.kind,str x.a,str x.b,str x.c,str x.r,str x.s,str x.t,i4_ x.lo,i4_ x.hi,i4_ x.frm] 32 (0,0))::((G,.cells #[zp_ g 0] 166 (0,0))::((F,.cells #[i4_ n] 3 (0,0))::((g,.cells #[N,.map (some pb),L,c3,c4,c5,c6,c7,c8,c9] 238 (0,0))::[]))))) zk ?_;refine s_ 6 [0,1,2,3,4,5] zk zs (Zz 7 ?_);refine l_ 6 rfl zk (M_ J_ K_ aN_ rfl rfl rfl rfl rfl rfl λY=>Zz 3 ?_);refine l_ 7 rfl zk ?_;have K:=ybv_ (eB_ fm (Ky.mk x.kind d at')) I;refine eT_ (k:=(Ky.mk x.kind d at')) is_ hm dM_ cz_ rfl rfl (c_ (c_ (c_ (c_ (c_ E_))))) rfl λO S P U X Q T C m=>Zz 2 ?_
  refine H_ (λ_ a b=>⟨Vw.sat.sub (a.perm (m_ (c_ (j_ (j_ (c_ d_)))) (m_ (c_ (j_ (j_ (c_ d_)))) (m_ (c_ (j_ (j_ (c_ d_)))) (m_ (c_ (j_ (j_ (c_ d_)))) (c_ (j_ (j_ (c_ d_))))))))),b⟩) (s_ 2 [8,10] zk (λ_ a b=>⟨Vw.sat.sub (a.perm (m_ (c_ (j_ (j_ (c_ d_)))) (m_ (c_ (j_ (j_ (c_ d_)))) (m_ (c_ (j_ (j_ (c_ d_)))) (m_ (c_ (j_ (j_ (c_ d_)))) (c_ (j_ (j_ (c_ d_))))))))),b⟩) (Zz 3 ?_));refine l_ 9 rfl zk (am_ (news:=List.flatMap aY_ [n]) kt_ m rfl rfl zp rfl (eR_ zp) (λu hu=>aG_ iu_ hu) zaj_ zaa_ rfl λR W v=>?_);have B:=zsa v;refine Zz 2 ?_;refine H_ (λ_ a b=>⟨Vw.sat.sub (a.perm (m_ (j_ (c_ (j_ (c_ d_)))) (m_ (j_ (c_ (j_ (c_ d_)))) (m_ (j_ (c_ (j_ (c_ d_)))) (m_ (j_ (c_ (j_ (c_ d_)))) (j_ (c_ (j_ (c_ d_))))))))),b⟩) (l_ 11 rfl zk (cH_ (k:=(Ky.mk x.kind d at')) (dd:=n) C (by rw[ec_];exact B) rfl rfl rfl (eb_ (m_ (j_ d_) (G_ x_ x_))) λJ A=>?_));refine Zz 2 ?_;refine H_ (λ_ a b=>⟨Vw.sat.sub (a.perm (m_ (j_ (c_ d_)) (m_ (j_ (c_ d_)) (m_ (j_ (c_ d_)) (m_ (j_ (c_ d_)) (j_ (c_ d_))))))),b⟩) (Zz 2 ?_);exact bK_ results217 ⟨J,A⟩ rfl zp zt
structure PNew where
  b:PB
  fm:List (Ky×Int)
  hm:Hp
def PNew.ok (p:List Pc) (y:PNew):Prop:=Fnd p y.fm/\cs_ Ky.val aY_ 3 1 y.fm y.b.pb y.hm
def PNew.own (p:List Pc) (y:PNew):Hp:=(y.b.g,.cells #[.slice y.b.pad p.length y.b.pcap,.map (some y.b.pb),.slice none 0 0,.map (some y.b.kb),.map (some y.b.ab),.map (some y.b.ub),.map (some y.b.ob),.map (some y.b.ib),.map (some y.b.rb),.map (some y.b.sb)] 238 (0,0))::(y.b.kb,.map #[] 0)::(y.b.ab,.map #[] 0)::(y.b.ub,.map #[] 0)::(y.b.ob,.map #[] 0)::(y.b.ib,.map #[] 0)::(y.b.rb,.map #[] 0)::(y.b.sb,.map #[] 0)::y.hm
theorem lr_ {G:Prop} (h:G:=by
 refine iZ_ (jQ_ (F:=(gpF B p)) (kb_ d_ (c_ d_)) λv a b=>b.2) (l_ 15 rfl zk (f_ (tv_ B p 3 (W:Int) (Q_ f.a R.c) (some ⟨a7,0,none⟩) 1 [(n:Int)] G L.sv L.es L.c L.h J.1 J.2 (ybv_ (hB _ I) zac_)) rfl zp zf rfl λ⟨⟨O,a9⟩,E,Z⟩=>?_));dsimp only;simp only[PSt.own,yav_];have Y:Eng p A O:=qk_ E I (cor3 hk1 C V (hAt.pre ((ybq_ l).trans H)));have N:G <+: O:=qi_ E;have M:=qj_ E;dsimp only at M;refine Zz 2 ?_;refine iZ_ (jQ_ (F:=(gpF B p)) (kb_ d_ (c_ bg_)) λv a b=>b.2.2) (Zz 2 ?_);refine t_ (X_ d_ (X_ d_ (be_ bg_))) (Zz 5 ?_);exact C_ ⟨(i+1,O,a9),T,Z,Y,(H.trans ((ybq_ G).trans N)),(Q.step (λx hx=>fC_ ((ybq_ G).trans N) hx) P C (by exact M))⟩ zab_ zl zp zf):G:=h
theorem tg_ (B:PB) (p:List Pc) (A:List Str) (fm:List (Ky×Int)) (d:Ky->Ao×Nat) (hk1:∀ z∈p,z.kind=1) (X:Fnd p fm) (hpl:p.length<=16384) (n:Nat) (f:Fc) (l:List Stp) (y:PSt) (hS:y.ok l) (hE:Eng p A l) (hB:∀ l,Eng p A l->l.length<=65536) (hn:n<65536) (hAt:At l n (Q_ f.a f.b)):Tri prog 158 #[zp_ B.g 0,Fc.val f,i4_ n] (y.own B p) [L_ B.pad (p.flatMap Pc.cells),mlF prog 245 Ky.val aY_ B.pb fm d,bY_ l] (λ_:{y:List Stp×PSt // y.2.ok y.1/\Eng p A y.1/\l <+: y.1/\Und p fm ⟨1,[],f.b⟩ (λx=>Q_ f.a x.c∈fcs y.1)}=>.tuple #[]) (λy=>y.1.2.own B p) (λy=>[bY_ y.1.1]):=by
 refine g_ func158 rfl rfl ntmps158 rfl λv_1=>?_;refine Zz 2 ?_;refine F_ rfl rfl λK=>Zz 5 ?_
 refine s_ 0 [0,1,2,3,4,5,6,7,8,9] zk zs (Zz 6 ?_);refine S_ rfl (w_ ho_ rfl rfl) rfl (S_ rfl (bi_ (k:=(Ky.mk 1 [] f.b)) (adr:=d) is_ dM_ cz_ rfl rfl zf) rfl (Zz 6 ?_));let Pu:Nat×Obj:=(K,.cells #[i4_ f.kind,str f.a,str f.b,str f.r,i4_ f.lo,i4_ f.hi] 87 (0,0));refine I_ (ι:={y:Nat×List Stp×PSt // y.1<=List.length (lat fm (Ky.mk 1 [] f.b))/\y.2.2.ok y.2.1/\Eng p A y.2.1/\l <+: y.2.1/\iF_ p (lat fm (Ky.mk 1 [] f.b)) y.1 (λx=>Q_ f.a x.c∈fcs y.2.1)}) (λy=>[(0,zp_ B.g 0),(2,i4_ n),(4,zp_ K 0),(27,.slice (Prod.fst (d (Ky.mk 1 [] f.b))) (lat fm (Ky.mk 1 [] f.b)).length (Prod.snd (d (Ky.mk 1 [] f.b)))),(28,i4_ (List.length (lat fm (Ky.mk 1 [] f.b)):Int)),(29,i4_ y.1.1)]) (λy=>((B.g,.cells #[.slice B.pad p.length B.pcap,.map (some B.pb),y.1.2.2.sv,.map (some B.kb),.map (some B.ab),.map (some B.ub),.map (some B.ob),.map (some B.ib),.map (some B.rb),.map (some B.sb)] 238 (0,0))::((B.kb,.map y.1.2.2.es y.1.2.2.c)::(Pu::y.1.2.2.h)))) (λy=>[bY_ y.1.2.1,L_ B.pad (p.flatMap Pc.cells),mlF prog 245 Ky.val aY_ B.pb fm d]) (λy=>List.length (lat fm (Ky.mk 1 [] f.b)) - y.1.1) ⟨((0:Nat),l,y),by simp,by exact hS,by exact hE,ybq_ _,(iF_.zero)⟩ zl zp zf ?_;rintro ⟨⟨i,G,L⟩,hi_i,J,I,H,Q⟩;dsimp only at hi_i J I H Q ⊢;have hb_i:=ybv_ (ybv_ (eB_ fm (Ky.mk 1 [] f.b)) X.len) hpl;refine Zi 2 (λhr_1=>?_) λhr_1=>?_
 .refine Zz 9 ?_
  refine s_ 0 [0,1,2,3,4,5,6,7,8,9] zk zs (Zz 6 ?_);refine S_ rfl (w_ ho_ rfl rfl) rfl (S_ rfl (bi_ (k:=(Ky.mk 2 [] f.b)) (adr:=d) is_ dM_ cz_ rfl rfl zf) rfl (Zz 6 ?_));refine I_ (ι:={y:Nat×List Stp×PSt // y.1<=List.length (lat fm (Ky.mk 2 [] f.b))/\y.2.2.ok y.2.1/\Eng p A y.2.1/\G <+: y.2.1/\iF_ p (lat fm (Ky.mk 2 [] f.b)) y.1 (λx=>Q_ f.a x.c∈fcs y.2.1)}) (λy=>[(0,zp_ B.g 0),(2,i4_ n),(4,zp_ K 0),(27,.slice (Prod.fst (d (Ky.mk 1 [] f.b))) (lat fm (Ky.mk 1 [] f.b)).length (Prod.snd (d (Ky.mk 1 [] f.b)))),(28,i4_ (List.length (lat fm (Ky.mk 1 [] f.b)):Int)),(29,i4_ i),(57,.slice (Prod.fst (d (Ky.mk 2 [] f.b))) (lat fm (Ky.mk 2 [] f.b)).length (Prod.snd (d (Ky.mk 2 [] f.b)))),(58,i4_ (List.length (lat fm (Ky.mk 2 [] f.b)):Int)),(59,i4_ y.1.1)]) (λy=>((B.g,.cells #[.slice B.pad p.length B.pcap,.map (some B.pb),y.1.2.2.sv,.map (some B.kb),.map (some B.ab),.map (some B.ub),.map (some B.ob),.map (some B.ib),.map (some B.rb),.map (some B.sb)] 238 (0,0))::((B.kb,.map y.1.2.2.es y.1.2.2.c)::(Pu::y.1.2.2.h)))) (λy=>[bY_ y.1.2.1,L_ B.pad (p.flatMap Pc.cells),mlF prog 245 Ky.val aY_ B.pb fm d]) (λy=>List.length (lat fm (Ky.mk 2 [] f.b)) - y.1.1) ⟨((0:Nat),G,L),by simp,by exact J,by exact I,ybq_ _,(iF_.zero)⟩ zl zp zh ?_;rintro ⟨⟨j,l_j,y_j⟩,hi_j,a2,a1,a0,b1⟩;dsimp only at hi_j a2 a1 a0 b1 ⊢;refine Zi 2 (λhr_2=>?_) λhr_2=>?_
  .refine Zz 9 ?_
   refine s_ 0 [0,1,2,3,4,5,6,7,8,9] zk zs (Zz 6 ?_);refine S_ rfl (w_ ho_ rfl rfl) rfl (S_ rfl (bi_ (k:=(Ky.mk 3 [] f.b)) (adr:=d) is_ dM_ cz_ rfl rfl zf) rfl (Zz 6 ?_));refine I_ (ι:={y:Nat×List Stp×PSt // y.1<=List.length (lat fm (Ky.mk 3 [] f.b))/\y.2.2.ok y.2.1/\Eng p A y.2.1/\l_j <+: y.2.1/\iF_ p (lat fm (Ky.mk 3 [] f.b)) y.1 (λx=>Q_ f.a x.c∈fcs y.2.1)}) (λy=>[(0,zp_ B.g 0),(2,i4_ n),(4,zp_ K 0),(27,.slice (Prod.fst (d (Ky.mk 1 [] f.b))) (lat fm (Ky.mk 1 [] f.b)).length (Prod.snd (d (Ky.mk 1 [] f.b)))),(28,i4_ (List.length (lat fm (Ky.mk 1 [] f.b)):Int)),(29,i4_ i),(57,.slice (Prod.fst (d (Ky.mk 2 [] f.b))) (lat fm (Ky.mk 2 [] f.b)).length (Prod.snd (d (Ky.mk 2 [] f.b)))),(58,i4_ (List.length (lat fm (Ky.mk 2 [] f.b)):Int)),(59,i4_ j),(119,.slice (Prod.fst (d (Ky.mk 3 [] f.b))) (lat fm (Ky.mk 3 [] f.b)).length (Prod.snd (d (Ky.mk 3 [] f.b)))),(120,i4_ (List.length (lat fm (Ky.mk 3 [] f.b)):Int)),(121,i4_ y.1.1)]) (λy=>((B.g,.cells #[.slice B.pad p.length B.pcap,.map (some B.pb),y.1.2.2.sv,.map (some B.kb),.map (some B.ab),.map (some B.ub),.map (some B.ob),.map (some B.ib),.map (some B.rb),.map (some B.sb)] 238 (0,0))::((B.kb,.map y.1.2.2.es y.1.2.2.c)::(Pu::y.1.2.2.h)))) (λy=>[bY_ y.1.2.1,L_ B.pad (p.flatMap Pc.cells),mlF prog 245 Ky.val aY_ B.pb fm d]) (λy=>List.length (lat fm (Ky.mk 3 [] f.b)) - y.1.1) ⟨((0:Nat),l_j,y_j),by simp,by exact a2,by exact a1,ybq_ _,(iF_.zero)⟩ zl zp zh ?_;rintro ⟨⟨k,b3,y_k⟩,b0,a5,a3,S,hu_k⟩;dsimp only at b0 a5 a3 S hu_k ⊢;refine Zi 2 (λhr_3=>?_) λhr_3=>?_
   .refine Zz 8 ?_
    refine s_ 0 [0,1,2,3,4,5,6,7,8,9] zk zs (Zz 6 ?_);refine S_ rfl (w_ ho_ rfl rfl) rfl (S_ rfl (bi_ (k:=(Ky.mk 8 [] f.b)) (adr:=d) is_ dM_ cz_ rfl rfl zf) rfl (Zz 6 ?_));refine I_ (ι:={y:Nat×List Stp×PSt // y.1<=List.length (lat fm (Ky.mk 8 [] f.b))/\y.2.2.ok y.2.1/\Eng p A y.2.1/\b3 <+: y.2.1/\iF_ p (lat fm (Ky.mk 8 [] f.b)) y.1 (λx=>Q_ f.a x.c∈fcs y.2.1)}) (λy=>[(0,zp_ B.g 0),(2,i4_ n),(4,zp_ K 0),(27,.slice (Prod.fst (d (Ky.mk 1 [] f.b))) (lat fm (Ky.mk 1 [] f.b)).length (Prod.snd (d (Ky.mk 1 [] f.b)))),(28,i4_ (List.length (lat fm (Ky.mk 1 [] f.b)):Int)),(29,i4_ i),(57,.slice (Prod.fst (d (Ky.mk 2 [] f.b))) (lat fm (Ky.mk 2 [] f.b)).length (Prod.snd (d (Ky.mk 2 [] f.b)))),(58,i4_ (List.length (lat fm (Ky.mk 2 [] f.b)):Int)),(59,i4_ j),(119,.slice (Prod.fst (d (Ky.mk 3 [] f.b))) (lat fm (Ky.mk 3 [] f.b)).length (Prod.snd (d (Ky.mk 3 [] f.b)))),(120,i4_ (List.length (lat fm (Ky.mk 3 [] f.b)):Int)),(121,i4_ k),(157,.slice (Prod.fst (d (Ky.mk 8 [] f.b))) (lat fm (Ky.mk 8 [] f.b)).length (Prod.snd (d (Ky.mk 8 [] f.b)))),(158,i4_ (List.length (lat fm (Ky.mk 8 [] f.b)):Int)),(159,i4_ y.1.1)]) (λy=>((B.g,.cells #[.slice B.pad p.length B.pcap,.map (some B.pb),y.1.2.2.sv,.map (some B.kb),.map (some B.ab),.map (some B.ub),.map (some B.ob),.map (some B.ib),.map (some B.rb),.map (some B.sb)] 238 (0,0))::((B.kb,.map y.1.2.2.es y.1.2.2.c)::(Pu::y.1.2.2.h)))) (λy=>[bY_ y.1.2.1,L_ B.pad (p.flatMap Pc.cells),mlF prog 245 Ky.val aY_ B.pb fm d]) (λy=>List.length (lat fm (Ky.mk 8 [] f.b)) - y.1.1) ⟨((0:Nat),b3,y_k),by simp,by exact a5,by exact a3,ybq_ _,(iF_.zero)⟩ zl zp zh ?_;rintro ⟨⟨m,l_m,y_m⟩,b2,a4,a6,U,hu_m⟩;dsimp only at b2 a4 a6 U hu_m ⊢;refine Zi 2 (λhr_4=>?_) λhr_4=>?_
    .refine Zz 6 ?_
     exact bK_ results158 ⟨(l_m,y_m),a4,a6,(((((ybq_ l).trans H).trans a0).trans S).trans U),(Q.done zaa_).mono λx hx=>fC_ (a0.trans (S.trans U)) hx⟩ rfl (m_ d_ (m_ d_ E_)) zf
    exfalso;have q:=X.no (k:=(Ky.mk 8 [] f.b)) (show (8:Int)≠1 by decide);omega
   exfalso;have q:=X.no (k:=(Ky.mk 3 [] f.b)) (show (3:Int)≠1 by decide);omega
  exfalso;have q:=X.no (k:=(Ky.mk 2 [] f.b)) (show (2:Int)≠1 by decide);omega
 obtain⟨T,x_1,P,a8⟩:=zge (show i<List.length (lat fm (Ky.mk 1 [] f.b)) by omega);obtain⟨W,R,e_x1,C,V⟩:=X.snd _ _ (cg_.1 a8);subst e_x1;have hlz_x1:W<p.length:=(yab_.1 C).1;refine Zz 10 ?_;refine e_ (Y_ J_ K_ rfl rfl (λv _ h=>az_ (n:=1) bx_ zac_ (by exact (bc_ h.2.2.1 (Ky.mk 1 [] f.b))) P) zaa_ zak_) rfl ?_;refine e_ (bN_ (ad:=(Prod.fst (d (Ky.mk 1 [] f.b)))) au_ rfl (λv _ h=>by exact (bc_ h.2.2.1 (Ky.mk 1 [] f.b))) (y_ bx_ P 0 _ rfl)) rfl (Zz 3 ?_);refine uO_ (wY_ B.g (gpF B p) 238) (Pu::[]) zk ?_;refine AF_ 3 [0,1,2,3,4,5,6,7,8,9,10,12,13] zk (jQ_ (F:=(gpF B p)) (kb_ d_ (c_ d_)) λv a b=>b) (dN_ rfl (aV_ rfl) rfl (dN_ rfl (iJ_ runUnderlying87 rfl rfl rfl U_) rfl (dN_ rfl (cc_ 0 ae_ rfl rfl rfl) rfl (dN_ rfl (aV_ rfl) rfl (dN_ rfl (kD_ rfl) rfl (dN_ rfl (iJ_ runUnderlying238 rfl rfl rfl cj_) rfl (dN_ rfl (ux_ (F:=(gpF B p)) isAgg27 rfl zf (λ_=>rfl)) rfl (dN_ rfl (aV_ rfl) rfl ?_))))))));refine dN_ rfl (Y_ z_ A_ rfl rfl (λv _ h=>az_ (n:=10) Pc.cells_len zac_ (by exact h.2.2.1) C) zaa_ zak_) rfl ?_;refine dN_ rfl (mE_ runUnderlying32 rfl rfl rfl U_) rfl (dN_ rfl (bN_ (ad:=B.pad) ae_ rfl zf (y_ Pc.cells_len C 3 _ rfl)) rfl (dN_ rfl (aV_ rfl) rfl (dN_ rfl (aV_ rfl) rfl (ze_ ?_))));refine do_ 11 14 rfl rfl zk ?_ ?_
 .refine f_ (mN_ f.a R.c) rfl i_ zt rfl λ_=>Zz 2 ?_
  refine iZ_ (jQ_ (F:=(gpF B p)) (kb_ d_ (c_ d_)) λv a b=>b) (l_ 14 rfl zk (M_ J_ K_ aN_ rfl rfl rfl rfl rfl rfl λa7=>?_));refine aL_ (List.flatMap aY_ [(n:Int)]) d_ rfl ?_;refine Zz 2 ?_;exact lr_
 refine M_ J_ K_ aN_ rfl rfl rfl rfl rfl rfl λa7=>?_;refine aL_ (List.flatMap aY_ [(n:Int)]) d_ rfl ?_;refine Zz 2 ?_;refine iZ_ (jQ_ (F:=(gpF B p)) (kb_ d_ (c_ d_)) λv a b=>b.2) (l_ 11 rfl zk (f_ (mN_ f.a R.c) rfl i_ zt rfl λ_=>Zz 2 ?_));exact lr_
theorem rK_ (B:PB) (p:List Pc) (fm:List (Ky×Int)) (d:Ky->Ao×Nat) (m:Str->Ao×Nat) (G:Fnd p fm) (I:p.length<=16384) (n:Nat) (f:Fc) (sv:Value) (J:n<65536):Tri prog 159 #[zp_ B.g 0,Fc.val f,i4_ n] [(B.g,.cells #[.slice B.pad p.length B.pcap,.map (some B.pb),sv,.map (some B.kb),.map (some B.ab),.map (some B.ub),.map (some B.ob),.map (some B.ib),.map (some B.rb),.map (some B.sb)] 238 (0,0))] [mlF prog 245 Ky.val aY_ B.pb fm d,mlF prog 9 str aY_ B.ub ([]:List (Str×Int)) m] (λ_:Unit=>.tuple #[]) (λ_=>[(B.g,.cells #[.slice B.pad p.length B.pcap,.map (some B.pb),sv,.map (some B.kb),.map (some B.ab),.map (some B.ub),.map (some B.ob),.map (some B.ib),.map (some B.rb),.map (some B.sb)] 238 (0,0))]) (λ_=>[]):=by
 refine g_ func159 rfl rfl ntmps159 rfl λH=>?_;refine Zz 2 ?_;refine F_ rfl rfl λv=>Zz 5 ?_
 refine s_ 0 [0,1,2,3,4,5,6,7,8,9] zk zs (Zz 6 ?_);refine S_ rfl (w_ ho_ rfl rfl) rfl (S_ rfl (bi_ (k:=(Ky.mk 4 [] f.b)) (adr:=d) is_ dM_ cz_ rfl rfl zf) rfl (Zz 6 ?_));let Pu:Hp:=((v,.cells #[i4_ f.kind,str f.a,str f.b,str f.r,i4_ f.lo,i4_ f.hi] 87 (0,0))::((B.g,.cells #[.slice B.pad p.length B.pcap,.map (some B.pb),sv,.map (some B.kb),.map (some B.ab),.map (some B.ub),.map (some B.ob),.map (some B.ib),.map (some B.rb),.map (some B.sb)] 238 (0,0))::[]));refine I_ (ι:={y:Nat // y<=List.length (lat fm (Ky.mk 4 [] f.b))}) (λy=>[(0,zp_ B.g 0),(2,i4_ n),(4,zp_ v 0),(19,.slice (Prod.fst (d (Ky.mk 4 [] f.b))) (lat fm (Ky.mk 4 [] f.b)).length (Prod.snd (d (Ky.mk 4 [] f.b)))),(20,i4_ (List.length (lat fm (Ky.mk 4 [] f.b)):Int)),(21,i4_ y.1)]) (λy=>Pu) (λy=>[mlF prog 245 Ky.val aY_ B.pb fm d,mlF prog 9 str aY_ B.ub ([]:List (Str×Int)) m]) (λy=>List.length (lat fm (Ky.mk 4 [] f.b)) - y.1) ⟨(0:Nat),by simp⟩ zl zp zh ?_;rintro ⟨i,F⟩;dsimp only at F ⊢;refine Zi 2 (λC=>?_) λC=>?_
 .refine Zi 10 (λE=>?_) λE=>?_
  .refine Zz 5 ?_
   exact bK_ results159 () rfl zp zt
  refine Zz 5 ?_;refine s_ 0 [0,1,2,3,4,5,6,7,8] zk zs (Zz 6 ?_);refine S_ rfl (bi_ (k:=f.a) (adr:=m) hR_ uQ_ cz_ rfl rfl zf) rfl (Zz 6 ?_);refine I_ (ι:={y:Nat // y<=List.length (lat ([]:List (Str×Int)) f.a)}) (λy=>[(0,zp_ B.g 0),(2,i4_ n),(4,zp_ v 0),(19,.slice (Prod.fst (d (Ky.mk 4 [] f.b))) (lat fm (Ky.mk 4 [] f.b)).length (Prod.snd (d (Ky.mk 4 [] f.b)))),(20,i4_ (List.length (lat fm (Ky.mk 4 [] f.b)):Int)),(21,i4_ i),(81,.slice (m f.a).1 (List.length (lat ([]:List (Str×Int)) f.a)) (m f.a).2),(82,i4_ (List.length (lat ([]:List (Str×Int)) f.a):Int)),(83,i4_ y.1)]) (λy=>Pu) (λy=>[mlF prog 245 Ky.val aY_ B.pb fm d,mlF prog 9 str aY_ B.ub ([]:List (Str×Int)) m]) (λy=>List.length (lat ([]:List (Str×Int)) f.a) - y.1) ⟨(0:Nat),by simp⟩ zl zp zh ?_;rintro ⟨k,A⟩;dsimp only at A ⊢;refine Zi 2 (λx=>?_) λx=>?_
  .refine Zz 6 ?_
   exact bK_ results159 () rfl zp zt
  exfalso;have q:(lat ([]:List (Str×Int)) f.a).length=0:=rfl;omega
 exfalso;have q:=G.no (k:=(Ky.mk 4 [] f.b)) (show (4:Int)≠1 by decide);omega
theorem zM_ (B:PB) (p:List Pc) (fm:List (Ky×Int)) (d:Ky->Ao×Nat) (y:Fnd p fm) (m:p.length<=16384) (n:Nat) (f:Fc) (sv:Value) (A:n<65536):Tri prog 159 #[zp_ B.g 0,f.val,i4_ n] [(B.ub,.map #[] 0),(B.g,.cells #[.slice B.pad p.length B.pcap,.map (some B.pb),sv,.map (some B.kb),.map (some B.ab),.map (some B.ub),.map (some B.ob),.map (some B.ib),.map (some B.rb),.map (some B.sb)] 238 (0,0))] [mlF prog 245 Ky.val aY_ B.pb fm d] (λ_:Unit=>.tuple #[]) (λ_=>[(B.ub,.map #[] 0),(B.g,.cells #[.slice B.pad p.length B.pcap,.map (some B.pb),sv,.map (some B.kb),.map (some B.ab),.map (some B.ub),.map (some B.ob),.map (some B.ib),.map (some B.rb),.map (some B.sb)] 238 (0,0))]) (λ_=>[]):=by
  obtain⟨x,k⟩:=cs_.lent (P:=prog) (kt:=9) hR_ (cs_.nil (kv:=str) (cells:=aY_) (e:=3) (sz:=1) B.ub 0);have T:=jN_ (Γ0:=[mlF prog 245 Ky.val aY_ B.pb fm d]) [(B.ub,.map #[] 0)] (rK_ B p fm d x y m n f sv A) (λv hB h=>⟨h.1,k v hB,trivial⟩);simpa using T
theorem lq_ {G:Prop} (h:G:=by
 refine Zz 2 ?_;refine H_ zs (l_ 16 rfl zk (ju_ (k:=(Fc.a s.fact)) (dd:=(n:Int)) hR_ Q (by rw[ec_];exact E) (.inr rfl) uQ_ rfl rfl rfl (eb_ (m_ (j_ (c_ d_)) (G_ x_ (c_ (c_ (c_ (c_ (c_ x_)))))))) λb9 a5=>?_));refine Zz 5 ?_;refine t_ (X_ (j_ d_) (X_ (j_ d_) (X_ (j_ d_) (X_ (j_ d_) (be_ (j_ d_)))))) (Zz 5 ?_);refine f_ (tg_ B p A fm m hk1 M a7 n s.fact F U C d.eng hB T hAt) rfl (m_ (c_ (c_ d_)) (m_ (c_ (c_ d_)) (c_ (c_ (c_ bg_))))) zf rfl λ⟨⟨H,G⟩,O,P,N,L⟩=>?_;dsimp only;simp only[PSt.own,yav_,yap_];have V:F <+: H:=N;refine t_ (X_ d_ (X_ d_ (X_ (j_ d_) (X_ (j_ d_) (be_ (j_ d_)))))) (Zz 6 ?_);refine f_ (zM_ B p fm m M a7 n s.fact G.sv T) rfl zp zf rfl λ_=>Zz 8 ?_
 exact C_ ⟨(n+1,H,(a9++[((Fc.a s.fact),(n:Int))]),G,b9),O,d.next M hs P V L,a5,zal_⟩ zab_ zl (m_ (c_ d_) (m_ (c_ d_) (G_ (c_ (c_ (c_ bg_))) (m_ d_ (c_ E_))))) zf):G:=h
theorem vA_ (B:PB) (p:List Pc) (A:List Str) (aad:Ao) (acap:Nat) (fm:List (Ky×Int)) (m:Ky->Ao×Nat) (hk1:∀ z∈p,z.kind=1) (M:Fnd p fm) (a7:p.length<=16384) (y:PSt) (hS:y.ok []) (hB:∀ l,Eng p A l->l.length<=65536) (hal:A.length<=100000000) (Ha:Hp) (hja0:cs_ str aY_ 3 1 [] B.ab Ha):Tri prog 101 #[zp_ B.g 0,.slice aad A.length acap] ((B.g,.cells #[.slice B.pad p.length B.pcap,.map (some B.pb),y.sv,.map (some B.kb),.map (some B.ab),.map (some B.ub),.map (some B.ob),.map (some B.ib),.map (some B.rb),.map (some B.sb)] 238 (0,0))::(B.kb,.map y.es y.c)::(y.h++(Ha++[(B.ub,.map #[] 0)]))) [bY_ ([]:List Stp),L_ B.pad (p.flatMap Pc.cells),mlF prog 245 Ky.val aY_ B.pb fm m,L_ aad (A.flatMap ar_)] (λ_:{y:List Stp×PSt×Hp // y.2.1.ok y.1/\LoopP p A y.1.length y.1}=>.tuple #[]) (λy=>(B.g,.cells #[.slice B.pad p.length B.pcap,.map (some B.pb),y.1.2.1.sv,.map (some B.kb),.map (some B.ab),.map (some B.ub),.map (some B.ob),.map (some B.ib),.map (some B.rb),.map (some B.sb)] 238 (0,0))::(B.kb,.map y.1.2.1.es y.1.2.1.c)::(y.1.2.1.h++(y.1.2.2++[(B.ub,.map #[] 0)]))) (λy=>[bY_ y.1.1]):=by
 refine g_ func101 rfl rfl ntmps101 rfl λv_1=>?_;refine bb_ (t_ (X_ d_ (X_ d_ (be_ (j_ bg_)))) (Zz 8 ?_));refine I_ (ι:={y:Nat×List Stp×PSt // y.1<=List.length A/\y.2.2.ok y.2.1/\Eng p A y.2.1/\([]:List Stp) <+: y.2.1/\AtI A y.1 (λa=>AtQ y.2.1 a)}) (λy=>[(0,zp_ B.g 0),(12,.slice aad A.length acap),(13,i4_ (List.length A:Int)),(14,i4_ y.1.1)]) (λy=>((B.g,.cells #[.slice B.pad p.length B.pcap,.map (some B.pb),y.1.2.2.sv,.map (some B.kb),.map (some B.ab),.map (some B.ub),.map (some B.ob),.map (some B.ib),.map (some B.rb),.map (some B.sb)] 238 (0,0))::((B.kb,.map y.1.2.2.es y.1.2.2.c)::((B.ub,.map #[] 0)::(Ha++y.1.2.2.h))))) (λy=>[bY_ y.1.2.1,L_ B.pad (p.flatMap Pc.cells),mlF prog 245 Ky.val aY_ B.pb fm m,L_ aad (A.flatMap ar_)]) (λy=>A.length - y.1.1) ⟨((0:Nat),([]:List Stp),y),by simp,by exact hS,by exact (Eng.nil p A),ybq_ _,(AtI.zero)⟩ zl zp zh ?_;rintro ⟨⟨i,Y,a0⟩,hi_i,S,R,b1,a3⟩;dsimp only at hi_i S R b1 a3 ⊢;refine Zi 2 (λa1=>?_) λa1=>?_
 .refine Zz 12 ?_
  have hL_1:=LoopP.start (p:=p) R λa ha=>a3.done zaa_ a ha
  refine I_ (ι:={y:Nat×List Stp×List (Str×Int)×PSt×Hp // y.2.2.2.1.ok y.2.1/\LoopP p A y.1 y.2.1/\cs_ str aY_ 3 1 y.2.2.1 B.ab y.2.2.2.2/\y.2.2.1.length<=y.1}) (λy=>[(0,zp_ B.g 0),(8,i4_ y.1.1)]) (λy=>((B.g,.cells #[.slice B.pad p.length B.pcap,.map (some B.pb),y.1.2.2.2.1.sv,.map (some B.kb),.map (some B.ab),.map (some B.ub),.map (some B.ob),.map (some B.ib),.map (some B.rb),.map (some B.sb)] 238 (0,0))::((B.kb,.map y.1.2.2.2.1.es y.1.2.2.2.1.c)::(y.1.2.2.2.2++((B.ub,.map #[] 0)::y.1.2.2.2.1.h))))) (λy=>[bY_ y.1.2.1,L_ B.pad (p.flatMap Pc.cells),mlF prog 245 Ky.val aY_ B.pb fm m]) (λy=>65536 - y.1.1) ⟨((0:Nat),Y,[],a0,Ha),by exact S,hL_1,by exact hja0,by simp⟩ zl zp zf ?_;rintro ⟨⟨n,F,a9,U,h_n⟩,C,d,b4,hxl⟩;dsimp only at C d b4 hxl ⊢;have hb_n:=hB _ d.eng;have hle_n:=d.le;refine bb_ (t_ (X_ d_ (X_ d_ (be_ (j_ d_)))) (Zz 7 ?_));refine e_ (bU_ C.1 aT_ rfl) rfl ?_;refine Zi 0 (λK=>?_) λK=>?_
  .refine Zz 5 ?_
   have en:n=F.length:=by omega
   subst en;exact bK_ results101 ⟨(F,U,h_n),C,d⟩ rfl zp zf
  have hls:n<F.length:=by omega
  obtain⟨s,hs⟩:∃ e_1,F[n]? = some e_1:=⟨_,yaa_ hls⟩;have hkk:s.fact.kind=1:=by have q:=(d.eng.cor n s hs).form;rw[q];rfl
  have hAt:At F n (Q_ s.fact.a s.fact.b):=⟨s,hs,(d.eng.cor n s hs).form⟩;have hn_1:n+1<=65536:=by omega
  have T:n<65536:=by omega
  refine Zz 14 ?_;refine e_ (aE_ C.1 aT_ bv_ rfl rfl zaa_ zaa_) rfl (Zz 1 ?_);refine e_ (gK_ (us:=Fc.cells s.fact) C.1 zp cp_ N_ rfl rfl zac_ (oo_ 1 (y_ Stp.cells_len hs) s.fact_cells)) rfl (u_ W_ rfl λb_1=>n_ 0 N_ rfl rfl rfl rfl rfl rfl (Zi 11 (λhr_3=>?_) λhr_3=>?_))
  .exfalso;omega
  refine Zz 4 ?_;have hbb_1:=ybv_ (eB_ a9 (Fc.a s.fact)) (show (a9).length<=100000000 from by omega);refine pu_ hR_ (Fc.a s.fact) b4 (c_ (c_ (c_ (c_ x_)))) λes_1 ce_1 ve_1 Hk_1 Hx_1 b6 Q=>?_;refine t_ (X_ d_ (X_ (j_ (j_ d_)) (X_ (j_ (j_ d_)) (X_ (j_ (j_ d_)) (be_ (j_ (j_ d_))))))) (bb_ ?_);refine V_ ((b_1,.cells (Fc.cells s.fact).toArray 87 (0,0))::((B.g,.cells #[.slice B.pad p.length B.pcap,.map (some B.pb),U.sv,.map (some B.kb),.map (some B.ab),.map (some B.ub),.map (some B.ob),.map (some B.ib),.map (some B.rb),.map (some B.sb)] 238 (0,0))::((B.kb,.map U.es U.c)::((B.ub,.map #[] 0)::[])))) zk ?_;refine s_ 4 [0,1,2,3,4,5,6,7,8,9,10,11,13] zk zs (Zz 14 ?_);refine do_ 12 14 rfl rfl zk ?_ ?_
  .refine e_ (fJ_ (k:=(Fc.a s.fact)) hR_ Q uQ_ cz_ rfl rfl 0 rfl) rfl (Zz 3 ?_)
   refine l_ 14 rfl zk (M_ J_ K_ aN_ rfl rfl rfl rfl rfl rfl λb_2=>Zz 3 ?_);refine l_ 15 rfl zk (am_ (news:=List.flatMap aY_ [(n:Int)]) kt_ b6 rfl rfl zp rfl (ba_ 0 rfl) (λu hu=>aG_ iu_ hu) zaj_ zaa_ rfl λsv_1 Hr_1 a1=>?_);have E:=zsa a1;exact lq_
  refine M_ J_ K_ aN_ rfl rfl rfl rfl rfl rfl λb_2=>Zz 3 ?_
  refine l_ 12 rfl zk (e_ (fJ_ (k:=(Fc.a s.fact)) hR_ Q uQ_ cz_ rfl rfl 1 rfl) rfl (Zz 3 ?_));refine l_ 15 rfl zk (am_ (news:=List.flatMap aY_ [(n:Int)]) kt_ b6 rfl rfl zp rfl (ba_ 0 rfl) (λu hu=>aG_ iu_ hu) zaj_ zaa_ rfl λsv_1 Hr_1 K=>?_);have E:=zsa K;exact lq_
 obtain⟨c0,I,hx_1,Z⟩:=zge (show i<A.length by omega);refine Zz 20 ?_;refine f_ (mN_ I I) rfl i_ zt rfl λ_=>f_ (tv_ B p 1 (-1) (Q_ I I) none 0 ([]:List Int) Y a0.sv a0.es a0.c a0.h S.1 S.2 (ybv_ (hB _ R) zac_)) rfl zp (λv _ h=>by exact⟨h.1,.inl rfl,trivial⟩) rfl λ⟨⟨W,a8⟩,a6,b8⟩=>?_;dsimp only;simp only[PSt.own,yav_];have b7:Eng p A W:=qk_ a6 R (Cor.r1 Z);have E:Y <+: W:=qi_ a6;have b5:=qj_ a6;dsimp only at b5;refine Zz 2 ?_;refine t_ (X_ d_ (X_ d_ (be_ (j_ d_)))) (Zz 4 ?_);refine f_ (mN_ I [42]) rfl i_ zt rfl λ_=>f_ (tv_ B p 2 (-1) (Q_ I [42]) none 0 ([]:List Int) W a8.sv a8.es a8.c a8.h b8.1 b8.2 (ybv_ (hB _ b7) zac_)) rfl zp (λv _ h=>by exact⟨h.1,.inl rfl,trivial⟩) rfl λ⟨⟨a2,y_2⟩,X,hy_2⟩=>?_;dsimp only;simp only[PSt.own,yav_];have hE_2:Eng p A a2:=qk_ X b7 (Cor.r2 Z);have a4:W <+: a2:=qi_ X;have b0:=qj_ X;dsimp only at b0;refine Zz 2 ?_;refine t_ (X_ d_ (X_ d_ (be_ (j_ d_)))) (Zz 6 ?_);refine e_ (w_ ho_ rfl rfl) rfl (e_ (bi_ (k:=(Ky.mk 7 [] [])) (adr:=m) is_ dM_ cz_ rfl rfl zf) rfl (Zz 5 ?_));refine I_ (ι:={y:Nat×List Stp×PSt // y.1<=List.length (lat fm (Ky.mk 7 [] []))/\y.2.2.ok y.2.1/\Eng p A y.2.1/\a2 <+: y.2.1/\iF_ p (lat fm (Ky.mk 7 [] [])) y.1 (λx=>Q_ I x.c∈fcs y.2.1)}) (λy=>[(0,zp_ B.g 0),(12,.slice aad A.length acap),(13,i4_ (List.length A:Int)),(14,i4_ i),(5,str I),(32,.slice (Prod.fst (m (Ky.mk 7 [] []))) (lat fm (Ky.mk 7 [] [])).length (Prod.snd (m (Ky.mk 7 [] [])))),(33,i4_ (List.length (lat fm (Ky.mk 7 [] [])):Int)),(34,i4_ y.1.1)]) (λy=>((B.g,.cells #[.slice B.pad p.length B.pcap,.map (some B.pb),y.1.2.2.sv,.map (some B.kb),.map (some B.ab),.map (some B.ub),.map (some B.ob),.map (some B.ib),.map (some B.rb),.map (some B.sb)] 238 (0,0))::((B.kb,.map y.1.2.2.es y.1.2.2.c)::((B.ub,.map #[] 0)::(Ha++y.1.2.2.h))))) (λy=>[bY_ y.1.2.1,L_ B.pad (p.flatMap Pc.cells),mlF prog 245 Ky.val aY_ B.pb fm m,L_ aad (A.flatMap ar_)]) (λy=>List.length (lat fm (Ky.mk 7 [] [])) - y.1.1) ⟨((0:Nat),a2,y_2),by simp,by exact hy_2,by exact hE_2,ybq_ _,(iF_.zero)⟩ zl zp zf ?_;rintro ⟨⟨j,l_j,y_j⟩,hi_j,b3,b2,J,hu_j⟩;dsimp only at hi_j b3 b2 J hu_j ⊢;refine Zi 2 (λK=>?_) λK=>?_
 .refine Zz 11 ?_
  exact C_ ⟨(i+1,l_j,y_j),c0,b3,b2,(b1.trans ((((ybq_ Y).trans E).trans a4).trans J)),(a3.step (λx hx=>hx.mono ((((ybq_ Y).trans E).trans a4).trans J)) hx_1  (by exact⟨fC_ (((ybq_ W).trans a4).trans J) b5,fC_ ((ybq_ a2).trans J) b0⟩))⟩ zab_ zl zp zh
 exfalso;have q:=M.no (k:=(Ky.mk 7 [] [])) (show (7:Int)≠1 by decide);omega
theorem rT_ (B:PB) (p:List Pc) (A:List Str) (f:Fc) (l:List Stp) (sv:Value) (es:Array MapEntry) (c:Nat) (K:Hp) (U:zR 173 9 Stp.cells sv l K) (R:IntE Fc.val es (fcs l) (iot l.length)) (hE:Eng p A l) (hB:∀ l,Eng p A l->l.length<=65536) (S:f∈fcs l):Tri prog 103 #[zp_ B.g 0,Fc.val f] ((B.g,.cells #[.slice B.pad p.length B.pcap,.map (some B.pb),sv,.map (some B.kb),.map (some B.ab),.map (some B.ub),.map (some B.ob),.map (some B.ib),.map (some B.rb),.map (some B.sb)] 238 (0,0))::(B.kb,.map es c)::K) [L_ B.pad (p.flatMap Pc.cells),bY_ l] (λy:{y:List Stp×Ao×Nat // PrfL p A f y.1/\y.1.length<=List.length l/\y.1.length<=y.2.2/\y.2.2<=maxLen/\(y.2.1=none->y.2.2=0)}=>.slice y.1.2.1 y.1.1.length y.1.2.2) (λ_=>[]) (λy=>[L_ y.1.2.1 (y.1.1.flatMap Stp.cells),bY_ y.1.1]):=by
 refine g_ func103 rfl rfl ntmps103 rfl λT=>?_;have O:=hB l hE;refine Zz 2 ?_;refine F_ rfl rfl λW=>Zz 6 ?_
 refine s_ 6 [0,1,2,3,4] zk zs (Zz 6 ?_);refine l_ 5 rfl zk (kP_ (k:=f) gy_ runUnderlying234 aN_ rfl rfl R zp rfl λM P d I=>Zz 3 ?_);refine s_ 0 [6,7,8,9,10] zk zs (Zz 13 ?_);cases M
 .replace d:=zdf d
  exact absurd S d
 replace d:=zdt d;refine Zz 2 ?_;obtain⟨E,N,L⟩:=known_at (I rfl);subst N;have Q:=L.lt;refine aZ_ U (c_ (c_ E_)) λH C J m F G=>?_;subst J;refine Zz 6 ?_;refine e_ (aj_ (bf_ rfl rfl rfl (bW_ zaa_ zaa_)) (show i4_ ((E:Int)+1)=i4_ ((E+1:Nat):Int) from yah_ _ zaa_)) rfl (e_ (aj_ (di_ (i:=0) (j:=(E+1:Nat)) (kl:=.i64) (kh:=.i64) aT_ bv_ rfl rfl rfl zaa_ (by have:=m;omega)) (show _=Value.slice (sad H C 0 9) (List.length (List.take (E+1:Nat) l)) (C - 0) by rw[yat_,ybn_ zaa_];rfl)) rfl ?_);refine Zz 4 ?_;exact ac_ results103 ⟨(List.take (E+1) l,(sad H C 0 9),(C - 0)),wR_ hE L,by rw[yat_];omega,by dsimp only;rw[yat_];have:=m;omega,by have:=F;dsimp only;omega,by dsimp only;exact (λq=>by have:=G (wB_ q);omega)⟩ rfl i_ (λv _ h=>by exact⟨(bl_.slice Stp.cells_len h.1 m 0 (E+1:Nat)),op_ h.2.2.1 (λx V=>ybs_ V),trivial⟩)
theorem tu_ (x:Pc) (K:x.kind=1) (n:Int) (fm:List (Ky×Int)) (g pb:Nat) (G A c3 c4 c5 c6 c7 c8 c9:Value) (C:Hp) (hm:cs_ Ky.val aY_ 3 1 fm pb C) (J:fm.length<=90000000):Tri prog 156 #[zp_ g 0,Pc.val x,i4_ n] ((g,.cells #[G,.map (some pb),A,c3,c4,c5,c6,c7,c8,c9] 238 (0,0))::C) [] (λ_:{H:Hp // cs_ Ky.val aY_ 3 1 (fm++[(⟨1,[],x.a⟩,n)]) pb H}=>.tuple #[]) (λy=>(g,.cells #[G,.map (some pb),A,c3,c4,c5,c6,c7,c8,c9] 238 (0,0))::y.1) (λ_=>[]):=by
 refine g_ func156 rfl rfl ntmps156 rfl λI=>?_;refine Zz 2 ?_;refine F_ rfl rfl λE=>F_ rfl rfl λB=>F_ rfl rfl λF=>Zz 4 ?_
 refine e_ (aR_ rfl rfl) rfl (Zi 13 (λm=>?_) λm=>?_)
 .exfalso;omega
 refine Zz 11 ?_;refine T_ (putP_c x n [] x.a fm B E F g pb G A c3 c4 c5 c6 c7 c8 c9 C hm zap_) rfl rfl zp zt rfl λ⟨v,d⟩=>?_;dsimp only;simp only[yav_,yaL_];refine Zz 2 ?_;exact bK_ results156 ⟨v,(by have q:=d;rw[K]at q;exact q)⟩ rfl (m_ (c_ (c_ (c_ d_))) (c_ (c_ E_))) zt
theorem py_ (p:List Pc) (X:∀ z∈p,z.kind=1) (pad:Ao) (pcap:Nat) (hp:p.length<=10000000):Tri prog 100 #[.slice pad p.length pcap] [] [L_ pad (p.flatMap Pc.cells)] (λy:{y:PNew // y.ok p/\y.b.pad=pad/\y.b.pcap=pcap}=>zp_ y.1.b.g 0) (λy=>y.1.own p) (λ_=>[]):=by
 refine g_ func100 rfl rfl ntmps100 rfl λa1=>?_;refine Zz 8 ?_;refine aX_ rfl λC=>aX_ rfl λE=>aX_ rfl λM=>aX_ rfl λH=>aX_ rfl λJ=>aX_ rfl λI=>aX_ rfl λL=>aX_ rfl λK=>e_ (w_ yW_ rfl rfl) rfl (F_ rfl rfl λF=>Zz 5 ?_)
 refine aX_ rfl λx=>Zz 12 ?_
 refine I_ (ι:={y:Nat×List Pc×List Int×Array MapEntry×Nat×List (Ky×Int)×Hp // y.1<=List.length p/\IntE Pc.val y.2.2.2.1 y.2.1 y.2.2.1/\(∀ z,z∈y.2.1↔∃ w∈List.take y.1 p,w.zf=z)/\Fnd (p.take y.1) y.2.2.2.2.2.1/\cs_ Ky.val aY_ 3 1 y.2.2.2.2.2.1 C y.2.2.2.2.2.2}) (λy=>[(3,zp_ F 0),(4,.map (some x)),(21,.slice pad p.length pcap),(22,i4_ (List.length p:Int)),(23,i4_ y.1.1)]) (λy=>((F,.cells #[.slice pad p.length pcap,.map (some C),.slice none 0 0,.map (some E),.map (some M),.map (some H),.map (some J),.map (some I),.map (some L),.map (some K)] 238 (0,0))::((x,.map y.1.2.2.2.1 y.1.2.2.2.2.1)::((E,.map #[] 0)::((M,.map #[] 0)::((H,.map #[] 0)::((J,.map #[] 0)::((I,.map #[] 0)::((L,.map #[] 0)::((K,.map #[] 0)::y.1.2.2.2.2.2.2)))))))))) (λy=>[L_ pad (p.flatMap Pc.cells)]) (λy=>p.length - y.1.1) ⟨((0:Nat),([]:List Pc),([]:List Int),#[],0,([]:List (Ky×Int)),[(C,.map #[] 0)]),by simp,IntE.nil,by simp,Fnd.nil,by exact cs_.nil _ _⟩ zl zp zh ?_;rintro ⟨⟨i,ks,vs,es,cs,fm,Y⟩,hi,hE,G,hF,hm⟩;dsimp only at hi hE G hF hm ⊢;have V:fm.length<=90000000:=ybv_ hF.len zby_;refine Zi 2 (λR=>?_) λR=>?_
 .refine Zz 13 ?_
  have U:List.take i p=p:=yad_ zaa_;rw[U]at hF;exact ac_ results100 ⟨(PNew.mk (PB.mk F C E M H J I L K pad pcap) fm Y),⟨hF,hm⟩,rfl,rfl⟩ rfl (m_ d_ (m_ (c_ d_) (m_ (c_ d_) (m_ (c_ d_) (m_ (c_ d_) (m_ (c_ d_) (m_ (c_ d_) (m_ (c_ d_) E_)))))))) zt
 obtain⟨A,B,v,P⟩:=zge (show i<p.length by omega);refine Zz 13 ?_;refine u_ O_ rfl λa0=>Zz 1 ?_
 refine n_ 0 A_ rfl rfl rfl rfl rfl rfl (Zz 5 ?_);refine n_ 0 K_ rfl rfl rfl rfl rfl rfl (Zz 7 ?_);refine f_ (recP_c B.zf (i:Int) ks vs x es cs hE) rfl (c_ (c_ d_)) zt rfl λ⟨⟨⟨Q,Z⟩,O,N⟩,d,W,m⟩=>?_;dsimp only;simp only[yav_,ybC_];refine Zz 12 ?_;cases Q
 .replace d:=zdf d
  refine Zz 8 ?_;exact C_ ⟨(i+1,ks,vs,O,N,fm,Y),A,by have q:=Decidable.not_not.1 d;rw[yaq_ q,yaq_ q]at m;exact m,wz_ G v (Decidable.not_not.1 d),hF.old v ((G _).1 (Decidable.not_not.1 d)),hm⟩ zab_ zl (m_ (c_ (c_ d_)) (m_ d_ (m_ (c_ d_) (m_ (c_ d_) (m_ (c_ d_) (m_ (c_ d_) (m_ (c_ d_) (m_ (c_ d_) (m_ (c_ d_) E_))))))))) zh
 replace d:=zdt d;refine Zz 5 ?_;refine f_ (tu_ B.zf (X B P) (i:Int) fm F C (.slice pad p.length pcap) (.slice none 0 0) (.map (some E)) (.map (some M)) (.map (some H)) (.map (some J)) (.map (some I)) (.map (some L)) (.map (some K)) Y hm V) rfl zp zt rfl λ⟨T,S⟩=>?_;dsimp only;simp only[yav_,yaL_];refine Zz 2 ?_;refine t_ (X_ d_ (X_ (j_ d_) (X_ (j_ d_) (X_ (j_ d_) (X_ (j_ d_) (X_ (j_ d_) (X_ (j_ d_) (X_ (j_ d_) (X_ (j_ d_) (be_ bg_)))))))))) (Zz 5 ?_);exact C_ ⟨(i+1,ks++[Pc.zf B],vs++[(i:Int)],O,N,fm++[(⟨1,[],B.zf.a⟩,(i:Int))],T),A,by rw[yaf_ d,yaf_ d]at m;exact m,wA_ G v,hF.new v,S⟩ zab_ zl zp zh
end Go.Proofs.YtfjcabalehamcaaGreatDoor
namespace Go.Vs
open Go Go.Sx
def kY_ {α:Type} (l:List α) (i:Nat) (Q:Nat->α->Prop):Prop:=∀ j,j<i->∀ a,l[j]? = some a->Q j a
theorem kY_.zero {α:Type} {l:List α} {Q:Nat->α->Prop}:kY_ l 0 Q:=λj d=>by omega
theorem kY_.step {α:Type} {l:List α} {i:Nat} {Q:Nat->α->Prop} {a:α} (h:kY_ l i Q) (v:l[i]? = some a) (m:Q i a):kY_ l (i+1) Q:=λj x b d=>by
 by_cases e:j=i
 .subst e;rw[v]at d;cases d;exact m
 exact h j zaa_ b d
theorem kY_.done {α:Type} {l:List α} {i:Nat} {Q:Nat->α->Prop} (h:kY_ l i Q) (hi:¬ (i:Int)<(l.length:Int)):∀ j a,l[j]? = some a->Q j a:=λj a d =>
  h j zaI_ a d
theorem kY_.all {α:Type} {l:List α} {i:Nat} {Q:α->Prop} (h:kY_ l i λ_ a=>Q a) (hi:¬ (i:Int)<(l.length:Int)):∀ a∈l,Q a:=λa m=>by
  obtain⟨j,d⟩:=yaU_ m;exact h.done hi j a d
end Go.Vs
namespace Go.Sx
open Go
section
variable {P:Program} {N:Nf} {v0:Vw} {H0:Hp} {R:Exit->Act->World->Prop} {K:List Kt} {fr:Fr} {H F:Hp} {Γ:List Fct} {ops:Array Oper} {l:List Oper} {d:Nat} {ty:TypeId} {ps:String} {af:Array Edge} {e:TypeId} {sz n:Nat} {sv:Value} {xs:List Value} {Hr:Hp}
theorem rs_ (z:List Value) (m:0<z.length) (n:Nat):madeCells z.toArray (n*z.length)=(hi_ z n).toArray:=jr_ z m n
theorem fn_ {t:TypeId} {x y:Operand} {by':Nat} {z:Value} (I:P.underlying t=some (.slice e)) (hi:(P.info? e).map (λi=>(i.zero,i.size,i.bytes))=some (some z,sz,by')) (m:z.cells.toList.length=sz) (O:0<sz) (J:Fr.ev fr x=some (.int .i64 (n:Int))) (G:Fr.ev fr y=some (.int .i64 (n:Int)))
    (Q:by'*n<=281474976710656) (A:n<=maxLen) (M:Nat.blt d N.n=true)
    (L:∀ sv Hr,ad_ e sz sv n (hi_ z.cells.toList n) Hr->Ops P R N v0 H0 ops l K ((d,sv)::fr) (Hr++H) Γ):Ops P R N v0 H0 ops (⟨some d,.makeSlice t x y,ty,ps,af,none⟩::l) K fr H Γ:=by
  refine fd_ (x:=λb=>.slice (some ⟨b,0,none⟩) n n) (o:=.cells (hi_ z.cells.toList n).toArray e (0,0)) M (λa v E _ _=>?_) (λb=>L _ [(b,.cells (hi_ z.cells.toList n).toArray e (0,0))] ⟨?_,.inr ⟨b,n,(hi_ z.cells.toList n).toArray,rfl,rfl,yae_ _,A,?_,?_⟩⟩)
  . cases h:P.info? e with
    | none=>rw[h]at hi;cases hi
    | some i =>
      rw[h]at hi;simp only[yaX_,yam_,ybD_]at hi
      have B:(i.bytes:Int)*(n:Int)<=281474976710656:=by
        rw[hi.2.2];have h:((by'*n:Nat):Int)<=281474976710656:=by omega
        rwa [ydy_]at h
      have C:=run_make (P:=P) v.w t e i z I h hi.1 .i64 .i64 (n:Int) (n:Int) zaa_ (Int.le_refl _) B (by simp only[maxLen]at A;omega);have hm:=rs_ z.cells.toList zaa_ n;rw[m,ycG_]at hm;rw[hi.2.1,ybw_,hm]at C;simp only[execOp,E.ev J,E.ev G];simp[C]
  . rw[gI_,m]
  . simp only[ybF_];rw[gI_,m]
  . rw[ycM_,yad_ (by rw[gI_,m];exact yae_ _)]
theorem gH_ {α:Type} (f:α->List Value) (z:α):∀ n,hi_ (f z) n=(List.replicate n z).flatMap f
  | 0=>rfl
  | n+1=>by rw[hi_,List.replicate_succ,yaV_,gH_ f z n]
theorem sp_ (h:ad_ e sz sv n xs Hr):∃ ad cap,sv=.slice ad n cap:=by
 rcases h.2 with⟨rfl,rfl,_⟩|⟨g,cap,cur,rfl,_⟩
 .exact⟨none,0,rfl⟩
 exact⟨_,cap,rfl⟩
end
end Go.Sx
namespace Go.Vs
open Go Go.Sx
def ty_ (T:TypeId) (s:Stp) (H:Hp):Prop:=ad_ T 1 (.slice s.ad s.frm.length s.cap) s.frm.length (s.frm.flatMap aY_) H
def mg_ (T:TypeId):List Stp->Hp->Prop
  | [],H=>H=[]
  | s::l,H=>∃ Hs Hr,H=Hs++Hr/\ty_ T s Hs/\mg_ T l Hr
def Stp.zero:Stp:=⟨0,⟨0,[],[],[],0,0⟩,0,none,0,[]⟩
theorem oD_ (T:TypeId):∀ n,mg_ T (List.replicate n Stp.zero) []
  | 0=>rfl
  | n+1=>⟨[],[],rfl,ad_.nil T 1,oD_ T n⟩
theorem mg_.get {T:TypeId}:∀ {l:List Stp} {H:Hp} {i:Nat} {s:Stp},mg_ T l H->l[i]? = some s->∃ Hs Hr,H.Perm (Hs++Hr)/\ty_ T s Hs/\∀ v m,ty_ T v m->∃ H',mg_ T (l.set i v) H'/\H'.Perm (m++Hr)
 | [],_,i,_,_,h=>by simp at h
 | t::l,H,0,s,ho,h=>by
   simp only[ybc_,yam_]at h;subst h;obtain⟨Hs,Hr,rfl,B,y⟩:=ho;exact⟨Hs,Hr,.refl _,B,λv m A=>⟨m++Hr,⟨m,Hr,rfl,A,y⟩,.refl _⟩⟩
 | t::l,H,i+1,s,ho,h=>by
   simp only[ybb_]at h;obtain⟨x,L,rfl,B,y⟩:=ho;obtain⟨Hs,Hr,E,G,C⟩:=y.get h;refine⟨Hs,x++Hr,?_,G,λv m A=>?_⟩
   . refine (ybE_ x E).trans ?_
     rw[<-yap_,<-yap_];exact yax_.append_right _
   . obtain⟨H',I,J⟩:=C v m A
     refine⟨x++H',⟨x,H',rfl,B,I⟩,(ybE_ x J).trans ?_⟩;rw[<-yap_,<-yap_];exact yax_.append_right _
theorem rf_ {T:TypeId} {v:Vw}:∀ {l:List Stp} {H:Hp},mg_ T l H->(∀ p∈H,v.im p.1/\v.w.heap[p.1]? = some p.2)->(bY_ l).p v
 | [],_,_,_=>kF_
 | s::l,H,h,hv=>by
   obtain⟨Hs,Hr,rfl,C,A⟩:=h;intro x y;rcases yan_.1 y with rfl|y
   . obtain⟨ad,cap,e,_,_,_,B⟩:=kG_ C λp m=>hv p (yal_ _ m)
     simp only[Value.slice.injEq]at e;rw[e.1];exact B
   . exact rf_ A (λp m=>hv p (yay_ _ m)) x y
def yA_ (l:List Stp):Prop:=l≠[]/\∀ (i:Nat) s,l[i]? = some s->∀ q∈s.frm,0<=q/\q<(i:Int)
end Go.Vs
namespace Go.Proofs.YtfjcabalehamcaaGreatDoor
open Go Go.Sx Go.Proofs Tryz
attribute [local irreducible] Code.wp wpList wpAnyH
open Go.Vs
theorem lg_ {G:Prop} (h:G:=by
 exact ac_ results164 ⟨1,⟨.inr rfl,(λh=>by cases h),λh=>(by have q:=h.2 i d E L x;omega)⟩⟩ rfl i_ zt):G:=h
theorem vL_ (l:List Stp) (ad:Ao) (cap:Nat) (hl:l.length<=1000000) (P:∀ s∈l,s.frm.length<=1000000):Tri prog 164 #[.agg #[.slice ad l.length cap]] [] [L_ ad (l.flatMap Stp.cells),bY_ l] (λy:{e:Int // (e=0\/e=1)/\(e=0->yA_ l)/\(yA_ l->e=0)}=>i4_ y.1) (λ_=>[]) (λ_=>[]):=by
 refine g_ func164 rfl rfl ntmps164 rfl λS=>?_;refine Zz 2 ?_;refine F_ rfl rfl λU=>Zi 9 (λF=>?_) λF=>?_
 .refine Zz 15 ?_
  refine I_ (ι:={y:Nat // y<=List.length l/\kY_ l y (λn s=>∀ q∈s.frm,0<=q/\q<(n:Int))}) (λy=>[(2,i4_ 0),(12,.slice ad l.length cap),(13,i4_ (List.length l:Int)),(14,i4_ y.1)]) (λy=>([])) (λy=>[L_ ad (l.flatMap Stp.cells),bY_ l]) (λy=>l.length - y.1) ⟨(0:Nat),by simp,kY_.zero⟩ zl i_ zh ?_;rintro ⟨i,K,A⟩;dsimp only at K A ⊢;refine Zi 2 (λO=>?_) λO=>?_
  .refine Zz 12 ?_
   exact ac_ results164 ⟨0,⟨.inl rfl,λ_=>⟨λh=>F (by rw[h];rfl),λi s T=>A.done zaa_ i s T⟩,λ_=>rfl⟩⟩ rfl i_ zt
  obtain⟨H,d,E,m⟩:=zge (show i<l.length by omega);refine Zz 13 ?_;refine u_ dV_ rfl λR=>Zz 1 ?_
  refine n_ 0 bv_ rfl rfl rfl rfl rfl rfl (Zz 11 ?_);have Q:=P d m;refine I_ (ι:={y:Nat // y<=List.length d.frm/\kY_ d.frm y (λ_ q=>0<=q/\q<(i:Int))}) (λy=>[(2,i4_ 0),(12,.slice ad l.length cap),(13,i4_ (List.length l:Int)),(14,i4_ i),(3,i4_ i),(20,.slice d.ad d.frm.length d.cap),(21,i4_ (List.length d.frm:Int)),(22,i4_ y.1)]) (λy=>([])) (λy=>[L_ ad (l.flatMap Stp.cells),bY_ l]) (λy=>d.frm.length - y.1) ⟨(0:Nat),by simp,kY_.zero⟩ zl i_ zh ?_;rintro ⟨j,N,C⟩;dsimp only at N C ⊢;refine Zi 2 (λM=>?_) λM=>?_
  .refine Zz 11 ?_
   exact C_ ⟨i+1,H,A.step E (C.all zaa_)⟩ zab_ zl i_ zh
  obtain⟨G,L,B,x⟩:=zge (show j<d.frm.length by omega);refine Zz 10 ?_;refine e_ (Y_ J_ K_ rfl rfl (λv _ h=>az_ (n:=1) bx_ zac_ (by exact (h.2.1 d m)) B) zaa_ zak_) rfl ?_;refine e_ (bN_ (ad:=d.ad) au_ rfl (λv _ h=>by exact (h.2.1 d m)) (y_ bx_ B 0 _ rfl)) rfl (Zi 6 (λJ=>?_) λJ=>?_)
  .refine Zi 6 (λI=>?_) λI=>?_
   .refine Zz 11 ?_
    exact C_ ⟨j+1,G,C.step B zaa_⟩ zab_ zl i_ zh
   refine Zz 10 ?_;exact lg_
  refine Zz 14 ?_;exact lg_
 refine Zz 9 ?_;exact ac_ results164 ⟨1,⟨.inr rfl,(λh=>by cases h),λh=>absurd (yaz_ zaa_) h.1⟩⟩ rfl i_ zt
end Go.Proofs.YtfjcabalehamcaaGreatDoor
