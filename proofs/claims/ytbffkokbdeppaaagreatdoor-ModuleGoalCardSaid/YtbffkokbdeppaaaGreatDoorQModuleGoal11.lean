/-
  Lemmas for the law ModuleGoal (no condition).
-/
import Derived.Test.YtbffkokbdeppaaaGreatDoorQModuleGoal10
import Derived.Lib.Bytealg
import Derived.Lib.Small
set_option linter.unusedVariables false
set_option linter.unusedSimpArgs false
set_option linter.unusedSectionVars false
set_option maxHeartbeats 1000000
namespace Go.Proofs.YtbffkokbdeppaaaGreatDoor
open Go Go.Sx Go.Proofs Tryz
attribute [local irreducible] Code.wp wpList wpAnyH
open Go.Vs
theorem Cn_ {P:Program} {e:TypeId} {sz n:Nat} {sv:Value} {xs:List Value} {Hr:Hp} (k:at_ e sz sv (n+1) xs Hr):∃ sv',at_ e sz sv' n (xs.take (n*sz)) Hr/\
    ∀ {N:Nf} {fr:Fr} {H:Hp} {Γ:List Fct} {ty t:TypeId} {x y:Operand},(∀ w,(underlying t).run P w=.ok (.slice e) w)->(∀ w,(sizeOf e).run P w=.ok sz w)->Fr.ev fr x=some sv->Fr.ev fr y=some (i4_ n)->Yld P N fr H Γ (.slice t x none (some y) none) ty sv':=by
  obtain⟨hl,⟨_,A,_⟩|⟨g,cap,cur,rfl,rfl,C,hm,B,d⟩⟩:=k
  . omega
  . refine⟨.slice (some ⟨g,0,none⟩) n cap,⟨?_,.inr ⟨g,cap,cur,rfl,rfl,by omega,hm,B,?_⟩⟩,λm v d h=>?_⟩
    . grind
    . grind
    . refine ai_ (cD_ (i:=0) (j:=n) (kl:=.i64) (kh:=.i64) m v d rfl h (ybm_ _) zaa_) ?_
      grind[sad,ck_]
section
variable {P:Program} {N:Nf} {v0:Vw} {H0:Hp} {fr:Fr}
theorem nj_:∀ (B:Hp) {v:Vw},ag_ (B.map λp=>bk_ p.1 p.2) v->∀ p∈B,v.im p.1/\v.w.heap[p.1]? = some p.2
 | [],_,_,_,h=>by simp at h
 | q::B,v,h,p,d=>by
   rcases yal_.1 d with rfl|d
   . exact h.1
   . exact nj_ B h.2 p d
theorem yc_ {F H:Hp} {Γ:List Fct} {K D:Type} [DecidableEq K] {k:Act->World->Prop} {m:K->Value} {cells:D->List Value} {y e:TypeId} {sz A:Nat} {l:List (K×D)} {d:Hp} (G:KeyT P y m) (hm:cC_ m cells e sz l A d) (C:H.Perm (d++F))
    (h:∀ adr,Ok N v0 H0 k fr F (mlF P y m cells A l adr::Γ)):Ok N v0 H0 k fr H Γ:=by
  obtain⟨adr,E⟩:=hm.lent G;refine pb_ d C (lb_ (λv _ x=>?_) (h adr));rw[ff_]at x;refine⟨E v λp B=>?_,x.2⟩;have:=x.1;exact nj_ d.reverse (by rw[List.map_reverse]at *;exact this) p (ycS_.2 B)
end
theorem Ci_ {P:Program} {N:Nf} {fr:Fr} {H:Hp} {fn:Func} {t s b c:Nat} {ty d T K:TypeId} {u A:Value} (i j:Nat) (E:fn.results=#[.cell t ty,.cell s d]) (G:∀ w,(isAgg ty).run P w=.ok false w) (y:∀ w,(isAgg d).run P w=.ok false w)
    (F:Fr.get fr t=some (zp_ b 0)) (x:Fr.get fr s=some (zp_ c 0)) (hi:H[i]? = some (b,.cells #[u] T (0,0))) (I:H[j]? = some (c,.cells #[A] K (0,0))) (a:Act) (v:Vw) (C:Fr.sat N fr a) (B:v.sat H) :
    (results fn a.tmps).run P v.w=.ok (.tuple #[u,A]) v.w:=by
  have e:=C.val t _ F;have m:=C.val s _ x;have J:v.w.cell? ⟨b,0,none⟩=some u:=by rw[fc_ B hi];rfl
  have h:v.w.cell? ⟨c,0,none⟩=some A:=by rw[fc_ B I];rfl
  have hl:=cc_ (t:=ty) (w:=v.w) G J;have k:=cc_ (t:=d) (w:=v.w) y h;simp[results,E,e,m,asAddr,hl,k]
theorem Cj_ (p:List Pc) (ad:Ao) (cap:Nat) (S:List Str) (sad:Ao) (a2:Nat) (hp:p.length<=100000000) (hS:S.length<=100000000):Tri prog 162 #[.slice ad p.length cap,.slice sad S.length a2] [] [X_ ad (p.flatMap Pc.cells),X_ sad (S.flatMap aa_)] (λy:{y:Nat×Array MapEntry×Nat×List Thg×Value×List Bool×Hp // SetE Thg.val y.2.1 y.2.2.2.1/\Born y.2.1 y.2.2.1/\zR 4 1 jx_ y.2.2.2.2.1 y.2.2.2.2.2.1 y.2.2.2.2.2.2/\ReachR p S y.2.2.2.1 y.2.2.2.2.2.1}=>.tuple #[.map (some y.1.1),y.1.2.2.2.2.1]) (λy=>(y.1.1,.map y.1.2.1 y.1.2.2.1)::y.1.2.2.2.2.2.2) (λ_=>[]):=by
 refine j_ func162 rfl rfl ntmps162 rfl λv_1=>?_;refine Zz 2 ?_;refine L_ rfl rfl λE=>C_ zeroValue219 rfl λx=>C_ zeroValue220 rfl λC=>Zz 4 ?_
 refine bt_ rfl λB=>p_ 2 sizeOf219 rfl rfl rfl rfl rfl rfl (Zz 6 ?_)
 refine nc_ (n:=p.length) (by':=1) underlying220 (z:=(.bool false)) zk rfl zae_ rfl rfl zaa_ zal_ rfl λH HrU hrU=>?_;have hqU:at_ 4 1 H (List.replicate p.length false).length (List.flatMap jx_ (List.replicate p.length false)) HrU:=by rw[ych_,<-oe_ jx_];exact hrU
 refine u_ (S_ (g_ e_) (S_ (g_ e_) (S_ (g_ e_) (aW_ aJ_)))) (bT_ 1 hqU sizeOf220 rfl rfl rfl rfl (Zz 4 ?_));refine bt_ rfl λM=>Zz 5 ?_
 refine bt_ rfl λL=>Zz 5 ?_
 refine C_ zeroValue279 rfl λA=>Zz 4 ?_
 refine d_ (bo_ rfl rfl) rfl (C_ zeroValue282 rfl λF=>p_ 0 sizeOf282 rfl rfl rfl rfl rfl rfl (Zz 4 ?_));refine d_ (bo_ rfl rfl) rfl (Zz 4 ?_);refine et_ (bk_ E (.cells #[.slice ad p.length cap] 69 (0,0))) (aW_ (c_ (c_ (c_ (c_ (c_ (c_ (c_ e_)))))))) (λ_ h_1 h_2 _=>⟨h_1,h_2⟩) ?_;refine et_ (bk_ F (.cells #[.func (.func 243) #[] #[zp_ x 0,zp_ A 0]] 282 (0,0))) (aW_ e_) (λ_ h_1 h_2 _=>⟨h_1,h_2⟩) ?_;refine Zz 2 ?_;refine d_ (y_ cr_ rfl rfl) rfl (O_ (so_ (Thg.mk 1 [42]) ([]:List Thg) ([]:List Thg) x A B [(x,.cells #[.map (some B)] 219 (0,0)),(A,.cells #[.slice none 0 0] 279 (0,0)),(B,.map #[] 0)] ⟨#[],0,.slice none 0 0,[],rfl,SetE.nil,Born.nil 0,at_.nil _ _⟩ zaF_) rfl rfl (l_ (c_ (c_ (c_ (c_ (c_ e_))))) (l_ e_ (c_ (c_ e_)))) zt rfl λ⟨HA_1,hA_1⟩=>?_);dsimp only;refine Zz 2 ?_;refine u_ (S_ (g_ e_) (S_ (g_ e_) (aW_ (g_ e_)))) (Zz 3 ?_);refine d_ (y_ cr_ rfl rfl) rfl (O_ (so_ (Thg.mk 1 [33]) (([]:List Thg)++bO_ ([]:List Thg) [(Thg.mk 1 [42])]) (([]:List Thg)++bO_ ([]:List Thg) [(Thg.mk 1 [42])]) x A B HA_1 hA_1 zaF_) rfl rfl (c_ (c_ (c_ s_))) zt rfl λ⟨HA_2,hA_2⟩=>?_);dsimp only;refine Zz 3 ?_;refine u_ (S_ (g_ e_) (S_ (g_ e_) (aW_ (g_ e_)))) (Zz 8 ?_);refine J_ (ι:={y:Nat×List Thg×Hp // y.1<=List.length S/\y.2.1=bO_ [] (dF_ (S.take y.1))/\StK 219 279 281 x A B y.2.1 y.2.1 y.2.2}) (λy=>[(2,zp_ E 0),(4,zp_ x 0),(5,zp_ C 0),(6,.map (some M)),(7,.map (some L)),(8,zp_ A 0),(9,zp_ F 0),(10,.func (.func 244) #[] #[zp_ C 0,zp_ E 0,zp_ F 0]),(35,.slice sad S.length a2),(36,i4_ (List.length S:Int)),(37,i4_ y.1.1)]) (λy=>((C,.cells #[H] 220 (0,0))::(HrU++((M,.map #[] 0)::((L,.map #[] 0)::y.1.2.2))))) (λy=>[bk_ F (.cells #[.func (.func 243) #[] #[zp_ x 0,zp_ A 0]] 282 (0,0)),bk_ E (.cells #[.slice ad p.length cap] 69 (0,0)),X_ ad (p.flatMap Pc.cells),X_ sad (S.flatMap aa_)]) (λy=>S.length - y.1.1) ⟨((0:Nat),((([]:List Thg)++bO_ ([]:List Thg) [(Thg.mk 1 [42])])++bO_ (([]:List Thg)++bO_ ([]:List Thg) [(Thg.mk 1 [42])]) [(Thg.mk 1 [33])]),HA_2),by simp,(by rw[ybH_];exact yN_.symm),hA_2⟩ zl zp zh ?_;rintro ⟨⟨k,K,Hs_1⟩,hi_k,hK,hS_1⟩;dsimp only at hi_k hK hS_1 ⊢;refine u_ (S_ e_ (S_ (g_ e_) (aW_ (g_ e_)))) (Zi 2 (λhr_1=>?_) λhr_1=>?_)
 .refine Zz 15 ?_
  have hKS:K=bO_ [] (dF_ S):=by rw[hK,yac_ zaa_]
  refine J_ (ι:={y:Nat×List Thg×List Bool×Hp×Array MapEntry×Nat×Hp×Hp // y.1<=List.length p/\RK p S y.1 y.2.1 y.2.2.1/\zR 4 1 jx_ H y.2.2.1 y.2.2.2.1/\StK 219 279 281 x A B y.2.1 y.2.1 y.2.2.2.2.2.2.2/\IntE (λn:Int=>i4_ n) y.2.2.2.2.1 (iot y.1) (Ap_ (p.take y.1))/\cC_ Thg.val dl_ 3 1 (eA_ 0 (p.take y.1)) L y.2.2.2.2.2.2.1}) (λy=>[(2,zp_ E 0),(4,zp_ x 0),(5,zp_ C 0),(6,.map (some M)),(7,.map (some L)),(8,zp_ A 0),(9,zp_ F 0),(10,.func (.func 244) #[] #[zp_ C 0,zp_ E 0,zp_ F 0]),(35,.slice sad S.length a2),(36,i4_ (List.length S:Int)),(37,i4_ k),(46,.slice ad p.length cap),(47,i4_ (List.length p:Int)),(48,i4_ y.1.1)]) (λy=>((C,.cells #[H] 220 (0,0))::(y.1.2.2.2.1++((M,.map y.1.2.2.2.2.1 y.1.2.2.2.2.2.1)::(y.1.2.2.2.2.2.2.1++y.1.2.2.2.2.2.2.2))))) (λy=>[bk_ F (.cells #[.func (.func 243) #[] #[zp_ x 0,zp_ A 0]] 282 (0,0)),bk_ E (.cells #[.slice ad p.length cap] 69 (0,0)),X_ ad (p.flatMap Pc.cells),X_ sad (S.flatMap aa_)]) (λy=>p.length - y.1.1) ⟨((0:Nat),K,(List.replicate p.length false),HrU,#[],0,[(L,.map #[] 0)],Hs_1),by simp,(by rw[hKS];exact RK.init (sl_ p S) (ur_ S)),hqU,hS_1,IntE.nil,cC_.nil _ _⟩ zl zp zh ?_;rintro ⟨⟨i,Z,U_1,a8,es_1,cw_1,HM_1,a5⟩,hi_i,hR,a3,a1,a0,a6⟩;dsimp only at hi_i hR a3 a1 a0 a6 ⊢;refine u_ (S_ e_ (aW_ (g_ e_))) (Zi 2 (λhr_2=>?_) λhr_2=>?_)
  .refine Zz 8 ?_
   obtain rfl:i=p.length:=by omega
   rw[yac_ (yad_ _)]at a6 a0;refine yc_ tK_ a6 (c_ (c_ (g_ s_))) λadr=>?_;refine J_ (ι:={y:List Thg×List Thg×List Bool×List Int×Hp×Array MapEntry×Hp // RI p S y.1 y.2.1 y.2.2.1 y.2.2.2.1/\StK 219 279 281 x A B y.1 y.2.1 y.2.2.2.2.2.2/\zR 4 1 jx_ H y.2.2.1 y.2.2.2.2.1/\IntE (λn:Int=>i4_ n) y.2.2.2.2.2.1 (iot p.length) y.2.2.2.1}) (λy=>[(4,zp_ x 0),(5,zp_ C 0),(6,.map (some M)),(7,.map (some L)),(8,zp_ A 0),(10,.func (.func 244) #[] #[zp_ C 0,zp_ E 0,zp_ F 0])]) (λy=>((C,.cells #[H] 220 (0,0))::(y.1.2.2.2.2.1++((M,.map y.1.2.2.2.2.2.1 cw_1)::y.1.2.2.2.2.2.2)))) (λy=>[mlF prog 281 Thg.val dl_ L (eA_ 0 p) adr,bk_ F (.cells #[.func (.func 243) #[] #[zp_ x 0,zp_ A 0]] 282 (0,0)),bk_ E (.cells #[.slice ad p.length cap] 69 (0,0)),X_ ad (p.flatMap Pc.cells),X_ sad (S.flatMap aa_)]) (λy=>(os_ p S).length - y.1.1.length+y.1.2.1.length) ⟨(Z,Z,U_1,(Ap_ p),a8,es_1,a5),hR.done,a1,a3,a0⟩ zl zp zh ?_;rintro ⟨⟨K,W,Uw,wl,HUw,esw,Hsw⟩,hI,hSw,hUw,hWw⟩;dsimp only at hI hSw hUw hWw ⊢;obtain⟨esK,cK,svW,HwK,rfl,hEK,hBK,hrW⟩:=hSw;have hwl:=hI.kw.wlen;have hkl:=hI.kw.len;have hul:=jF_ p S;refine au_ (u_ (S_ e_ (S_ (g_ e_) (S_ (g_ e_) (S_ (g_ e_) (aW_ (g_ e_)))))) (Zz 3 ?_));refine d_ (cm_ hrW aj_ rfl) rfl ?_;refine Zi 0 (λhr_3=>?_) λhr_3=>?_
   .refine Zz 7 ?_
    refine G_ 2 [0,1] zk zs (Zz 3 ?_);refine m_ 2 rfl zk (p_ 2 sizeOf219 rfl rfl rfl rfl rfl rfl (Zz 3 ?_));refine m_ 3 rfl zk (bT_ 0 hUw sizeOf220 rfl rfl rfl rfl (Zz 6 ?_));obtain rfl:W=[]:=yaw_ zaa_;exact dk_ ⟨⟨B,esK,cK,K,H,Uw,HUw⟩,hEK,hBK,hUw,hI.end⟩ (λaa v h_1 h_2=>Ci_ 2 0 results162 isAgg219 isAgg220 rfl rfl rfl rfl aa v h_1 h_2) (l_ (c_ (c_ (c_ (c_ e_)))) (c_ (c_ (c_ (c_ s_))))) zt
   obtain⟨Wp,d,rfl⟩:∃ Wp d,W=Wp++[d]:=by rcases List.eq_nil_or_concat W with h|⟨a,b,h⟩;subst h;simp at *;exact⟨a,b,by simpa using h⟩
   have hxl:List.length (Wp++[d])=Wp.length+1:=by simp
   have G:(Wp++[d])[List.length Wp]? = some d:=by simp
   refine Zz 10 ?_;refine d_ (cm_ hrW aj_ rfl) rfl (d_ (ai_ (aC_ rfl rfl rfl (bx_ zac_ zac_)) (show _=i4_ (List.length Wp:Int) from yae_ _ zac_)) rfl ?_);refine d_ (bH_ hrW aj_ bc_ rfl rfl zaa_ zaa_) rfl (d_ (eq_ hrW zp isAgg281 bc_ rfl (Thg.cells_len _) zae_ (A_ Thg.cells_len G)) rfl (C_ aU_ rfl λb_9=>p_ 0 bc_ rfl rfl rfl rfl rfl rfl (Zz 6 ?_)));refine d_ (cm_ hrW aj_ rfl) rfl (d_ (ai_ (aC_ rfl rfl rfl (bx_ zac_ zac_)) (show _=i4_ (List.length Wp:Int) from yae_ _ zac_)) rfl ?_);obtain⟨Q,X,hy_1⟩:=Cn_ (P:=prog) (n:=Wp.length) (by have q:=hrW;rw[yaj_]at q;exact q);have hr_5:at_ 281 2 Q Wp.length (Wp.flatMap Thg.cells) HwK:=by have q:=X;rw[lm_ Thg.cells 2 Thg.cells_len,List.take_left]at q;exact q
   refine d_ (hy_1 aj_ bc_ rfl rfl) rfl (bT_ 4 hr_5 sizeOf279 rfl rfl rfl rfl (Zz 6 ?_));refine d_ (bS_ (k:=d) (adr:=adr) tK_ runUnderlying278 zeroValue63 rfl rfl zf) rfl (Zz 5 ?_);have hus:=uG_ p d;have hSp:StK 219 279 281 x A B K Wp ((x,.cells #[.map (some B)] 219 (0,0))::(A,.cells #[Q] 279 (0,0))::(B,.map esK cK)::HwK):=⟨esK,cK,Q,HwK,rfl,hEK,hBK,hr_5⟩;have hul_1:List.length (lat (eA_ 0 p) d)<=1000000000:=by have q:=dv_ (eA_ 0 p) d;have q_1:=ow_ p 0;omega
   refine es_ (H':=((b_9,.cells #[i4_ (Thg.kind d),str (Thg.name d)] 281 (0,0))::((C,.cells #[H] 220 (0,0))::((M,.map esw cw_1)::(HUw++((x,.cells #[.map (some B)] 219 (0,0))::(A,.cells #[Q] 279 (0,0))::(B,.map esK cK)::HwK)))))) (l_ e_ (l_ e_ (l_ e_ (x_ (c_ (c_ (c_ s_))) (l_ e_ (l_ e_ (l_ e_ Z_))))))) (λv _ h=>h) ?_;refine J_ (ι:={y:Nat×List Thg×List Thg×List Bool×List Int×Hp×Array MapEntry×Hp // y.1<=List.length (lat (eA_ 0 p) d)/\RJ p S d (lat (eA_ 0 p) d) y.1 y.2.1 y.2.2.1 y.2.2.2.1 y.2.2.2.2.1/\StK 219 279 281 x A B y.2.1 y.2.2.1 y.2.2.2.2.2.2.2/\zR 4 1 jx_ H y.2.2.2.1 y.2.2.2.2.2.1/\IntE (λn:Int=>i4_ n) y.2.2.2.2.2.2.1 (iot p.length) y.2.2.2.2.1/\y.2.1.length+Wp.length=K.length+List.length y.2.2.1}) (λy=>[(4,zp_ x 0),(5,zp_ C 0),(6,.map (some M)),(7,.map (some L)),(8,zp_ A 0),(10,.func (.func 244) #[] #[zp_ C 0,zp_ E 0,zp_ F 0]),(97,.slice (adr d).1 (lat (eA_ 0 p) d).length (adr d).2),(98,i4_ (List.length (lat (eA_ 0 p) d):Int)),(99,i4_ y.1.1)]) (λy=>((C,.cells #[H] 220 (0,0))::(y.1.2.2.2.2.2.1++((M,.map y.1.2.2.2.2.2.2.1 cw_1)::y.1.2.2.2.2.2.2.2)))) (λy=>[mlF prog 281 Thg.val dl_ L (eA_ 0 p) adr,bk_ F (.cells #[.func (.func 243) #[] #[zp_ x 0,zp_ A 0]] 282 (0,0)),bk_ E (.cells #[.slice ad p.length cap] 69 (0,0)),X_ ad (p.flatMap Pc.cells),X_ sad (S.flatMap aa_)]) (λy=>List.length (lat (eA_ 0 p) d) - y.1.1) ⟨((0:Nat),K,Wp,Uw,wl,HUw,esw,((x,.cells #[.map (some B)] 219 (0,0))::(A,.cells #[Q] 279 (0,0))::(B,.map esK cK)::HwK)),by simp,(hI.pop _),hSp,hUw,hWw,rfl⟩ zl zp zh ?_;rintro ⟨⟨j,K_2,W_1,U_2,wl_1,HU_2,es_2,Hs_3⟩,hi_j,hJ,hS_3,a4,b0,hKW⟩;dsimp only at hi_j hJ hS_3 a4 b0 hKW ⊢;refine u_ (S_ e_ (aW_ (g_ e_))) (Zi 2 (λhr_6=>?_) λhr_6=>?_)
   .have ej:j=List.length (lat (eA_ 0 p) d):=by omega
    refine Zz 6 ?_;exact w_ ⟨(K_2,W_1,U_2,wl_1,HU_2,es_2,Hs_3),(by rw[ej]at hJ;exact hJ.done hus),hS_3,a4,b0⟩ (by dsimp only;have q:=hJ.kw.len;rw[yaj_,ybX_]at *;omega) zl (l_ e_ (x_ (c_ s_) (l_ e_ Z_))) zh
   obtain⟨I,e,V,hmx_1⟩:=zge (show j<List.length (lat (eA_ 0 p) d) by omega);obtain⟨hx_3,hx2l⟩:=hus.1 e hmx_1;obtain⟨m,rfl⟩:∃ m:Nat,e=(m:Int):=⟨e.toNat,by omega⟩;have hml:m<p.length:=by omega
   obtain⟨x_2,a9⟩:∃ x_2,p[m]? = some x_2:=⟨_,yaa_ hml⟩;obtain⟨n_1,a7,hn_2,hn_3,hn_4⟩:=hJ.pos hus V a9;have hnl_1:=il_ x_2;refine Zz 10 ?_;refine d_ (P_ as_ R_ rfl rfl (λv _ h=>av_ (n:=1) dV_ zae_ (by exact (bj_ h.1 d)) V) zaa_ zag_) rfl ?_;refine d_ (bw_ (ad:=(adr d).1) bb_ rfl (λv _ h=>by exact (bj_ h.1 d)) (A_ dV_ V 0 _ rfl)) rfl (Zz 7 ?_);refine d_ (qg_ (k:=(m:Int)) (i:=m) (n:=n_1) vq_ xB_ rfl rfl b0 (vw_ hml) a7 (λv h _=>(h.own _ (yab_ (i:=1) rfl)).1)) rfl (Zz 1 ?_);refine vb_ (k:=(m:Int)) (i:=m) 1 vq_ (.inr rfl) xB_ rfl rfl rfl rfl b0 (vw_ hml) a7 λO T=>Zz 6 ?_
   refine d_ (qg_ (k:=(m:Int)) (i:=m) (n:=(n_1 - 1)) vq_ xB_ rfl rfl T (vw_ hml) (by rw[List.getElem?_set_self (by rw[hJ.wll];exact hml)]) (λv h _=>(h.own _ (yab_ (i:=1) rfl)).1)) rfl ?_;refine Zi 0 (λhr_7=>?_) λhr_7=>?_
   .refine Zz 10 ?_
    exact w_ ⟨(j+1,K_2,W_1,U_2,(List.set wl_1 m (n_1 - 1)),HU_2,O,Hs_3),I,(hJ.skip hus V a9 a7 hr_7),hS_3,a4,T,hKW⟩ zab_ zl (l_ e_ (x_ (c_ s_) (l_ e_ Z_))) zh
   refine Zz 6 ?_;refine O_ (DA_ m x_2 p ad cap K_2 W_1 U_2 E x C A F B H HU_2 Hs_3 a9 hp a4 hJ.ul hS_3 (by have q:=hJ.kw.wlen;omega)) rfl rfl (l_ e_ (x_ (c_ s_) E_)) zf rfl λ⟨⟨HB_1,HC_1⟩,U,Y⟩=>?_;dsimp only;dsimp only at U Y;simp only[yaD_,yap_];refine Zz 2 ?_;refine u_ (S_ e_ (aW_ (g_ aJ_))) (Zz 5 ?_);exact w_ ⟨(j+1,(K_2++bO_ K_2 (aI_ x_2)),(W_1++bO_ K_2 (aI_ x_2)),(List.set U_2 m true),(List.set wl_1 m (n_1 - 1)),HB_1,O,HC_1),I,(hJ.take hus V a9 a7 hr_7),Y,U,T,zaS_⟩ zab_ zl zp zh
  have I:i<p.length:=by omega
  obtain⟨e,G⟩:∃ e_1,p[i]? = some e_1:=⟨_,yaa_ I⟩;refine Zz 13 ?_;refine C_ T_ rfl λb_9=>Zz 1 ?_
  refine p_ 0 K_ rfl rfl rfl rfl rfl rfl (Zz 5 ?_);refine f_ (Cw_ e) rfl i_ zt rfl λ⟨⟨nad,ncap⟩,ncl,ncm,ncz⟩=>?_;dsimp only;refine Zz 9 ?_;refine vc_ (k:=(i:Int)) 2 vq_ (.inr rfl) xB_ rfl rfl rfl rfl a0 (CJ_ i) λO cn_1 T=>Zz 11 ?_
  refine J_ (ι:={y:Nat×Hp // y.1<=List.length (al_ e)/\cC_ Thg.val dl_ 3 1 ((eA_ 0 (p.take i))++List.map (λt=>(t,(i:Int))) (List.take y.1 (al_ e))) L y.2}) (λy=>[(2,zp_ E 0),(4,zp_ x 0),(5,zp_ C 0),(6,.map (some M)),(7,.map (some L)),(8,zp_ A 0),(9,zp_ F 0),(10,.func (.func 244) #[] #[zp_ C 0,zp_ E 0,zp_ F 0]),(35,.slice sad S.length a2),(36,i4_ (List.length S:Int)),(37,i4_ k),(46,.slice ad p.length cap),(47,i4_ (List.length p:Int)),(48,i4_ i),(13,i4_ i),(15,.slice nad (al_ e).length ncap),(59,.slice nad (al_ e).length ncap),(60,i4_ (List.length (al_ e):Int)),(61,i4_ y.1.1)]) (λy=>((C,.cells #[H] 220 (0,0))::(a8++((M,.map O cn_1)::(y.1.2++a5))))) (λy=>[X_ nad (List.flatMap Thg.cells (al_ e)),bk_ F (.cells #[.func (.func 243) #[] #[zp_ x 0,zp_ A 0]] 282 (0,0)),bk_ E (.cells #[.slice ad p.length cap] 69 (0,0)),X_ ad (p.flatMap Pc.cells),X_ sad (S.flatMap aa_)]) (λy=>List.length (al_ e) - y.1.1) ⟨((0:Nat),HM_1),by simp,(by rw[ybH_,ybf_,yas_];exact a6)⟩ zl (l_ (c_ e_) (x_ (c_ (c_ s_)) (l_ (c_ e_) (x_ (c_ s_) E_)))) zh ?_;rintro ⟨⟨j,HM_2⟩,hi_j,J⟩;dsimp only at hi_j J ⊢;have hnl_1:=il_ e;have hub:List.length ((eA_ 0 (p.take i))++List.map (λt=>(t,(i:Int))) (List.take j (al_ e)))<=400000000:=by have q:=ow_ (p.take i) 0;have q_1:=ybQ_ i p;have q_2:=ybQ_ j (al_ e);have q_3:=il_ e;rw[yaj_,yaC_];omega
  refine u_ (S_ e_ (aW_ (g_ e_))) (Zi 2 (λhr_3=>?_) λhr_3=>?_)
  .refine Zi 10 (λX=>?_) λX=>?_
   .refine Zz 10 ?_
    exact w_ ⟨(i+1,Z,U_1,a8,O,cn_1,HM_2,a5),I,hR.skip G (λq=>by rw[q]at X;exact X rfl),a3,a1,(by rw[lk_,qR_ G];exact T),(by rw[ql_ G];rw[show List.take j (al_ e)=al_ e from yac_ zaa_]at J;exact J)⟩ zab_ zl zp (λ_ _ h=>h.2)
   refine Zz 6 ?_;refine O_ (DA_ i e p ad cap Z Z U_1 E x C A F B H a8 a5 G hp a3 hR.ul a1 (by have q:=hR.kw.wlen;have q_1:=jF_ p S;omega)) rfl rfl (l_ e_ (x_ (c_ s_) (c_ aJ_))) zf rfl λ⟨⟨HB_1,HC_1⟩,U,Y⟩=>?_;dsimp only;dsimp only at U Y;simp only[yaD_,yap_];refine Zz 2 ?_;refine u_ (S_ e_ (aW_ (g_ (g_ e_)))) (Zz 5 ?_);exact w_ ⟨(i+1,(Z++bO_ Z (aI_ e)),(List.set U_1 i true),HB_1,O,cn_1,HM_2,HC_1),I,hR.take G (yaw_ zaa_),U,Y,(by rw[lk_,qR_ G];exact T),(by rw[ql_ G];rw[show List.take j (al_ e)=al_ e from yac_ zaa_]at J;exact J)⟩ zab_ zl zp (λ_ _ h=>h.2)
  have hlt_1:j<List.length (al_ e):=by omega
  obtain⟨d,ht_1⟩:∃ e_1,(al_ e)[j]? = some e_1:=⟨_,yaa_ hlt_1⟩;refine Zz 12 ?_;refine C_ aU_ rfl λb_10=>p_ 0 bc_ rfl rfl rfl rfl rfl rfl (Zz 6 ?_)
  refine B_ as_ R_ bJ_ rfl rfl rfl rfl rfl rfl λb_11=>?_;have hbb_1:=(show (lat ((eA_ 0 (p.take i))++List.map (λt=>(t,(i:Int))) (List.take j (al_ e))) d).length<=400000000 from ybn_ (dv_ _ _) hub);refine fC_ (k:=d) tK_ J runUnderlying278 zeroValue63 rfl rfl (c_ (c_ (c_ (c_ (g_ s_))))) rfl λes_1 ce_1 ie_1 se_1 ve_1 Hk_1 Hx_1 ho_1 hw_1=>Zz 1 ?_
  refine aH_ (news:=List.flatMap dl_ [(i:Int)]) nS_ hw_1 rfl rfl zp rfl (fz_ zp) (λu hu=>aF_ ll_ hu) zal_ zaa_ rfl λQ Hr_1 hr_1=>?_;have hq_1:=zsa hr_1;refine Zz 1 ?_;refine df_ (k:=d) (dd:=(i:Int)) ho_1 (by rw[cN_];exact hq_1) rfl rfl rfl (cM_ (l_ (g_ e_) (x_ s_ s_))) λH_1 J=>?_;refine Zz 2 ?_;refine u_ (S_ (g_ e_) (S_ (g_ e_) (S_ (g_ e_) (aW_ (g_ e_))))) (Zz 5 ?_);exact w_ ⟨(j+1,H_1),hlt_1,(by rw[take_snoc ht_1,yaz_,<-yap_];exact J)⟩ zab_ zl zp zh
 have hls_1:k<S.length:=by omega
 obtain⟨s_1,hs_1⟩:∃ e_1,S[k]? = some e_1:=⟨_,yaa_ hls_1⟩;refine Zz 18 ?_;refine d_ (y_ cr_ rfl rfl) rfl (O_ (so_ (Thg.mk 1 s_1) K K x A B Hs_1 hS_1 (by have q:=(sl_ ([]:List Pc) (S.take k)).wlen;have q_1:=jF_ ([]:List Pc) (S.take k);have q_2:=ybQ_ k S;simp only[yay_]at q_1;rw[hK];omega)) rfl rfl (c_ (c_ (c_ aJ_))) zt rfl λ⟨HA_3,hA_3⟩=>?_);dsimp only;refine Zz 2 ?_;refine u_ (S_ (g_ e_) (S_ (g_ e_) (aW_ (g_ e_)))) (Zz 5 ?_);exact w_ ⟨(k+1,(K++bO_ K [(Thg.mk 1 s_1)]),HA_3),hls_1,(by rw[yO_ hs_1,<-hK]),hA_3⟩ zab_ zl zp zh
end Go.Proofs.YtbffkokbdeppaaaGreatDoor
namespace Go.Vs
open Go Go.Sx
abbrev SrS (l:List Str):Prop:=l.Pairwise λx y=>x<y
theorem xj_ {l:List Str} {s:Str} (e:s≠[]) (d:s ∉ l):eg_ l s=l.take (kS l s)++[s]++l.drop (kS l s):=by
  grind[eg_]
structure Rcd where
  a:List Str
  aad:Ao
  acap:Nat
  r:List Str
  rad:Ao
  rcap:Nat
  f:List Str
  fad:Ao
  fcap:Nat
end Go.Vs
namespace Go.Proofs.YtbffkokbdeppaaaGreatDoor
open Go Go.Sx Go.Proofs Tryz
attribute [local irreducible] Code.wp wpList wpAnyH
open Go.Vs
theorem Bn_ {p:List Pc} {x:Pc} (d:x∈p) {s:Str} (e:s=x.a\/s=x.b\/s=x.c) (h:s≠[]):s∈atS p:=by
  refine (jT_ p s).2 (.inl ((dP_ p s).2 ?_));refine yaB_.2 ⟨x,d,yaQ_.2 ⟨?_,by grind⟩⟩
  grind
theorem atS_ne {p:List Pc} {s:Str} (h:s∈atS p):s≠[]:=by
 rcases (jT_ p s).1 h with h|rfl|rfl
 .obtain⟨x,_,d⟩:=yaB_.1 ((dP_ p s).1 h)
  simpa using (yaQ_.1 d).2
 all_goals grind
def fd_ (S:List Str):List Pc:=S.map λs=>⟨1,s,[],[42],[],[],[],0,0,-1⟩
theorem tY_ {x:Pc} {s:Str} (h:(⟨1,s⟩:Thg)∈aI_ x):s=x.c:=by
  grind[aI_]
theorem yw_ {p q:List Pc} {S:List Str} (U:∀ x∈p,Usb p S x->∃ y∈q,∃ n,{ y with frm:=n }=x) {y:Fc} (h:Der (p++fd_ S) (atS (p++fd_ S)) y):Rch p S ⟨1,y.a⟩->Der (q++fd_ S) (atS (q++fd_ S)) y/\(y.kind=1->Rch p S ⟨1,y.b⟩)/\(y.kind=2->Rch p S ⟨1,y.b⟩/\Rch p S ⟨2,y.r⟩)/\(y.kind=3->Rch p S ⟨3,y.r⟩):=by
 have top:Rch p S ⟨1,[42]⟩:=.base (by grind[dF_]);have G:Rch p S ⟨1,[33]⟩:=.base (by grind[dF_])
 have g:∀ {x:Pc} {t:Thg},x∈p++fd_ S->(∀ u∈al_ x,Rch p S u)->t∈aI_ x->Rch p S t:=fun {x t} m hn ht=>by
   rcases yai_.1 m with m|m
   . exact .give m hn ht
   . obtain⟨s,_,rfl⟩:=yan_.1 m
     grind[aI_]
 have k:∀ {x:Pc},x∈p++fd_ S->(∀ u∈al_ x,Rch p S u)->∃ y∈q++fd_ S,∃ n,{ y with frm:=n }=x:=fun {x} m hn=>by
   rcases yai_.1 m with m|m
   . obtain⟨y,A,n,e⟩:=U x m hn
     grind
   grind
 have C:∀ {a:Str},a∈atS (p++fd_ S)->Rch p S ⟨1,a⟩->a∈atS (q++fd_ S):=fun {a} ha v=>by
   have I:=atS_ne ha;cases v with
   | base F =>
     simp only[dF_,yai_,yal_,yat_,ybd_,Thg.mk.injEq,true_and,yan_]at F;rcases F with (rfl|rfl)|⟨s,V,rfl⟩
     . grind[jT_]
     . grind[jT_]
     . exact Bn_ (x:=⟨1,s,[],[42],[],[],[],0,0,-1⟩) (yaF_ _ (yan_.2 ⟨s,V,rfl⟩)) (.inl rfl) I
   | give m hn ht =>
     grind[Bn_,tY_]
 have Q:∀ {a b:Str},(ah_ a b).kind=1:=rfl;have J:∀ {a b:Str},(ah_ a b).kind≠2:=by grind
 have L:∀ {a b:Str},(ah_ a b).kind≠3:=by grind
 have K:∀ {a b r:Str},(az_ a r b).kind≠1:=by grind[az_]
 have N:∀ {a b r:Str},(az_ a r b).kind≠3:=by grind[az_]
 have M:∀ {a r:Str} {lo hi:Int},(am_ a r lo hi).kind≠1:=by grind[am_]
 have O:∀ {a r:Str} {lo hi:Int},(am_ a r lo hi).kind≠2:=by grind[am_]
 have E:∀ {a b:Str},Der (q++fd_ S) (atS (q++fd_ S)) (ah_ a b)->Rch p S ⟨1,b⟩->Der (q++fd_ S) (atS (q++fd_ S)) (ah_ a b)/\((ah_ a b).kind=1->Rch p S ⟨1,(ah_ a b).b⟩)/\((ah_ a b).kind=2->Rch p S ⟨1,(ah_ a b).b⟩/\Rch p S ⟨2,(ah_ a b).r⟩)/\((ah_ a b).kind=3->Rch p S ⟨3,(ah_ a b).r⟩):=λd h=>⟨d,λ_=>h,λq=>absurd q J,λq=>absurd q L⟩
 have H:∀ {a r b:Str},Der (q++fd_ S) (atS (q++fd_ S)) (az_ a r b)->Rch p S ⟨1,b⟩->Rch p S ⟨2,r⟩->Der (q++fd_ S) (atS (q++fd_ S)) (az_ a r b)/\((az_ a r b).kind=1->Rch p S ⟨1,(az_ a r b).b⟩)/\((az_ a r b).kind=2->Rch p S ⟨1,(az_ a r b).b⟩/\Rch p S ⟨2,(az_ a r b).r⟩)/\((az_ a r b).kind=3->Rch p S ⟨3,(az_ a r b).r⟩):=λd h B=>⟨d,λq=>absurd q K,λ_=>⟨h,B⟩,λq=>absurd q N⟩
 have P:∀ {a r:Str} {lo hi:Int},Der (q++fd_ S) (atS (q++fd_ S)) (am_ a r lo hi)->Rch p S ⟨3,r⟩->Der (q++fd_ S) (atS (q++fd_ S)) (am_ a r lo hi)/\((am_ a r lo hi).kind=1->Rch p S ⟨1,(am_ a r lo hi).b⟩)/\((am_ a r lo hi).kind=2->Rch p S ⟨1,(am_ a r lo hi).b⟩/\Rch p S ⟨2,(am_ a r lo hi).r⟩)/\((am_ a r lo hi).kind=3->Rch p S ⟨3,(am_ a r lo hi).r⟩):=λd h=>⟨d,λq=>absurd q M,λq=>absurd q O,λ_=>h⟩
 refine h.least (T:=λy=>Rch p S ⟨1,y.a⟩->Der (q++fd_ S) (atS (q++fd_ S)) y/\(y.kind=1->Rch p S ⟨1,y.b⟩)/\(y.kind=2->Rch p S ⟨1,y.b⟩/\Rch p S ⟨2,y.r⟩)/\(y.kind=3->Rch p S ⟨3,y.r⟩)) ?_;intro y A v;cases A with
 | r1 h=>exact E (Der.step (.r1 (C h v))) v
 | r2 h=>exact E (Der.step (.r2 (C h v))) top
 | r10 m hk h =>
   obtain⟨y,A,n,e⟩:=k m (by grind[al_]);refine H ?_ v (g m (by grind[al_]) zaV_);subst e;exact Der.step (One.r10 (x:=y) A hk (C h v))
 | r3 m hk h =>
   obtain⟨y,A,n,e⟩:=k m zbG_;refine E ?_ (g m zbG_ zaV_);subst e;exact Der.step (One.r3 (x:=y) A hk (h v).1)
 | r4 m hk h B =>
   obtain⟨y,A,n,e⟩:=k m zbG_;refine E ?_ (g m zbG_ zaV_);subst e;exact Der.step (One.r4 (x:=y) A hk (h v).1 (B v).1)
 | r5 m hk h =>
   obtain⟨y,A,n,e⟩:=k m zbh_;refine H ?_ (g m zbh_ zaV_) (g m zbh_ zaV_);subst e;exact Der.step (One.r5 (x:=y) A hk (h v).1)
 | r6 m hk h =>
   obtain⟨y,A,n,e⟩:=k m zbH_;refine H ?_ ((h v).2.2.1 rfl).1 (g m zbH_ zaV_);subst e;exact Der.step (One.r6 (x:=y) A hk (h v).1)
 | r7 m hk h B =>
   have F:=((h v).2.2.1 rfl).1;obtain⟨y,A,n,e⟩:=k m zbH_;refine H ?_ ((B F).2.2.1 rfl).1 (g m zbH_ zaV_);subst e;exact Der.step (One.r7 (x:=y) A hk (h v).1 (B F).1)
 | r8 m hk h B =>
   have F:=((h v).2.2.1 rfl).1;obtain⟨y,A,n,e⟩:=k m zbh_;refine E ?_ (g m zbh_ zaV_);subst e;exact Der.step (One.r8 (x:=y) A hk (h v).1 (B F).1)
 | r9 h B=>exact E (Der.step (.r9 (h v).1 (B ((h v).2.2.1 rfl).1).1)) G
 | r11 m hk h =>
   obtain⟨y,A,n,e⟩:=k m zbv_;refine P ?_ (g m zbv_ zaV_);subst e;exact Der.step (One.r11 (x:=y) A hk (h v).1)
 | r12 h B hm hl=>exact P (Der.step (.r12 (h v).1 (B v).1 trivial hl)) ((h v).2.2.2 rfl)
 | r13 h B hm hl=>exact E (Der.step (.r13 (h v).1 (B v).1 trivial hl)) G
 | r14 m hk h h1 h2 =>
   obtain⟨y,A,n,e⟩:=k m zbv_;refine E ?_ (g m zbv_ zaV_);subst e;exact Der.step (One.r14 (x:=y) A hk (h v).1 h1 h2)
def mZ_ (a:Ax):Prop:=a.kind=5\/a.kind=6\/a.kind=7
instance (a:Ax):Decidable (mZ_ a):=by unfold mZ_;infer_instance
def Mat (l:List Ax) (p:List Pc) (S:List Str) (i:Int):Prop:=(∃ a,l[i.toNat]? = some a/\mZ_ a)\/∃ x∈p,x.frm=i/\Usb p S x
def matB (l:List Ax) (p:List Pc) (S:List Str) (i:Int):Bool:=((l[i.toNat]?).any λa=>decide (mZ_ a))||p.any λx=>decide (x.frm=i)&&usbB p S x
theorem pe_ {l:List Ax} {p:List Pc} {S:List Str} {i:Int}:matB l p S i=true↔Mat l p S i:=by
  grind[matB,Mat,zi_]
def eL_ (l:List Ax) (p:List Pc) (S:List Str) (n:Nat):List Int:=(iot n).filter λi=>matB l p S i
theorem tD_ {l:List Ax} {p:List Pc} {S:List Str} {n:Nat} (h:Mat l p S n):eL_ l p S (n+1)=eL_ l p S n++[(n:Int)]:=by
  unfold eL_
  grind[lk_,pe_]
theorem wx_ {l:List Ax} {p:List Pc} {S:List Str} {n:Nat} (h:¬ Mat l p S n):eL_ l p S (n+1)=eL_ l p S n:=by
  unfold eL_
  grind[lk_,pe_]
theorem qP_ {l:List Ax} {p:List Pc} {S:List Str}:eL_ l p S 0=[]:=by simp[eL_,iot]
theorem Ak_ {l:List Ax} {p:List Pc} {S:List Str} {n:Nat} {i:Int}:i∈eL_ l p S n↔(0<=i/\i<n)/\Mat l p S i:=by
 unfold eL_;rw[yaQ_,pe_];constructor
 .grind[iot]
 rintro ⟨⟨e,h⟩,d⟩;refine⟨?_,d⟩;simp only[iot,yan_,ycx_];exact⟨i.toNat,by omega,by simp;omega⟩
theorem tE_ {l:List Ax} {p:List Pc} {S:List Str} (n:Nat):(eL_ l p S n).length<=n:=by
  grind[eL_,iot]
def eB_ (l:List Ax) (w:List Int):List Ax:=w.filterMap λi=>l[i.toNat]?
theorem ky_ {l:List Ax} {w:List Int} {i:Int} {a:Ax} (h:l[i.toNat]? = some a):eB_ l (w++[i])=eB_ l w++[a]:=by simp[eB_,h]
theorem lQ_ {l:List Ax} {w:List Int} {a:Ax}:a∈eB_ l w↔∃ i∈w,l[i.toNat]? = some a:=by simp[eB_]
theorem jq_:∀ {l:List Ax} {i:Nat} {q:Pc},q∈cB_ i l↔∃ (j:Nat) (a:Ax),l[j]? = some a/\q∈a.pieces ((i+j:Nat):Int)
 | [],i,q=>by simp[cB_]
 | x::l,i,q=>by
   rw[cB_,yai_,jq_];constructor
   . rintro (h|⟨j,a,d,e⟩)
     . exact⟨0,x,rfl,h⟩
     . exact⟨j+1,a,by grind,by grind⟩
   grind
theorem nb_ {a:Ax} {q:Pc} {f:Int} (g:Int) (h:q∈a.pieces f):∃ y∈a.pieces g,∃ n,{ y with frm:=n }=q:=by
  have d:a.pieces f=(a.pieces 0).map (shift f):=by have:=Ax.pieces_shift 0 f a;grind
  have e:a.pieces g=(a.pieces 0).map (shift g):=by have:=Ax.pieces_shift 0 g a;grind
  rw[d]at h;obtain⟨z,k,rfl⟩:=yan_.1 h;exact⟨shift g z,by grind,z.frm+f,rfl⟩
theorem to_ {l:List Ax} {w:List Int}:∀ x∈cB_ 0 (eB_ l w),∃ y∈cB_ 0 l,∃ n,{ y with frm:=n }=x:=λx k=>by
  obtain⟨j,a,h,d⟩:=jq_.1 k;obtain⟨i,_,hi⟩:=lQ_.1 (yab_ h);obtain⟨y,m,n,e⟩:=nb_ ((0+i.toNat:Nat):Int) d
  grind[jq_]
end Go.Proofs.YtbffkokbdeppaaaGreatDoor
namespace Go.Vs
open Go Go.Sx
def orF:List Int->Int
  | []=>0
  | x::l=>if x=0 then orF l else x
theorem zY_:∀ {l:List Int} {i:Nat} {x:Int},(∀ y∈l.take i,y=0)->l[i]? = some x->x≠0->orF l=x
  | [],_,_,_,h,_=>by simp at h
  | y::l,0,x,_,h,hx=>by grind[orF]
  | y::l,i+1,x,h0,h,hx=>by
    have d:y=0:=h0 y zai_;rw[orF,yaq_ d];exact zY_ (i:=i) (λz e=>h0 z zak_) zak_ hx
theorem tq_:∀ {l:List Int},(∀ y∈l,y=0)->orF l=0
  | [],_=>rfl
  | y::l,h=>by rw[orF,yaq_ (h y zai_)];exact tq_ λz d=>h z zaH_
theorem cI_neg (x y:Int):Lib.compareInt x y<0↔x<y:=by grind[Lib.compareInt]
theorem sk_ (x y:Int):Lib.compareInt x y=0↔x=y:=by grind[Lib.compareInt]
theorem pJ_:∀ (x y:Str),Lib.compareBytes x y<0↔x<y
 | [],[]=>by grind[Lib.compareBytes]
 | [],b::y=>by simp[Lib.compareBytes]
 | a::x,[]=>by simp[Lib.compareBytes]
 | a::x,b::y=>by
   rw[Lib.compareBytes,ybW_]
   by_cases d:a<b
   . grind
   . by_cases h:b<a
     . grind
     . have e:a=b:=UInt8.le_antisymm (UInt8.not_lt.1 h) (UInt8.not_lt.1 d)
       rw[yag_ d,yag_ h,pJ_ x y];simp[e]
theorem hr_:∀ (x y:Str),Lib.compareBytes x y=0↔x=y
 | [],[]=>by grind[Lib.compareBytes]
 | [],b::y=>by grind[Lib.compareBytes]
 | a::x,[]=>by grind[Lib.compareBytes]
 | a::x,b::y=>by
   rw[Lib.compareBytes]
   by_cases d:a<b
   . grind
   . by_cases h:b<a
     . grind
     . have e:a=b:=UInt8.le_antisymm (UInt8.not_lt.1 h) (UInt8.not_lt.1 d)
       rw[yag_ d,yag_ h,hr_ x y];simp[e]
theorem Ct_ (x:Int) (l:List Int):orF (x::l)<0↔x<0\/x=0/\orF l<0:=by
  grind[orF]
theorem kb_ (x:Int) (l:List Int):orF (x::l)=0↔x=0/\orF l=0:=by
  grind[orF]
theorem ws_:orF []=0:=rfl
theorem nT_ (x y:Int):Lib.compareInt y x=- Lib.compareInt x y:=by grind[Lib.compareInt]
theorem wV_:∀ (x y:Str),Lib.compareBytes y x=- Lib.compareBytes x y
 | [],[]=>by grind[Lib.compareBytes]
 | [],b::y=>by grind[Lib.compareBytes]
 | a::x,[]=>by grind[Lib.compareBytes]
 | a::x,b::y=>by
   rw[Lib.compareBytes,Lib.compareBytes]
   by_cases d:a<b
   . grind
   . by_cases e:b<a
     . grind
     . rw[yag_ e,yag_ d,yag_ d,yag_ e,wV_ x y]
theorem jw_:∀ (x y:Str),Lib.compareBytes x y=if x<y then -1 else if y<x then 1 else 0
 | [],[]=>by grind[Lib.compareBytes]
 | [],b::y=>by simp[Lib.compareBytes]
 | a::x,[]=>by simp[Lib.compareBytes]
 | a::x,b::y=>by
   rw[Lib.compareBytes]
   by_cases d:a<b
   . grind[List.cons_lt_cons_iff]
   . by_cases h:b<a
     . grind[List.cons_lt_cons_iff]
     . have e:a=b:=UInt8.le_antisymm (UInt8.not_lt.1 h) (UInt8.not_lt.1 d)
       subst e;rw[yag_ d,yag_ h,jw_ x y]
       grind[List.cons_lt_cons_iff]
def Tr3 (x y z:Int):Prop:=(x<=0->y<=0->z<=0/\(z=0->x=0/\y=0))/\(x=0->y=0->z=0)
theorem Tr3.cI (a b c:Int):Tr3 (Lib.compareInt a b) (Lib.compareInt b c) (Lib.compareInt a c):=by
  grind[Tr3,Lib.compareInt]
theorem Tr3.cS (a b c:Str):Tr3 (Lib.compareBytes a b) (Lib.compareBytes b c) (Lib.compareBytes a c):=by
  have e:=pJ_ a b;have h:=hr_ a b;have k:=pJ_ b c;have d:=hr_ b c;have v:=pJ_ a c;have m:=hr_ a c;constructor
  all_goals grind
theorem Tr3.or {x y z e d k:Int} (h:Tr3 x y z) (m:Tr3 e d k):Tr3 (if x=0 then e else x) (if y=0 then d else y) (if z=0 then k else z):=by
  grind[Tr3]
theorem Tr3.nil:Tr3 0 0 0:=by grind[Tr3]
theorem Tr3.orF {x y z:Int} {l m n:List Int} (h:Tr3 x y z) (d:Tr3 (Go.Vs.orF l) (Go.Vs.orF m) (Go.Vs.orF n)):Tr3 (Go.Vs.orF (x::l)) (Go.Vs.orF (y::m)) (Go.Vs.orF (z::n)):=by
  rw[Go.Vs.orF,Go.Vs.orF,Go.Vs.orF];exact h.or d
theorem hI_ {x y:Int} {l m:List Int} (h:y=-x) (d:orF m=- orF l):orF (y::m)=- orF (x::l):=by
  grind[orF]
def dW_:List Str->List Str->Int
  | [],[]=>0
  | [],_::_=>-1
  | _::_,[]=>1
  | x::xs,y::ys=>if Lib.compareBytes x y=0 then dW_ xs ys else Lib.compareBytes x y
theorem rj_:∀ a b,dW_ a b=0↔a=b
  | [],[]=>by simp[dW_]
  | [],_::_=>by simp[dW_]
  | _::_,[]=>by simp[dW_]
  | x::xs,y::ys=>by
    rw[dW_,yaP_,<-hr_,<-rj_ xs ys]
    grind
theorem Tr3.cL:∀ a b c,Tr3 (dW_ a b) (dW_ b c) (dW_ a c)
  | [],[],[]=>by grind[Tr3]
  | [],[],_::_=>by grind[Tr3,dW_]
  | [],_::_,[]=>by grind[Tr3,dW_]
  | [],_::_,_::_=>by grind[Tr3,dW_]
  | _::_,[],[]=>by grind[Tr3,dW_]
  | _::_,[],_::_=>by grind[Tr3,dW_]
  | _::_,_::_,[]=>by grind[Tr3,dW_]
  | x::xs,y::ys,z::zs=>by
    rw[dW_,dW_,dW_];exact (Tr3.cS x y z).or (Tr3.cL xs ys zs)
namespace Con
def core:Con->Con
  | mk k n l h _ _ ps=>mk k n l h none 0 (cores ps)
where cores:List Con->List Con
  | []=>[]
  | p::ps=>core p::cores ps
theorem cores_map:∀ ps:List Con,core.cores ps=ps.map core
  | []=>rfl
  | p::ps=>by rw[core.cores,cores_map ps];rfl
theorem core_eq (c:Con):c.core=mk c.kind c.name c.lo c.hi none 0 (c.parts.map core):=by cases c;grind[core,cores_map,kind,name,lo,hi,parts]
def cmp:Con->Con->Int
  | mk k n l h _ _ ps,d=>orF [Lib.compareInt ((1+sz.szs ps:Nat):Int) (d.sz:Int),Lib.compareInt k d.kind,Lib.compareBytes n d.name,Lib.compareInt l d.lo,Lib.compareInt h d.hi,cmps ps d.parts]
where cmps:List Con->List Con->Int
  | [],[]=>0
  | [],_::_=>-1
  | _::_,[]=>1
  | p::ps,q::qs=>if cmp p q=0 then cmps ps qs else cmp p q
theorem cmp_eq (c d:Con):cmp c d=orF [Lib.compareInt (c.sz:Int) (d.sz:Int),Lib.compareInt c.kind d.kind,Lib.compareBytes c.name d.name,Lib.compareInt c.lo d.lo,Lib.compareInt c.hi d.hi,cmp.cmps c.parts d.parts]:=by cases c;rfl
mutual
theorem cmp_anti:∀ c d:Con,cmp d c=- cmp c d
  | mk k n l h a cp ps,mk k' n' l' h' a' cp' ps'=>by
    rw[cmp,cmp];exact hI_ (nT_ _ _) (hI_ (nT_ _ _) (hI_ (wV_ _ _) (hI_ (nT_ _ _) (hI_ (nT_ _ _) (hI_ (rh_ ps ps') rfl)))))
theorem rh_:∀ ps e:List Con,cmp.cmps e ps=- cmp.cmps ps e
  | [],[]=>rfl
  | [],_::_=>rfl
  | _::_,[]=>rfl
  | p::ps,q::e=>by
    have m:=cmp_anti p q;have v:=rh_ ps e
    grind[cmp.cmps]
end
mutual
theorem cmp_tr:∀ a b c:Con,Tr3 (cmp a b) (cmp b c) (cmp a c)
  | mk k n l h a cp ps,mk k' n' l' h' a' cp' ps',mk k2 n2 l2 h2 a2 cp2 ps2=>by
    rw[cmp,cmp,cmp];exact (Tr3.cI _ _ _).orF ((Tr3.cI _ _ _).orF ((Tr3.cS _ _ _).orF ((Tr3.cI _ _ _).orF ((Tr3.cI _ _ _).orF ((wQ_ ps ps' ps2).orF Tr3.nil)))))
theorem wQ_:∀ a b c:List Con,Tr3 (cmp.cmps a b) (cmp.cmps b c) (cmp.cmps a c)
  | [],[],[]=>by grind[Tr3]
  | [],[],_::_=>by grind[Tr3,cmp.cmps]
  | [],_::_,[]=>by grind[Tr3,cmp.cmps]
  | [],_::_,_::_=>by grind[Tr3,cmp.cmps]
  | _::_,[],[]=>by grind[Tr3,cmp.cmps]
  | _::_,[],_::_=>by grind[Tr3,cmp.cmps]
  | _::_,_::_,[]=>by grind[Tr3,cmp.cmps]
  | x::xs,y::ys,z::zs=>by
    rw[cmp.cmps,cmp.cmps,cmp.cmps];exact (cmp_tr x y z).or (wQ_ xs ys zs)
end
mutual
theorem cmp_zero:∀ a b:Con,cmp a b=0↔a.core=b.core
  | mk k n l h a cp ps,mk k' n' l' h' a' cp' ps'=>by
    rw[cmp,core,core];simp only[kb_,ws_];simp only[sk_,hr_,rf_ ps ps',and_true,mk.injEq,kind,name,lo,hi,parts,true_and];constructor
    . grind
    . rintro ⟨e,B,m,A,d⟩
      refine⟨?_,e,B,m,A,d⟩;have:=szs_core ps ps' d
      grind[sz]
theorem rf_:∀ a b:List Con,cmp.cmps a b=0↔core.cores a=core.cores b
  | [],[]=>by grind[cmp.cmps]
  | [],_::_=>by grind[cmp.cmps,core.cores]
  | _::_,[]=>by grind[cmp.cmps,core.cores]
  | x::xs,y::ys=>by
    rw[cmp.cmps,core.cores,core.cores,yaP_,<-cmp_zero x y,<-rf_ xs ys]
    grind
theorem sz_core:∀ a b:Con,a.core=b.core->a.sz=b.sz
  | mk k n l h a cp ps,mk k' n' l' h' a' cp' ps'=>by
    rw[core,core,mk.injEq];rintro ⟨_,_,_,_,_,_,d⟩;have:=szs_core ps ps' d
    grind[sz]
theorem szs_core:∀ a b:List Con,core.cores a=core.cores b->sz.szs a=sz.szs b
  | [],[]=>λ_=>rfl
  | [],_::_=>by grind[core.cores]
  | _::_,[]=>by grind[core.cores]
  | x::xs,y::ys=>by
    rw[core.cores,core.cores,yaP_];rintro ⟨v,e⟩;have:=sz_core x y v;have:=szs_core xs ys e
    grind[sz.szs]
end
theorem cmp_self (a:Con):cmp a a=0:=(cmp_zero a a).2 rfl
end Con
def Ax.wgt (x:Ax):Int:=(if x.left.kind=0 then 0 else (x.left.sz:Int))+(if x.right.kind=0 then 0 else (x.right.sz:Int))+(x.roles.length:Int)+(if x.role=[] then 0 else 1)+(if x.a=[] then 0 else 1)+(if x.b=[] then 0 else 1)
def Ax.cmp (x y:Ax):Int:=orF [Lib.compareInt x.wgt y.wgt,Lib.compareInt x.kind y.kind,Con.cmp x.left y.left,Con.cmp x.right y.right,dW_ x.roles y.roles,Lib.compareBytes x.role y.role,Lib.compareBytes x.a y.a,Lib.compareBytes x.b y.b]
theorem Ax.cmp_tr (x y z:Ax):Tr3 (cmp x y) (cmp y z) (cmp x z) :=
  (Tr3.cI _ _ _).orF ((Tr3.cI _ _ _).orF ((Con.cmp_tr _ _ _).orF ((Con.cmp_tr _ _ _).orF ((Tr3.cL _ _ _).orF ((Tr3.cS _ _ _).orF ((Tr3.cS _ _ _).orF ((Tr3.cS _ _ _).orF Tr3.nil)))))))
def Ax.alk (x y:Ax):Prop:=x.kind=y.kind/\x.left.core=y.left.core/\x.right.core=y.right.core/\x.roles=y.roles/\x.role=y.role/\x.a=y.a/\x.b=y.b
theorem Con.core_kind {a b:Con} (h:a.core=b.core):a.kind=b.kind:=by
  grind[core_eq]
theorem Ax.cmp_zero (x y:Ax):cmp x y=0↔x.alk y:=by
  grind[cmp,alk,kb_,ws_,sk_,hr_,Con.cmp_zero,rj_,wgt,Con.core_kind,Con.sz_core]
theorem Ax.cmp_lt {x y z:Ax} (h:cmp x y<0) (d:cmp y z<0):cmp x z<0:=by
  have:=cmp_tr x y z
  grind[Tr3]
end Go.Vs
namespace Go.Proofs.YtbffkokbdeppaaaGreatDoor
open Go Go.Sx Go.Proofs Tryz
attribute [local irreducible] Code.wp wpList wpAnyH
open Go.Vs
instance:Inhabited Fc:=⟨⟨0,[],[],[],0,0⟩⟩
theorem fg_ (x y:Int):Fn0 prog 125 #[i4_ x,i4_ y] (i4_ (Lib.compareInt x y)) :=
  cG_ (callable func125 rfl rfl) λv _ _=>(Tryz.cmp_Compare_int x y v.w).mono zam_
theorem gY_ (x y:Str):Fn0 prog 128 #[str x,str y] (i4_ (Lib.compareBytes x y)) :=
  cG_ (callable func128 rfl rfl) λv _ _=>(Tryz.strings_Compare ⟨x.toArray⟩ ⟨y.toArray⟩ v.w).mono zam_
def nD_ (x y:Fc):Int:=orF [Lib.compareInt x.kind y.kind,Lib.compareBytes x.a y.a,Lib.compareBytes x.b y.b,Lib.compareBytes x.r y.r,Lib.compareInt x.lo y.lo,Lib.compareInt x.hi y.hi]
theorem Bd_ (x y:Fc):nD_ x y<0↔x.lt y:=by
  grind[nD_,Fc.lt,Ct_,cI_neg,sk_,pJ_,hr_,orF]
theorem wt_ (l:List Int) (ad:Ao) (cap:Nat) (hl:l.length<=1000):Tri prog 124 #[.slice ad l.length cap] [] [X_ ad (l.flatMap dl_)] (λ_:Unit=>i4_ (orF l)) (λ_=>[]) (λ_=>[]):=by
 refine j_ func124 rfl rfl ntmps124 rfl λA=>?_;refine Zz 19 ?_;refine J_ (ι:={y:Nat // y<=l.length/\∀ z∈l.take y,z=0}) (λy=>[(3,i4_ 0),(6,.slice ad l.length cap),(7,i4_ (List.length l:Int)),(8,i4_ y.1)]) (λy=>([])) (λy=>[X_ ad (l.flatMap dl_)]) (λy=>l.length - y.1) ⟨(0:Nat),by simp,by simp⟩ zl i_ zh ?_;rintro ⟨i,hi,d⟩;dsimp only at hi d ⊢;refine Zi 2 (λm=>?_) λm=>?_
 .refine Zz 13 ?_
  exact ac_ results124 () (bi_ rfl (tq_ λy h=>d y (by rw[yac_ zaa_];exact h)).symm) i_ zt
 obtain⟨k,B,e,x⟩:=zge (show i<l.length by omega);refine Zi 19 (λv=>?_) λv=>?_
 .refine Zz 10 ?_
  exact w_ ⟨i+1,k,λy h=>by rw[yau_,e]at h;simp only[ybL_,yai_,yam_]at h;rcases h with h|rfl;exact d y h;omega⟩ zab_ zl i_ zh
 refine Zz 10 ?_;exact ac_ results124 () (bi_ rfl (zY_ d e zaf_).symm) i_ zt
theorem cmpF_c (x y:Fc):Fn0 prog 151 #[Fc.val x,Fc.val y] (i4_ (nD_ x y)):=by
  refine j_ func151 rfl rfl ntmps151 rfl λe=>?_;refine Zz 2 ?_;refine L_ rfl rfl λh=>L_ rfl rfl λk=>Zz 5 ?_
  refine G_ 9 [0,1,2,3,5,6,7,8,10,11,12,13,15,16,17,18,20,21,22,23,25,26,27,28] zk zs (Zz 25 ?_);refine m_ 4 rfl zk (f_ (fg_ x.kind y.kind) rfl i_ zt rfl λ_=>Zz 3 ?_);refine m_ 9 rfl zk (f_ (gY_ x.a y.a) rfl i_ zt rfl λ_=>Zz 3 ?_);refine m_ 14 rfl zk (f_ (gY_ x.b y.b) rfl i_ zt rfl λ_=>Zz 3 ?_);refine m_ 19 rfl zk (f_ (gY_ x.r y.r) rfl i_ zt rfl λ_=>Zz 3 ?_);refine m_ 24 rfl zk (f_ (fg_ x.lo y.lo) rfl i_ zt rfl λ_=>Zz 3 ?_);refine m_ 29 rfl zk (f_ (fg_ x.hi y.hi) rfl i_ zt rfl λ_=>Zz 3 ?_);refine m_ 30 rfl zk (B_ as_ R_ bJ_ rfl rfl rfl rfl rfl rfl λd=>?_);refine U_ (List.flatMap dl_ [(Lib.compareInt x.kind y.kind),(Lib.compareBytes x.a y.a),(Lib.compareBytes x.b y.b),(Lib.compareBytes x.r y.r),(Lib.compareInt x.lo y.lo),(Lib.compareInt x.hi y.hi)]) e_ rfl ?_;refine Zz 3 ?_;refine m_ 31 rfl zk (f_ (wt_ [(Lib.compareInt x.kind y.kind),(Lib.compareBytes x.a y.a),(Lib.compareBytes x.b y.b),(Lib.compareBytes x.r y.r),(Lib.compareInt x.lo y.lo),(Lib.compareInt x.hi y.hi)] (some ⟨d,0,none⟩) 6 zai_) rfl i_ zf rfl λ_=>Zz 3 ?_);refine G_ 0 [32] zk zs (Zz 5 ?_);exact ac_ results151 () (bi_ rfl (by rfl)) i_ zt
structure Cl where
  atoms:List Str
  aad:Ao
  acap:Nat
  facts:List Fc
  fad:Ao
  fcap:Nat
def Cl.cells (c:Cl):List Value:=[.slice c.aad c.atoms.length c.acap,.slice c.fad c.facts.length c.fcap]
def Cl.val (c:Cl):Value:=.agg c.cells.toArray
def Cl.row (c:Cl):List Fct:=[X_ c.aad (c.atoms.flatMap aa_),X_ c.fad (c.facts.flatMap Fc.cells)]
def Cl.no:Cl:=Cl.mk [] none 0 [] none 0
structure Cl.ok (c:Cl):Prop where
  al:c.atoms.length<=c.acap
  am:c.acap<=maxLen
  az:c.aad=none->c.acap=0
  fl:c.facts.length<=c.fcap
  fm:c.fcap<=maxLen
  fz:c.fad=none->c.fcap=0
theorem Cl.no_ok:Cl.no.ok:=⟨yad_ _,by grind[no],λ_=>rfl,yad_ _,by grind[no],λ_=>rfl⟩
theorem Cg_ {s:Str} (h:cL_ s=true):s≠[]:=λe=>by subst e;revert h;decide
theorem xT_ {s:Str} (h:bg_ s=true):s≠[]:=λe=>by subst e;revert h;decide
theorem xm_ {p:Pc} (h:p.valid=true):p.vok:=by
 unfold Pc.valid at h
 split at h
 .simp at h
 rename_i k
 split at h
 .simp at h
 rename_i v
 split at h
 .simp at h
 have e:∀ {b:Bool} {s:Str},cn_ b s cL_=true->b=true->s≠[]:=λk v=>by
   grind[cn_,Cg_]
 have m:∀ {b:Bool} {s:Str},cn_ b s bg_=true->b=true->s≠[]:=λk v=>by
   grind[cn_,xT_]
 simp only[yaL_]at h;obtain⟨⟨⟨⟨⟨_,_⟩,_⟩,d⟩,y⟩,x⟩:=h;unfold Pc.rok at *;refine⟨⟨λq=>?_,λq=>?_,λq=>?_⟩,λq=>?_⟩
 .rcases q with q|q|q|q|q|q|q<;>rw[q]at d
  .exact e d zae_
  .exact e d zae_
  .exact e d zae_
  .exact m d zae_
  .exact e d zae_
  .exact e d zae_
  exact m d zae_
 .rw[q]at y x;exact⟨e y zae_,e x zae_⟩
 .rw[q]at x;exact e x zae_
 grind
theorem Bh_ {p:List Pc} (h:dO_ p=0):p.length<=16384/\p.all Pc.valid=true:=by
  grind[dO_]
theorem yL_ {p:List Pc} (h:dO_ p=0):∀ x∈p,x.vok:=λx d=>xm_ (ybb_.1 (Bh_ h).2 x d)
section
variable {P:Program} {N:Nf} {v0:Vw} {H0:Hp} {fr:Fr} {H F Ha Hu Ho Hi Hr Hm Hs:Hp} {Γ:List Fct}
theorem cf_ {fn:Func} {t s b n:Nat} {ty T:TypeId} {us:List Value} {u:Value} (i:Nat) (k:fn.results=#[.cell t ty,.tmp s]) (C:∀ w,(isAgg ty).run P w=.ok true w) (x:∀ w,(sizeOf ty).run P w=.ok n w) (B:us.length=n) (A:Fr.get fr t=some (zp_ b 0)) (m:Fr.get fr s=some u)
    (hi:H[i]? = some (b,.cells us.toArray T (0,0))) (a:Act) (v:Vw) (d:Fr.sat N fr a) (h:v.sat H):(results fn a.tmps).run P v.w=.ok (.tuple #[.agg us.toArray,u]) v.w:=by
  have e:=d.val t _ A;have E:=d.val s _ m;have hl:=dT_ (t:=ty) (w:=v.w) (b:=b) (off:=0) C x B (λj y G=>by rw[ybP_,fc_ h hi];omega);simp[results,k,e,E,asAddr,hl]
theorem pf_six (h:H.Perm ((Ha++(Hu++(Ho++(Hi++(Hr++(Hm++Hs))))))++F)):H.Perm (((Ha++(Hu++(Ho++(Hi++(Hr++Hm)))))++Hs)++F):=by grind
theorem Cp_:(((Ha++(Hu++(Ho++(Hi++(Hr++Hm)))))++Hs)++F).Perm (Ha++(Hu++(Ho++(Hi++(Hr++(Hm++(Hs++F))))))):=by simp[yap_]
theorem Cq_ {a b c:Nat×Obj} {d:Hp}:((Ha++(Hu++(Ho++(Hi++(Hr++(Hm++(a::b::([c]++d))))))))++F).Perm (Ha++(Hu++(Ho++(Hi++(Hr++(Hm++(a::b::([c]++(d++F))))))))):=by simp[yap_]
end
theorem ig_:gr_ prog 110 [(0,1),(1,1)] [.slice none 0 0,.slice none 0 0]:=⟨_,zeroValue110,runUnderlying110,λw=>by simp[dG_,sizeOf50]⟩
end Go.Proofs.YtbffkokbdeppaaaGreatDoor
namespace Go.Proofs.YtbffkokbdeppaaaGreatDoor
open Go Go.Sx Go.Proofs Tryz
attribute [local irreducible] Code.wp wpList wpAnyH
open Go.Vs Go.Shelf Go.RowKit
theorem mV_ {v d:Vw} (h:v.to [] d []) (x:¬ v.sl):∃ q os,d.w=Sort.grow (v.w.drewN q) os:=by
 have E:v.w.drawn<=d.w.drawn:=h.dr.resolve_left x;refine⟨d.w.drawn - v.w.drawn,d.w.heap.extract v.w.heap.size d.w.heap.size,?_⟩
 have G:d.w.heap=v.w.heap++d.w.heap.extract v.w.heap.size d.w.heap.size:=by
   apply ycg_
   intro i;have C:=h.size;rw[Array.getElem?_append]
   split
   . rename_i hi;exact h.block i hi zai_
   grind
 have e:=h.os;have A:=h.tape;have m:=h.output;obtain⟨k,⟨F,H,dn,y,I⟩,B⟩:=d
 grind[Sort.grow,World.drewN,World.mk.injEq]
theorem Dg_ (d off size:Nat) (w:World):CmpLays prog 151 #[] Fc.cells 6 nD_ d off size w:=λm os e _ x y=>by
  have h:=(cmpF_c x y).run ⟨λ_=>False,sortWorldK Fc.cells 6 w d off m e os,False⟩ ⟨by simp,by simp,λ_ h=>h.elim⟩ trivial;refine h.mono ?_
  grind[mV_]
theorem ltF (x y:Fc):ltOf nD_ x y=decide (x.lt y):=by grind[ltOf,Bd_]
theorem swoF:Sort.SWO (ltOf nD_) where
  irrefl x:=by grind[ltF,Fc.lt_irr]
  trans x y z h1 h2:=by grind[ltF,Fc.lt_trans]
  ntrans x y z h1 h2:=by
    grind[ltF,Fc.lt_tri,Fc.lt_trans]
theorem totF (x y:Fc) (d:ltOf nD_ x y=false) (e:ltOf nD_ y x=false):x=y:=by
  grind[ltF,Fc.lt_tri]
theorem pu_ (xs:List Fc):Sort.flatK Fc.cells 6 xs.toArray=(xs.flatMap Fc.cells).toArray:=by
 apply ycg_
 intro t;have d:(xs.flatMap Fc.cells).toArray[t]? = (xs.flatMap Fc.cells)[t]? := by simp
 rw[d]
 by_cases h:t<xs.length*6
 .have e:t / 6<xs.length:=by omega
  have:=kD_ Fc.cells 6 Fc.cells_len xs (t / 6) (t%6) xs[t / 6] (yaa_ e) (Nat.mod_lt _ zae_);rw[show t / 6*6+t%6=t by omega]at this;rw[this];simp only[Sort.flatK,Array.getElem?_map,yca_];rw[Array.getElem?_eq_getElem (by simpa using h)];simp only[Array.getElem_range,yaR_];rw[getElem!_pos xs.toArray (t / 6) (by simpa using e)];have hl:t%6<(Fc.cells xs[t / 6]).length:=by rw[Fc.cells_len];omega
  rw[yaa_ hl];simp only[List.getElem_toArray];rw[getElem!_pos (Fc.cells xs[t / 6]) (t%6) hl]
 rw[List.getElem?_eq_none (by rw[ch_ Fc.cells 6 Fc.cells_len];omega),Array.getElem?_eq_none (by simp[Sort.flatK];omega)]
theorem sH_ {P:Program} {Γ:List Fct} {f:FuncId} {args:Array Value} {r:Value} {g:Nat} {cur:Array Value} {T:TypeId} {d:Array Value} (F:fk_ P f)
    (h:∀ v:Vw,v.sat [(g,.cells cur T (0,0))]->Calls P f args v.w λe w'=>e=.returned r/\∃ n os,w'=Sort.grow (Sort.putRow id (Sort.ahead v.w n) g 0 d) os) :
    Tri P f args [(g,.cells cur T (0,0))] Γ (λ_:Unit=>r) (λ_=>[(g,.cells (Sort.putCells id 0 d cur) T (0,0))]) (λ_=>[]) :=
  ⟨F,λv y _=>(h v y).mono λe w' ⟨E,n,os,x⟩=>by
    have C:=(y.own _ yao_);have A:g<v.w.heap.size:=(yaA_.1 C.1).1
    have B:∀ b,b<v.w.heap.size->w'.heap[b]? = if b=g then some (.cells (Sort.putCells id 0 d cur) T (0,0)) else v.w.heap[b]? := λb B=>by
      grind[Sort.grow,Sort.putRow,Sort.mapBlock,Sort.ahead,Sort.onCells]
    have m:v.w.heap.size<=w'.heap.size:=by grind
    refine⟨(),⟨v.im,w',v.sl⟩,E,rfl,⟨λp G=>?_,by simp,λb k=>ybz_ (y.lt b k) m⟩,trivial,⟨by rw[x];rfl,by rw[x];rfl,by rw[x];rfl,m,λb k H=>?_,λ_ h=>h,λ_ h=>.inl h,λb hm=>.inl zak_,rfl,.inr (by rw[x];exact ycA_ _ _)⟩⟩
    all_goals grind⟩
theorem qC_ {cur:Array Value} {d:List Value} (e:d.length<=cur.size):(Sort.putCells id 0 d.toArray cur).toList.take d.length=d:=by
  apply yaS_
  grind[Sort.putCells]
theorem qD_ {cur d:Array Value}:(Sort.putCells id 0 d cur).size=cur.size:=by simp[Sort.putCells]
theorem AK_ {g:Nat} {cur:Array Value} {T:TypeId} {xs:List Value} {v:Vw} (d:v.sat [(g,.cells cur T (0,0))]) (h:cur.toList.take xs.length=xs):Sort.Holds id v.w g 0 xs.toArray:=by
  intro j e;have k:=(d.own _ yao_).1
  grind[World.cell?,World.frozen?]
def kq_ (xs:List Fc):List Fc:=xs.mergeSort λx y=>!(ltOf nD_) y x
theorem hC_ (xs:List Fc):(kq_ xs).length=xs.length:=yaX_ _
theorem zx_ (xs:List Fc) (x:Fc):x∈kq_ xs↔x∈xs:=ybx_
theorem zw_ {xs:List Fc} (h:xs.Nodup):Srt (kq_ xs):=by
  have d:(kq_ xs).Pairwise λx y=>(!(ltOf nD_) y x)=true:=List.pairwise_mergeSort
    (λa b c d e=>by simp only[yci_]at *;exact swoF.ntrans c b a e d)
    (λa b=>by
      grind[ltF,Fc.lt_irr,Fc.lt_trans]) xs
  have e:(kq_ xs).Nodup:=(ycp_ xs _).nodup_iff.2 h;refine (d.and e).imp ?_
  grind[ltF,Fc.lt_tri]
theorem Cb_ {sv:Value} {xs:List Fc} {Hr:Hp} (h:at_ 104 6 sv xs.length (xs.flatMap Fc.cells) Hr) (hl:xs.length<=1000000000000) :
    Tri prog 150 #[sv,.func (.func 151) #[] #[]] Hr [] (λ_:{y:Hp // at_ 104 6 sv (kq_ xs).length ((kq_ xs).flatMap Fc.cells) y}=>.tuple #[]) (λy=>y.1) (λ_=>[]):=by
  rcases h.2 with⟨rfl,K,rfl⟩|⟨g,cap,cur,rfl,rfl,G,J,E,L⟩
  . obtain rfl:xs=[]:=yaw_ K
    have T:=cG_ (P:=prog) (H:=[]) (Γ:=[]) (callable func150 rfl rfl) (λv _ _=>(AnyF.slices_SortFunc_none Tryz.sortFc none 0 (.func (.func 151) #[] #[]) v.w).mono zam_);exact⟨T.callable,λv a b=>(T.run v a b).mono (by rintro e w' ⟨x,F,k,m,B,A,C⟩;exact⟨⟨[],by simpa [kq_] using at_.nil _ _⟩,F,k,m,B,A,C⟩)⟩
  . have Q:(xs.flatMap Fc.cells).length=xs.length*6:=ch_ Fc.cells 6 Fc.cells_len xs
    have T:=sH_ (P:=prog) (Γ:=[]) (r:=.tuple #[]) (g:=g) (cur:=cur) (T:=104) (d:=((kq_ xs).flatMap Fc.cells).toArray) (f:=150) (args:=#[.slice (some ⟨g,0,none⟩) xs.length cap,.func (.func 151) #[] #[]]) (callable func150 rfl rfl) (λv M=>by
      have N:=AnyQ.slices_SortFunc_total Tryz.sortFc 6 fX_ ao_ Fc.cells Fc.cells_len (λx u O=>ybb_.1 x.cells_one u O) nD_ swoF 151 #[] g 0 cap xs.toArray v.w (λargs w=>(callable func151 rfl rfl) args w) (Dg_ g 0 _ v.w) (by unfold Sort.HoldsK;rw[pu_];exact AK_ M (by rw[Q];exact L)) (yaA_.1 (M.own _ yao_).1).1 zar_ totF;refine N.mono ?_;rintro e w' ⟨rfl,n,os,rfl⟩;refine⟨rfl,n,os,?_⟩;unfold sortWorldK Sort.putRowK;rw[show ((xs.toArray.toList.mergeSort λx y=>!(ltOf nD_) y x))=kq_ xs from rfl,pu_])
    refine⟨T.callable,λv a b=>(T.run v a b).mono ?_⟩;rintro e w' ⟨x,F,k,m,B,A,C⟩;have I:((kq_ xs).flatMap Fc.cells).length=xs.length*6:=by rw[ch_ Fc.cells 6 Fc.cells_len,hC_]
    refine⟨⟨_,by rw[I,hC_],.inr ⟨g,cap,_,by rw[hC_],rfl,by rw[hC_];exact G,J,by rw[qD_];exact E,?_⟩⟩,F,k,m,B,A,C⟩;have:=qC_ (cur:=cur) (d:=(kq_ xs).flatMap Fc.cells) (by rw[I,E];omega);rw[I]at this;rw[hC_];exact this
end Go.Proofs.YtbffkokbdeppaaaGreatDoor
namespace Go.Proofs.YtbffkokbdeppaaaGreatDoor
open Go Go.Sx Go.Proofs Tryz
attribute [local irreducible] Code.wp wpList wpAnyH
open Go.Vs Go.Shelf Go.RowKit
theorem ra_ {D:Type} [Inhabited D] {cells:D->List Value} {k:Nat} (hk:∀ x,(cells x).length=k) (d:0<k) (xs:List D):Sort.flatK cells k xs.toArray=(xs.flatMap cells).toArray:=by
  apply ycg_
  grind[Nat.div_lt_iff_lt_mul,kD_,Nat.mod_lt,Nat.div_add_mod',Sort.flatK,ch_]
theorem sI_ {P:Program} {Γ:List Fct} {f:FuncId} {args:Array Value} {r:Value} {g:Nat} {cur:Array Value} {T:TypeId} {ι:Type} {d:ι->Array Value} (J:fk_ P f)
    (h:∀ v:Vw,v.sat [(g,.cells cur T (0,0))]->ag_ Γ v->Calls P f args v.w λe w'=>e=.returned r/\∃ (i:ι) (n:Nat) (os:Array Obj),w'=Sort.grow (Sort.putRow id (Sort.ahead v.w n) g 0 (d i)) os) :
    Tri P f args [(g,.cells cur T (0,0))] Γ (λ_:ι=>r) (λi=>[(g,.cells (Sort.putCells id 0 (d i) cur) T (0,0))]) (λ_=>[]) :=
  ⟨J,λv C G=>(h v C G).mono λe w' ⟨I,i,n,os,m⟩=>by
    have B:=(C.own _ yao_);have A:g<v.w.heap.size:=(yaA_.1 B.1).1
    have y:∀ b,b<v.w.heap.size->w'.heap[b]? = if b=g then some (.cells (Sort.putCells id 0 (d i) cur) T (0,0)) else v.w.heap[b]? := λb y=>by
      rw[m];simp only[Sort.grow,Sort.putRow,Sort.mapBlock,Sort.ahead];rw[ybC_ (by simpa using y),ybo_]
      by_cases e:b=g
      . subst e
        simp only[ycq_,B.1,yaR_,Sort.onCells]
      . rw[yag_ (λq=>e q.symm),yag_ e]
    have x:v.w.heap.size<=w'.heap.size:=by rw[m];simp[Sort.grow,Sort.putRow,Sort.mapBlock,Sort.ahead]
    refine⟨i,⟨v.im,w',v.sl⟩,I,rfl,⟨λp F=>?_,by simp,λb k=>ybz_ (C.lt b k) x⟩,trivial,⟨by rw[m];rfl,by rw[m];rfl,by rw[m];rfl,x,λb k H=>?_,λ_ h=>h,λ_ h=>.inl h,λb hm=>.inl (by simpa using hm),rfl,.inr (by rw[m];exact ycA_ _ _)⟩⟩
    . simp only[yam_]at F
      subst F;exact⟨by show w'.heap[g]? = _;rw[y g A,yaq_ rfl],B.2⟩
    . have E:b≠g:=by simpa using H
      show w'.heap[b]? = _
      rw[y b k,yag_ E]⟩
structure Wko {D:Type} (cf:D->D->Int):Prop where
  irr:∀ x,¬ cf x x<0
  tr:∀ x y z,cf x y<0->cf y z<0->cf x z<0
  ntr:∀ x y z,¬ cf x y<0->¬ cf y z<0->¬ cf x z<0
theorem sortG {P:Program} {ρ:Ren} (L:SlLaysF0.n6 P ρ) {D:Type} {cells:D->List Value} {k:Nat} {Te:TypeId} (hk:∀ x,(cells x).length=k) (Z:0<k) (h1:∀ x,(cells x).all Value.oneCell'=true)
    (aE:∀ w,(isAgg (ρ.t 24)).run P w=.ok true w) (zE:∀ w,(Go.sizeOf (ρ.t 24)).run P w=.ok k w) {cf:D->D->Int} (hO:Wko cf) {g:Nat} (hg:fk_ P g) (hF:fk_ P (ρ.f 6))
    {Γ:List Fct} (hΓ:∀ (v:Vw) (q:Prop),ag_ Γ v->ag_ Γ ⟨v.im,v.w,q⟩) {sv:Value} {xs:List D} {Hr:Hp} (h:at_ Te k sv xs.length (xs.flatMap cells) Hr) (hl:xs.length<=1000000000000)
    (hC:∀ x∈xs,∀ y∈xs,Tri P g #[.agg (cells x).toArray,.agg (cells y).toArray] [] Γ (λ_:Unit=>i4_ (cf x y)) (λ_=>[]) (λ_=>[])) :
    Tri P (ρ.f 6) #[sv,.func (.func g) #[] #[]] Hr Γ (λ_:{y:Hp×List D // at_ Te k sv y.2.length (y.2.flatMap cells) y.1/\y.2.Perm xs/\y.2.Pairwise λa b=>¬ cf b a<0}=>.tuple #[]) (λy=>y.1.1) (λ_=>[]):=by
  by_cases C:xs=[]
  . subst C
    rcases h.2 with⟨rfl,G,rfl⟩|⟨b,cap,cur,rfl,rfl,N,h_3,S,h_5⟩
    . have T:=cG_ (P:=P) (H:=[]) (Γ:=Γ) hF (λv _ _=>(AnyF.slices_SortFunc_none { L with } none 0 (.func (.func g) #[] #[]) v.w).mono zam_)
      exact⟨T.callable,λv a b=>(T.run v a b).mono (by rintro e w' ⟨x,W,A,E,K,J,M⟩;exact⟨⟨([],[]),at_.nil _ _,.refl _,List.Pairwise.nil⟩,W,A,E,K,J,M⟩)⟩
    . have T:=cG_ (P:=P) (H:=[(b,.cells cur Te (0,0))]) (Γ:=Γ) hF (λv _ _=>(AnyF.slices_SortFunc_none { L with } (some ⟨b,0,none⟩) cap (.func (.func g) #[] #[]) v.w).mono zam_)
      exact⟨T.callable,λv a c=>(T.run v a c).mono (by rintro e w' ⟨x,W,A,E,K,J,M⟩;exact⟨⟨([(b,.cells cur Te (0,0))],[]),h,.refl _,List.Pairwise.nil⟩,W,A,E,K,J,M⟩)⟩
  . rcases h.2 with⟨_,G,_⟩|⟨b,cap,cur,rfl,rfl,N,h_3,S,h_5⟩
    . exact absurd (yaw_ G) C
    . obtain⟨x_1,C⟩:=List.exists_mem_of_ne_nil _ C
      haveI:Inhabited {x // x∈xs}:=⟨⟨x_1,C⟩⟩
      have hx:(xs.flatMap cells).length=xs.length*k:=ch_ cells k hk xs;have hf:∀ l:List {x // x∈xs},(l.flatMap λz=>cells z.1)=(l.map Subtype.val).flatMap cells:=λl=>by rw[List.flatMap_map]
      have Y:(xs.attach.map Subtype.val)=xs:=List.attach_map_subtype_val xs
      have T:=sI_ (P:=P) (Γ:=Γ) (r:=.tuple #[]) (g:=b) (cur:=cur) (T:=Te) (ι:={d:Array {x // x∈xs} // d.size=xs.length/\d.toList.Perm xs.attach/\d.toList.Pairwise λa b=>¬ cf b.1 a.1<0}) (d:=λd=>((d.1.toList.map Subtype.val).flatMap cells).toArray) (f:=ρ.f 6) (args:=#[.slice (some ⟨b,0,none⟩) xs.length cap,.func (.func g) #[] #[]]) hF (λv hs hv=>by
        have hh:=AnyQ.slices_SortFunc L k aE zE (λz:{x // x∈xs}=>cells z.1) (λz=>hk z.1) (λx u hu=>ybb_.1 (h1 x.1) u hu) (λa b=>cf a.1 b.1)
          ⟨λx=>ybi_ (hO.irr x.1),λx y z h1 G=>yaW_ (hO.tr _ _ _ (yaY_ h1) (yaY_ G)),λx y z h1 G=>ybi_ (hO.ntr _ _ _ (yct_ h1) (yct_ G))⟩
          g #[] b 0 cap xs.attach.toArray v.w (λargs w=>hg args w) ?_ (by unfold Sort.HoldsK;rw[ra_ (cells:=λz:{x // x∈xs}=>cells z.1) (λz=>hk z.1) Z,hf,Y];exact AK_ hs (by rw[hx];exact h_5)) (yaA_.1 (hs.own _ yao_).1).1 zar_
        . have A:xs.attach.toArray.size=xs.length:=by simp
          rw[A]at hh;refine hh.mono ?_;rintro e w' ⟨rfl,F,n,os,hp,X,rfl⟩;have I:F.size=xs.length:=by have:=hp.1;rwa [A]at this
          refine⟨rfl,⟨F,I,?_,?_⟩,n,os,?_⟩
          . have:=hp.2.2
            rw[<-I,Array.extract_size,I]at this
            have E:xs.attach.toArray.extract 0 xs.length=xs.attach.toArray:=by
              have q:=Array.extract_size (xs:=xs.attach.toArray);rwa [A]at q
            rw[E]at this;exact this
          . rw[yaN_]
            intro i j hi hj hij;have hj':j<F.size:=by simpa using hj
            have:=X i j (ybm_ _) hij zaa_;rw[getElem!_pos F j hj',getElem!_pos F i zaa_]at this;have:=yct_ this;simpa using this
          . unfold sortWorldK Sort.putRowK
            have Q:=ra_ (cells:=λz:{x // x∈xs}=>cells z.1) (λz=>hk z.1) Z F.toList;rw[hf]at Q;rw[show F.toList.toArray=F by simp]at Q;rw[Q]
        . intro m os dk _ x y
          have hgb:=hs.own _ yao_
          have U:∀ c,c<v.w.heap.size->c≠b->(sortWorldK (λz:{x // x∈xs}=>cells z.1) k v.w b 0 m dk os).heap[c]? = v.w.heap[c]? := λc V hn=>by
            unfold sortWorldK Sort.putRowK;simp only[Sort.grow,Sort.putRow,Sort.mapBlock,Sort.ahead];rw[ybC_ (by simpa using V),ybo_,yag_ (λq=>hn q.symm)]
          have O:v.w.heap.size<=(sortWorldK (λz:{x // x∈xs}=>cells z.1) k v.w b 0 m dk os).heap.size:=by unfold sortWorldK Sort.putRowK;simp[Sort.grow,Sort.putRow,Sort.mapBlock,Sort.ahead]
          have hq:=(hC x.1 x.2 y.1 y.2).run ⟨v.im,sortWorldK (λz:{x // x∈xs}=>cells z.1) k v.w b 0 m dk os,False⟩ ⟨by simp,by simp,λc V=>ybz_ (hs.lt c V) O⟩
            (aT_ (v:=⟨v.im,v.w,False⟩) ⟨λ_ q=>q,λc V=>U c (hs.lt c V) (λe=>hgb.2 (e▸V)),rfl⟩ (hΓ v False hv))
          refine hq.mono ?_;rintro e w' ⟨_,W,rfl,rfl,_,_,ht⟩;obtain⟨q,os',hw⟩:=mV_ ht (λh=>h);exact⟨rfl,q,os',hw⟩)
      refine⟨T.callable,λv a b=>(T.run v a b).mono ?_⟩;rintro e w' ⟨⟨F,I,hp,hpw⟩,W,A,E,K,J,M⟩;have B:(F.toList.map Subtype.val).length=xs.length:=by simp[I]
      have hy:((F.toList.map Subtype.val).flatMap cells).length=xs.length*k:=by rw[ch_ cells k hk,B]
      refine⟨⟨(_,F.toList.map Subtype.val),⟨by rw[hy,B],.inr ⟨_,cap,_,by rw[B],rfl,by rw[B];exact N,h_3,by rw[qD_];exact S,?_⟩⟩,?_,?_⟩,W,A,E,K,J,M⟩
      . have:=qC_ (cur:=cur) (d:=(F.toList.map Subtype.val).flatMap cells) (by rw[hy,S];exact yaU_ k N)
        rw[hy]at this;dsimp only;rw[B];exact this
      . have:=hp.map Subtype.val
        rwa [Y]at this
      . rw[ybZ_];exact hpw
section
variable {P:Program} {N:Nf} {v0:Vw} {H0:Hp} {fr:Fr} {H F:Hp} {Γ:List Fct} {K D:Type} [DecidableEq K]
theorem pm_:∀ (B:Hp) {v:Vw},ag_ (B.map λp=>bk_ p.1 p.2) v->∀ p∈B,v.im p.1/\v.w.heap[p.1]? = some p.2
 | [],_,_,_,h=>by simp at h
 | q::B,v,h,p,d=>by
   rcases yal_.1 d with rfl|d
   . exact h.1
   . exact pm_ B h.2 p d
theorem jk_ {k:Act->World->Prop} {m:K->Value} {cells:D->List Value} {y e:TypeId} {sz A:Nat} {l:List (K×D)} {d:Hp} (G:KeyT P y m) (hm:cC_ m cells e sz l A d) (C:H.Perm (d++F))
    (h:∀ adr,Ok N v0 H0 k fr F (mlF P y m cells A l adr::Γ)):Ok N v0 H0 k fr H Γ:=by
  obtain⟨adr,E⟩:=hm.lent G;refine pb_ d C (lb_ (λv _ x=>?_) (h adr));rw[ff_]at x;refine⟨E v λp B=>?_,x.2⟩;have:=x.1;exact pm_ d.reverse (by rw[List.map_reverse]at *;exact this) p (ycS_.2 B)
theorem ok_ {e:TypeId} {E:Emt P e} {nw fm:List Fc} {Hs:Hp} {ty t B C:TypeId} {x:Operand} (hS:E.St nw fm Hs) (m:∀ w,(underlying t).run P w=.ok (.map B C) w) (y:Fr.ev fr x=some (.map (some E.kb))) (d:H.Perm (Hs++F)) :
    Yld P N fr H Γ (.call ⟨.builtin .len,#[x],#[t]⟩) ty (i4_ ((E.kof nw).length:Int)):=by
  obtain⟨es,c,k,A⟩:=E.known hS;exact oj_ A m y λv h _=>oW_ d k h
end
def vs_ (x:Ix) (n:Nat):Prop:=x.above.length<=n/\x.under.length<=n/\x.frm.length<=n/\x.into.length<=n/\x.ranges.length<=n/\x.firms.length<=n
theorem AB_:vs_ Ix.nil 0:=by simp[vs_,Ix.nil]
theorem lj_ {x:Ix} {n:Nat} (h:vs_ x n) (b:Bool) (f:Fc):vs_ (x.add b f) (n+1):=by
  grind[Ix.add,vs_]
theorem tN_ {x:Ix} {n:Nat} (h:vs_ x n) (B:n<=1000000000):(∀ k,(lat x.above k).length<=1000000000/\(lat x.under k).length<=1000000000)/\(∀ k,(lat x.frm k).length<=1000000000/\(lat x.into k).length<=1000000000/\(lat x.ranges k).length<=1000000000/\(lat x.firms k).length<=1000000000):=by
  obtain⟨v,e,A,m,y,d⟩:=h
  grind[dv_]
theorem Cf_ (B:EngB) (E:Emt prog 104) (L:EngA) (v:List (Ky×Pc)) (x:Ix) (f:Fc) (nw fm:List Fc) (Hs:Hp) (hS:E.St nw fm Hs) (C J A G Hr I:Hp) (O:IxO 9 104 B x ⟨C,J,A,G,Hr,I⟩) (e:∀ k,(lat v k).length<=1000000000) (d:∀ k,(lat x.above k).length<=1000000000/\(lat x.under k).length<=1000000000) (m:∀ k,(lat x.frm k).length<=1000000000/\(lat x.into k).length<=1000000000/\(lat x.ranges k).length<=1000000000/\(lat x.firms k).length<=1000000000) (M:f.kind=3->-1099511627776<=f.lo/\f.lo<=f.hi/\f.hi<=1099511627776) (Q:f.kind=3->∀ y∈lat v (Ky.mk 9 f.r []),-1099511627776<=y.lo/\y.lo<=y.hi/\y.hi<=1099511627776) (hk:f.kind=1):∀ (j:Nat) {fv:Value},(rlV B.g 1)[j]? = some fv->∃ n:Nat,fv=.func (.func n) #[zp_ B.g 0] #[]/\Tri prog n #[zp_ B.g 0,f.val] ((C++(J++(A++(G++(Hr++I)))))++Hs) [gF B E,pF B v L,E.ef] (λ_:{H':Hp // E.St (rl E.stp E.kof v x f j (nw,fm)).1 (rl E.stp E.kof v x f j (nw,fm)).2 H'}=>.tuple #[]) (λy=>(C++(J++(A++(G++(Hr++I)))))++y.1) (λ_=>[])
  | 0,_,h=>⟨224,(yba_ h).symm,rl10_c B E L v x f nw fm Hs hS C J A G Hr I O e d m M Q hk⟩
  | 1,_,h=>⟨225,(yba_ h).symm,rl11_c B E L v x f nw fm Hs hS C J A G Hr I O e d m M Q hk⟩
  | 2,_,h=>⟨226,(yba_ h).symm,rl12_c B E L v x f nw fm Hs hS C J A G Hr I O e d m M Q hk⟩
  | 3,_,h=>⟨227,(yba_ h).symm,rl13_c B E L v x f nw fm Hs hS C J A G Hr I O e d m M Q hk⟩
  | 4,_,h=>⟨228,(yba_ h).symm,rl14_c B E L v x f nw fm Hs hS C J A G Hr I O e d m M Q hk⟩
  | 5,_,h=>⟨229,(yba_ h).symm,rl15_c B E L v x f nw fm Hs hS C J A G Hr I O e d m M Q hk⟩
  | j+6,_,h=>by grind[rlV]
theorem Ce_ (B:EngB) (E:Emt prog 104) (L:EngA) (e:List (Ky×Pc)) (x:Ix) (f:Fc) (nw fm:List Fc) (Hs:Hp) (hS:E.St nw fm Hs) (C J A G Hr I:Hp) (O:IxO 9 104 B x ⟨C,J,A,G,Hr,I⟩) (m:∀ k,(lat e k).length<=1000000000) (d:∀ k,(lat x.above k).length<=1000000000/\(lat x.under k).length<=1000000000) (v:∀ k,(lat x.frm k).length<=1000000000/\(lat x.into k).length<=1000000000/\(lat x.ranges k).length<=1000000000/\(lat x.firms k).length<=1000000000) (M:f.kind=3->-1099511627776<=f.lo/\f.lo<=f.hi/\f.hi<=1099511627776) (Q:f.kind=3->∀ y∈lat e (Ky.mk 9 f.r []),-1099511627776<=y.lo/\y.lo<=y.hi/\y.hi<=1099511627776) (hk:f.kind=2):∀ (j:Nat) {fv:Value},(rlV B.g 2)[j]? = some fv->∃ n:Nat,fv=.func (.func n) #[zp_ B.g 0] #[]/\Tri prog n #[zp_ B.g 0,f.val] ((C++(J++(A++(G++(Hr++I)))))++Hs) [gF B E,pF B e L,E.ef] (λ_:{H':Hp // E.St (rl E.stp E.kof e x f j (nw,fm)).1 (rl E.stp E.kof e x f j (nw,fm)).2 H'}=>.tuple #[]) (λy=>(C++(J++(A++(G++(Hr++I)))))++y.1) (λ_=>[])
  | 0,_,h=>⟨230,(yba_ h).symm,rl20_c B E L e x f nw fm Hs hS C J A G Hr I O m d v M Q hk⟩
  | 1,_,h=>⟨231,(yba_ h).symm,rl21_c B E L e x f nw fm Hs hS C J A G Hr I O m d v M Q hk⟩
  | 2,_,h=>⟨232,(yba_ h).symm,rl22_c B E L e x f nw fm Hs hS C J A G Hr I O m d v M Q hk⟩
  | 3,_,h=>⟨233,(yba_ h).symm,rl23_c B E L e x f nw fm Hs hS C J A G Hr I O m d v M Q hk⟩
  | j+4,_,h=>by grind[rlV]
theorem Cd_ (B:EngB) (E:Emt prog 104) (L:EngA) (d:List (Ky×Pc)) (x:Ix) (f:Fc) (nw fm:List Fc) (Hs:Hp) (hS:E.St nw fm Hs) (v J e C Hr I:Hp) (O:IxO 9 104 B x ⟨v,J,e,C,Hr,I⟩) (A:∀ k,(lat d k).length<=1000000000) (m:∀ k,(lat x.above k).length<=1000000000/\(lat x.under k).length<=1000000000) (G:∀ k,(lat x.frm k).length<=1000000000/\(lat x.into k).length<=1000000000/\(lat x.ranges k).length<=1000000000/\(lat x.firms k).length<=1000000000) (M:f.kind=3->-1099511627776<=f.lo/\f.lo<=f.hi/\f.hi<=1099511627776) (Q:f.kind=3->∀ y∈lat d (Ky.mk 9 f.r []),-1099511627776<=y.lo/\y.lo<=y.hi/\y.hi<=1099511627776) (hk:f.kind=3):∀ (j:Nat) {fv:Value},(rlV B.g 3)[j]? = some fv->∃ n:Nat,fv=.func (.func n) #[zp_ B.g 0] #[]/\Tri prog n #[zp_ B.g 0,f.val] ((v++(J++(e++(C++(Hr++I)))))++Hs) [gF B E,pF B d L,E.ef] (λ_:{H':Hp // E.St (rl E.stp E.kof d x f j (nw,fm)).1 (rl E.stp E.kof d x f j (nw,fm)).2 H'}=>.tuple #[]) (λy=>(v++(J++(e++(C++(Hr++I)))))++y.1) (λ_=>[])
  | 0,_,h=>⟨234,(yba_ h).symm,rl30_c B E L d x f nw fm Hs hS v J e C Hr I O A m G M Q hk⟩
  | 1,_,h=>⟨235,(yba_ h).symm,rl31_c B E L d x f nw fm Hs hS v J e C Hr I O A m G M Q hk⟩
  | j+2,_,h=>by grind[rlV]
def gf_ (p:List Pc) (bu:Int) (c:Cl) (e:Int):Prop :=
  if dO_ p≠0 then c=Cl.no/\e=dO_ p
  else if bu<0\/1073741824<bu then c=Cl.no/\e=1
  else (e=0/\c.ok/\c.atoms=atS p/\uz_ p (atS p) (min bu 65536).toNat (some c.facts))\/(c=Cl.no/\e=(if bu<65536 then 3 else 2)/\uz_ p (atS p) (min bu 65536).toNat none)
theorem Bs_ {p:List Pc} {d:Int} (h:dO_ p≠0):gf_ p d Cl.no (dO_ p):=by grind[gf_]
theorem Bt_ {p:List Pc} {d:Int} (h:dO_ p=0) (e:d<0\/1073741824<d):gf_ p d Cl.no 1:=by grind[gf_]
theorem Dt_ {p:List Pc} {d:Int} {m n:Nat} {c:Cl} {q fm:List Fc} {x:Ix} (B:dO_ p=0) (E:¬ d<0) (C:¬ 1073741824<d) (hm:min d 65536=(m:Int)) (hk:c.ok) (A:c.atoms=atS p) (h:LoopA (uniq [] p) (atS p) m n q fm x) (v:q.length<=n) (hl:q.length<=m) (k:c.facts=kq_ q):gf_ p d c 0:=by
  unfold gf_;rw[yag_ (by simp[B]),yag_ zaa_];have e:n=q.length:=Nat.le_antisymm h.le v;subst e;refine .inl ⟨rfl,hk,A,?_⟩;rw[hm,k];exact⟨zw_ h.nd,λy=>by rw[zx_,<-vm_ h hl,sE_],by grind[hC_]⟩
theorem jU_ {p:List Pc} {d:Int} {m:Nat} {e:Int} {M:List Fc} (x:dO_ p=0) (B:¬ d<0) (A:¬ 1073741824<d) (hm:min d 65536=(m:Int)) (k:e=if d<65536 then 3 else 2) (nd:M.Nodup) (h:∀ y∈M,Der (uniq [] p) (atS p) y) (hl:m<M.length):gf_ p d Cl.no e:=by
  unfold gf_;rw[yag_ (by simp[x]),yag_ zaa_];exact .inr ⟨rfl,k,M,nd,λy v=>sE_.1 (h y v),by grind⟩
end Go.Proofs.YtbffkokbdeppaaaGreatDoor
namespace Go.Proofs.YtbffkokbdeppaaaGreatDoor
open Go Go.Sx Go.Proofs Tryz
attribute [local irreducible] Code.wp wpList wpAnyH
open Go.Vs
theorem kL_ {G:Prop} (h:G:=by
 refine d_ (y_ ig_ rfl rfl) rfl (p_ 0 bL_ rfl rfl rfl rfl rfl rfl (Zz 4 ?_));exact dk_ ⟨((Cl.mk [] none 0 [] none 0),1),Bt_ zaf_ zaa_⟩ (λaa v C B=>cf_ (us:=Cl.cells (Cl.mk [] none 0 [] none 0)) 0 ji_ fW_ bL_ rfl rfl rfl rfl aa v C B) i_ (λv _ h=>by exact⟨.inl rfl,.inl rfl,trivial⟩)):G:=h
theorem hZ_ {G:Prop} (h:G:=by
 refine O_ (first:=[zp_ g 0]) (vs:=[Fc.val f]) (cap:=[]) hT rfl rfl (pf_six (x_ (c_ (c_ (c_ s_))) (x_ (c_ (c_ (c_ s_))) (x_ (c_ (c_ (c_ s_))) (x_ (c_ (c_ (c_ s_))) (x_ (c_ (c_ (c_ s_))) (x_ (c_ (c_ (c_ s_))) (c_ (c_ E_))))))))) (λv _ h=>by exact⟨h.2.2.2.2.2.1,h.2.2.2.2.1,⟨h.2.2.2.2.2.2.2.1,h.2.2.2.2.2.2.1,h.2.2.2.2.2.1⟩,trivial⟩) rfl λ⟨W,X⟩=>u_ Cp_ (Zz 2 ?_)
 refine u_ (S_ (g_ (g_ (g_ (g_ (g_ (g_ (g_ e_))))))) (S_ (g_ (g_ (g_ (g_ (g_ (g_ (g_ e_))))))) (aW_ (g_ (g_ (g_ (g_ (g_ (g_ aJ_))))))))) (Zz 2 ?_);refine G_ 0 [0,1,2,3,4,5,6] zk zs (Zz 4 ?_);refine N_ rfl (ai_ (ok_ (E:=(EA m hm (EngB.mk g pb ab ub ob ib rb sb lad lcap (aS_ (uniq [] p))) A F d kb fb)) (nw:=(rls (bP_ m) idk (be_ (uniq [] p)) (Ix.add x (decide (f∈fm)) f) f (j+1) (q,fm)).1) (Hs:=W) X bB_ rfl zp) (show _=i4_ (List.length (rls (bP_ m) idk (be_ (uniq [] p)) (Ix.add x (decide (f∈fm)) f) f (j+1) (q,fm)).1:Int) from rfl)) rfl (Zi 1 (λhr_6=>?_) λhr_6=>?_)
 .refine Zz 11 ?_
  exact w_ ⟨(j+1,W),a9,by exact X,.inr zab_⟩ zab_ zl zp zh
 refine Zz 9 ?_;refine G_ 0 [0,1,2,3,4,5,6] zk zs (Zz 4 ?_);refine N_ rfl (ai_ (ok_ (E:=(EA m hm (EngB.mk g pb ab ub ob ib rb sb lad lcap (aS_ (uniq [] p))) A F d kb fb)) (nw:=(rls (bP_ m) idk (be_ (uniq [] p)) (Ix.add x (decide (f∈fm)) f) f (j+1) (q,fm)).1) (Hs:=W) X bB_ rfl zp) (show _=i4_ (List.length (rls (bP_ m) idk (be_ (uniq [] p)) (Ix.add x (decide (f∈fm)) f) f (j+1) (q,fm)).1:Int) from rfl)) rfl (Zi 1 (λhr_7=>?_) λhr_7=>?_)
 .omega
 refine Zi 8 (λhr_8=>?_) λhr_8=>?_
 .refine Zz 7 ?_
  refine d_ (y_ ig_ rfl rfl) rfl (p_ 0 bL_ rfl rfl rfl rfl rfl rfl (Zz 4 ?_));exact dk_ ⟨((Cl.mk [] none 0 [] none 0),2),jU_ Y a0 a2 Z (by rw[yag_ zaf_]) (gS_ L hL hf (j+1) rfl).1 (gS_ L hL hf (j+1) rfl).2.2.1 zaa_⟩ (λaa v C B=>cf_ (us:=Cl.cells (Cl.mk [] none 0 [] none 0)) 0 ji_ fW_ bL_ rfl rfl rfl rfl aa v C B) i_ (λv _ h=>by exact⟨.inl rfl,.inl rfl,trivial⟩)
 refine Zz 5 ?_;refine d_ (y_ ig_ rfl rfl) rfl (p_ 0 bL_ rfl rfl rfl rfl rfl rfl (Zz 4 ?_));exact dk_ ⟨((Cl.mk [] none 0 [] none 0),3),jU_ Y a0 a2 Z (by rw[yaq_ zaf_]) (gS_ L hL hf (j+1) rfl).1 (gS_ L hL hf (j+1) rfl).2.2.1 zaa_⟩ (λaa v C B=>cf_ (us:=Cl.cells (Cl.mk [] none 0 [] none 0)) 0 ji_ fW_ bL_ rfl rfl rfl rfl aa v C B) i_ (λv _ h=>by exact⟨.inl rfl,.inl rfl,trivial⟩)):G:=h
set_option maxHeartbeats 4000000 in
theorem all_c (p:List Pc) (a4:Ao) (a8:Nat) (bu:Int) (hsm:∀ x∈p,x.sm) (hp:p.length<=100000000):Tri prog 67 #[.slice a4 p.length a8,i4_ bu] [] [X_ a4 (p.flatMap Pc.cells),kp_] (λy:{y:Cl×Int // gf_ p bu y.1 y.2}=>.tuple #[y.1.1.val,i4_ y.1.2]) (λ_=>[]) (λy=>y.1.1.row):=by
 refine j_ func67 rfl rfl ntmps67 rfl λv_1=>?_;refine Zz 2 ?_;refine C_ zeroValue110 rfl λb_1=>Zz 3 ?_
 refine qt_ (Zz 4 ?_);refine f_ (Di_ p a4 a8 zaa_ hsm) rfl i_ zf rfl λ_=>Zi 6 (λhr_1=>?_) λhr_1=>?_
 .have Y:=hr_1
  refine Zi 9 (λhr_2=>?_) λhr_2=>?_
  .have a0:=hr_2
   refine Zi 4 (λhr_3=>?_) λhr_3=>?_
   .have a2:=hr_3
    refine Zz 7 ?_;obtain⟨m,Z⟩:∃ m:Nat,min bu 65536=(m:Int):=⟨(min bu 65536).toNat,by omega⟩;have hm:m<=65536:=by omega
    have L:=zl_ (yL_ Y);have hpl:∀ k,(lat (be_ (uniq [] p)) k).length<=1000000000:=λk=>by have C:=dv_ (be_ (uniq [] p)) k;have B:=oU_ (uniq [] p);have h_3:=kP_ p [];simp only[yay_]at h_3;omega
    refine Zz 2 ?_;refine f_ (ty_ p a4 a8 zaa_) rfl i_ zf rfl λ⟨⟨g,pb,kb,ab,ub,ob,ib,rb,sb,fb,lv,hm_1,hl_1⟩,hy⟩=>?_;dsimp only;dsimp only[NewE.own,NewE.ok]at hy ⊢;obtain⟨hym,hyl⟩:=hy;simp only[yaD_,yap_];refine bQ_ hyl (c_ (c_ (c_ (c_ (c_ (c_ (c_ (c_ (c_ (g_ s_)))))))))) λlad lcap hlad hclad hmlad hzlad=>?_;subst hlad;refine C_ zeroValue195 rfl λA=>u_ (S_ e_ (S_ e_ (S_ e_ (S_ e_ (S_ e_ (S_ e_ (S_ e_ (S_ e_ (S_ e_ (S_ e_ (aW_ aJ_))))))))))) (p_ 0 sizeOf195 rfl rfl rfl rfl rfl rfl (Zz 5 ?_))
    refine d_ (ai_ (kM_ rfl rfl) (yae_ (i4_) Z)) rfl (C_ bJ_ rfl λF=>p_ 0 R_ rfl rfl rfl rfl rfl rfl (Zz 4 ?_));refine C_ ss_ rfl λd=>Zz 5 ?_
    refine d_ (bo_ rfl rfl) rfl (Zz 2 ?_);refine p_ 3 eZ_ rfl rfl rfl rfl rfl rfl (Zz 3 ?_);refine et_ (bk_ A (.cells #[zp_ g 0] 195 (0,0))) (aW_ (c_ (c_ e_))) (λ_ C B _=>⟨C,B⟩) ?_;refine et_ (bk_ F (.cells #[i4_ m] 3 (0,0))) (aW_ (c_ e_)) (λ_ C B _=>⟨C,B⟩) ?_;refine et_ (bk_ g (.cells #[.map (some pb),.slice lad (aS_ (uniq [] p)).length lcap,.map (some kb),.func (.func 145) #[] #[zp_ A 0,zp_ F 0,zp_ d 0],.map (some ab),.map (some ub),.map (some ob),.map (some ib),.map (some rb),.map (some sb),.map (some fb)] 204 (0,0))) (aW_ (c_ e_)) (λ_ C B _=>⟨C,B⟩) ?_;refine jk_ ix_ hym (c_ (c_ (c_ (c_ (c_ (c_ (c_ (c_ (c_ E_))))))))) λadr=>?_;refine Zz 2 ?_;refine f_ (atS_c p a4 a8 zaa_) rfl i_ zf rfl λ⟨⟨aad,acap⟩,hac,ham,haz⟩=>?_;dsimp only;refine Zz 7 ?_;refine f_ (Dm_ (EngB.mk g pb ab ub ob ib rb sb lad lcap (aS_ (uniq [] p))) (EA m hm (EngB.mk g pb ab ub ob ib rb sb lad lcap (aS_ (uniq [] p))) A F d kb fb) [] [] [(d,.cells #[.slice none 0 0] 50 (0,0)),(kb,.map #[] 0),(fb,.map #[] 0)] ⟨.slice none 0 0,#[],0,#[],0,[],[],rfl,at_.nil _ _,SetE.nil,SetE.nil,by simp⟩ (atS p) aad acap (by have:=wZ_ p;omega) (by have:=ng_ (uniq [] p);have h_3:=kP_ p [];simp only[yay_]at h_3;show (aS_ (uniq [] p)).length<=_;omega)) rfl (l_ e_ (l_ e_ (c_ (c_ (c_ (c_ (c_ (c_ e_)))))))) (λv _ h=>by exact⟨h.2.2.1,h.2.2.2.2.2.1,h.1,⟨h.2.2.2.2.1,h.2.2.2.1,h.2.2.1⟩,trivial⟩) rfl λ⟨Hs_1,hS_1⟩=>?_;dsimp only;refine Zz 2 ?_;refine u_ (S_ (g_ e_) (S_ (g_ e_) (S_ (g_ e_) (S_ (g_ e_) (S_ (g_ e_) (S_ (g_ e_) (aW_ aJ_))))))) (Zz 3 ?_);refine f_ (Cc_ g) rfl i_ zt rfl λ⟨a7,a5,a6⟩=>?_;dsimp only;refine C_ zeroValue206 rfl λa1=>p_ 0 sizeOf206 rfl rfl rfl rfl rfl rfl (Zz 3 ?_)
    refine qv_ (Zz 8 ?_);refine J_ (ι:={y:Nat×List Fc×List Fc×Ix×Hp×Hp×Hp×Hp×Hp×Hp×Hp // LoopA (uniq [] p) (atS p) m y.1 y.2.1 y.2.2.1 y.2.2.2.1/\((EA m hm (EngB.mk g pb ab ub ob ib rb sb lad lcap (aS_ (uniq [] p))) A F d kb fb)).St y.2.1 y.2.2.1 y.2.2.2.2.2.2.2.2.2.2/\IxO 9 104 (EngB.mk g pb ab ub ob ib rb sb lad lcap (aS_ (uniq [] p))) y.2.2.2.1 ⟨y.2.2.2.2.1,y.2.2.2.2.2.1,y.2.2.2.2.2.2.1,y.2.2.2.2.2.2.2.1,y.2.2.2.2.2.2.2.2.1,y.2.2.2.2.2.2.2.2.2.1⟩/\vs_ y.2.2.2.1 y.1}) (λy=>[(0,.slice a4 p.length a8),(1,i4_ bu),(4,zp_ b_1 0),(7,zp_ A 0),(8,zp_ F 0),(9,zp_ d 0),(10,.slice aad (atS p).length acap),(11,zp_ a1 0),(12,i4_ y.1.1)]) (λy=>((b_1,.cells #[.slice none 0 0,.slice none 0 0] 110 (0,0))::((a1,.cells #[.slice none 0 0,.slice (some ⟨a7,0,none⟩) 6 6,.slice (some ⟨a5,0,none⟩) 4 4,.slice (some ⟨a6,0,none⟩) 2 2] 206 (0,0))::(y.1.2.2.2.2.1++(y.1.2.2.2.2.2.1++(y.1.2.2.2.2.2.2.1++(y.1.2.2.2.2.2.2.2.1++(y.1.2.2.2.2.2.2.2.2.1++(y.1.2.2.2.2.2.2.2.2.2.1++y.1.2.2.2.2.2.2.2.2.2.2))))))))) (λy=>[X_ (some ⟨a7,0,none⟩) (List.flatMap fvC (rlV g 1)),X_ (some ⟨a5,0,none⟩) (List.flatMap fvC (rlV g 2)),X_ (some ⟨a6,0,none⟩) (List.flatMap fvC (rlV g 3)),X_ aad (List.flatMap aa_ (atS p)),mlF prog 329 Ky.val Pc.cells pb (be_ (uniq [] p)) adr,bk_ g (.cells #[.map (some pb),.slice lad (aS_ (uniq [] p)).length lcap,.map (some kb),.func (.func 145) #[] #[zp_ A 0,zp_ F 0,zp_ d 0],.map (some ab),.map (some ub),.map (some ob),.map (some ib),.map (some rb),.map (some sb),.map (some fb)] 204 (0,0)),bk_ F (.cells #[i4_ m] 3 (0,0)),bk_ A (.cells #[zp_ g 0] 195 (0,0)),X_ lad (List.flatMap aa_ (aS_ (uniq [] p))),X_ a4 (p.flatMap Pc.cells),kp_]) (λy=>m+1 - y.1.1) ⟨((0:Nat),(emits (bP_ m) (hz_ (aS_ (uniq [] p)) (atS p)) []),([]:List Fc),Ix.nil,[(ab,.map #[] 0)],[(ub,.map #[] 0)],[(ob,.map #[] 0)],[(ib,.map #[] 0)],[(rb,.map #[] 0)],[(sb,.map #[] 0)],Hs_1),tG_ L rfl,by exact hS_1,⟨cC_.nil _ _,cC_.nil _ _,cC_.nil _ _,cC_.nil _ _,cC_.nil _ _,cC_.nil _ _⟩,AB_⟩ zl (l_ (c_ (c_ (c_ (c_ (c_ (c_ (c_ e_))))))) (l_ e_ (l_ e_ (l_ e_ (l_ e_ (l_ e_ (l_ e_ (l_ e_ Z_)))))))) zh ?_;rintro ⟨⟨n,q,fm,x,Ha,Hu,Ho,Hi,Hr,Hm,Hs⟩,hL,hS,hI,hz⟩;dsimp only at hL hS hI hz ⊢;obtain⟨M,K,I,J,N,qf_1,H,hHs_1,O,hEk_1,hEf_1,hqf_1⟩:=hS;subst hHs_1;have hqm:=hL.len;have hnq:=hL.le;obtain⟨hxl,hyl⟩:=tN_ hz zaa_;refine au_ (u_ (S_ e_ (S_ e_ (S_ (g_ (g_ (g_ (g_ (g_ (g_ e_)))))) (aW_ (g_ (g_ (g_ (g_ (g_ (g_ e_)))))))))) (Zz 4 ?_));refine d_ (cm_ O bm_ rfl) rfl ?_;refine Zi 0 (λhr_4=>?_) λhr_4=>?_
    .refine Zz 8 ?_
     refine G_ 0 [0,1,2,3,4,5,6] zk zs (Zz 4 ?_);refine N_ rfl (ai_ (ok_ (E:=(EA m hm (EngB.mk g pb ab ub ob ib rb sb lad lcap (aS_ (uniq [] p))) A F d kb fb)) (nw:=q) (Hs:=((d,.cells #[M] 50 (0,0))::(kb,.map K I)::([(fb,.map J N)]++H))) ⟨M,K,I,J,N,qf_1,H,rfl,O,hEk_1,hEf_1,hqf_1⟩ bB_ rfl zp) (show _=i4_ (List.length q:Int) from rfl)) rfl (Zi 1 (λhr_5=>?_) λhr_5=>?_)
     .refine Zz 9 ?_
      refine f_ (Cb_ O zaa_) rfl zp zt rfl λ⟨Hq_2,hq_1⟩=>?_;dsimp only;refine Zz 2 ?_;refine u_ (S_ (g_ e_) (S_ (g_ e_) (S_ (g_ e_) (aW_ (g_ e_))))) (au_ (bQ_ hq_1 (c_ (c_ (c_ (c_ s_)))) λfad fcap hfad hcfad hmfad hzfad=>?_));subst hfad;refine Zz 3 ?_;refine d_ (y_ ig_ rfl rfl) rfl (p_ 0 bL_ rfl rfl rfl rfl rfl rfl (Zz 4 ?_));exact dk_ ⟨((Cl.mk (atS p) aad acap (kq_ q) fad fcap),0),Dt_ Y a0 a2 Z ⟨hac,ham,haz,hcfad,hmfad,hzfad⟩ rfl hL zaa_ zaa_ rfl⟩ (λaa v C B=>cf_ (us:=Cl.cells (Cl.mk (atS p) aad acap (kq_ q) fad fcap)) 0 ji_ fW_ bL_ rfl rfl rfl rfl aa v C B) i_ zf
     refine Zi 8 (λhr_6=>?_) λhr_6=>?_
     .refine Zz 7 ?_
      refine d_ (y_ ig_ rfl rfl) rfl (p_ 0 bL_ rfl rfl rfl rfl rfl rfl (Zz 4 ?_));exact dk_ ⟨((Cl.mk [] none 0 [] none 0),2),jU_ Y a0 a2 Z (by rw[yag_ zaf_]) hL.nd hL.der zaa_⟩ (λaa v C B=>cf_ (us:=Cl.cells (Cl.mk [] none 0 [] none 0)) 0 ji_ fW_ bL_ rfl rfl rfl rfl aa v C B) i_ (λv _ h=>by exact⟨.inl rfl,.inl rfl,trivial⟩)
     refine Zz 5 ?_;refine d_ (y_ ig_ rfl rfl) rfl (p_ 0 bL_ rfl rfl rfl rfl rfl rfl (Zz 4 ?_));exact dk_ ⟨((Cl.mk [] none 0 [] none 0),3),jU_ Y a0 a2 Z (by rw[yaq_ zaf_]) hL.nd hL.der zaa_⟩ (λaa v C B=>cf_ (us:=Cl.cells (Cl.mk [] none 0 [] none 0)) 0 ji_ fW_ bL_ rfl rfl rfl rfl aa v C B) i_ (λv _ h=>by exact⟨.inl rfl,.inl rfl,trivial⟩)
    have hlf:n<q.length:=by omega
    obtain⟨f,hf⟩:∃ e_1,q[n]? = some e_1:=⟨_,yaa_ hlf⟩;have hmf:f∈q:=yab_ hf;have hfd:=hL.der f hmf;have hform:=hfd.form L;obtain⟨hxl_1,hyl_1⟩:=tN_ (lj_ hz (decide (f∈fm)) f) zaa_;refine Zz 11 ?_;refine d_ (bH_ O bm_ ao_ rfl rfl zaa_ zaa_) rfl (d_ (eq_ O zp fX_ ao_ rfl (Fc.cells_len _) zae_ (A_ Fc.cells_len hf)) rfl (C_ ax_ rfl λb_6=>p_ 0 ao_ rfl rfl rfl rfl rfl rfl (Zz 6 ?_)));refine f_ (CN_ (EngB.mk g pb ab ub ob ib rb sb lad lcap (aS_ (uniq [] p))) (EA m hm (EngB.mk g pb ab ub ob ib rb sb lad lcap (aS_ (uniq [] p))) A F d kb fb) x f q fm ((d,.cells #[M] 50 (0,0))::(kb,.map K I)::([(fb,.map J N)]++H)) ⟨M,K,I,J,N,qf_1,H,rfl,O,hEk_1,hEf_1,hqf_1⟩ Ha Hu Ho Hi Hr Hm hI hxl hyl) rfl (x_ (c_ (c_ (c_ (c_ (c_ s_))))) (x_ (c_ (c_ (c_ (c_ (c_ s_))))) (x_ (c_ (c_ (c_ (c_ (c_ s_))))) (x_ (c_ (c_ (c_ (c_ (c_ s_))))) (x_ (c_ (c_ (c_ (c_ (c_ s_))))) (x_ (c_ (c_ (c_ (c_ (c_ s_))))) (l_ (c_ (c_ (c_ e_))) (l_ (c_ (c_ (c_ e_))) (x_ (c_ (c_ (c_ s_))) (c_ (c_ E_))))))))))) zf rfl λ⟨⟨U,S,P,Q,V,T⟩,hI_1⟩=>?_;dsimp only;refine u_ Cq_ (Zz 2 ?_);refine u_ (S_ (g_ (g_ (g_ (g_ (g_ (g_ e_)))))) (S_ (g_ (g_ (g_ (g_ (g_ (g_ e_)))))) (S_ (g_ (g_ (g_ (g_ (g_ (g_ (g_ (g_ e_)))))))) (S_ (g_ (g_ (g_ (g_ (g_ (g_ (g_ (g_ e_)))))))) (aW_ (g_ (g_ (g_ (g_ (g_ (g_ (g_ aJ_)))))))))))) (Zz 4 ?_);rcases lY_ hform with hk|hk|hk
    .refine d_ (ai_ (db_ xC_ sizeOf205 rfl rfl zaa_ zaa_) (show _=zp_ a1 1 from by rw[hk];rfl)) rfl ?_
     refine Zz 6 ?_;refine es_ (H':=((b_1,.cells #[.slice none 0 0,.slice none 0 0] 110 (0,0))::((a1,.cells #[.slice none 0 0,.slice (some ⟨a7,0,none⟩) 6 6,.slice (some ⟨a5,0,none⟩) 4 4,.slice (some ⟨a6,0,none⟩) 2 2] 206 (0,0))::((b_6,.cells #[i4_ f.kind,str f.a,str f.b,str f.r,i4_ f.lo,i4_ f.hi] 104 (0,0))::(U++(S++(P++(Q++(V++(T++((d,.cells #[M] 50 (0,0))::(kb,.map K I)::([(fb,.map J N)]++H)))))))))))) (l_ (c_ (c_ (c_ e_))) (l_ (c_ (c_ (c_ e_))) (l_ (c_ (c_ e_)) (x_ (c_ (c_ s_)) (x_ (c_ (c_ s_)) (x_ (c_ (c_ s_)) (x_ (c_ (c_ s_)) (x_ (c_ (c_ s_)) (x_ (c_ (c_ s_)) (l_ e_ (l_ e_ (x_ s_ Z_)))))))))))) (λv _ h=>h) ?_;refine J_ (ι:={y:Nat×Hp // y.1<=6/\((EA m hm (EngB.mk g pb ab ub ob ib rb sb lad lcap (aS_ (uniq [] p))) A F d kb fb)).St (rls (bP_ m) idk (be_ (uniq [] p)) (Ix.add x (decide (f∈fm)) f) f y.1 (q,fm)).1 (rls (bP_ m) idk (be_ (uniq [] p)) (Ix.add x (decide (f∈fm)) f) f y.1 (q,fm)).2 y.2/\(y.1=0\/((rls (bP_ m) idk (be_ (uniq [] p)) (Ix.add x (decide (f∈fm)) f) f y.1 (q,fm)).1).length<=m)}) (λy=>[(0,.slice a4 p.length a8),(1,i4_ bu),(4,zp_ b_1 0),(7,zp_ A 0),(8,zp_ F 0),(9,zp_ d 0),(10,.slice aad (atS p).length acap),(11,zp_ a1 0),(12,i4_ n),(13,zp_ b_6 0),(60,.slice (some ⟨a7,0,none⟩) 6 6),(61,i4_ 6),(62,i4_ y.1.1)]) (λy=>((b_1,.cells #[.slice none 0 0,.slice none 0 0] 110 (0,0))::((a1,.cells #[.slice none 0 0,.slice (some ⟨a7,0,none⟩) 6 6,.slice (some ⟨a5,0,none⟩) 4 4,.slice (some ⟨a6,0,none⟩) 2 2] 206 (0,0))::((b_6,.cells #[i4_ f.kind,str f.a,str f.b,str f.r,i4_ f.lo,i4_ f.hi] 104 (0,0))::(U++(S++(P++(Q++(V++(T++y.1.2)))))))))) (λy=>[X_ (some ⟨a7,0,none⟩) (List.flatMap fvC (rlV g 1)),X_ (some ⟨a5,0,none⟩) (List.flatMap fvC (rlV g 2)),X_ (some ⟨a6,0,none⟩) (List.flatMap fvC (rlV g 3)),X_ aad (List.flatMap aa_ (atS p)),mlF prog 329 Ky.val Pc.cells pb (be_ (uniq [] p)) adr,bk_ g (.cells #[.map (some pb),.slice lad (aS_ (uniq [] p)).length lcap,.map (some kb),.func (.func 145) #[] #[zp_ A 0,zp_ F 0,zp_ d 0],.map (some ab),.map (some ub),.map (some ob),.map (some ib),.map (some rb),.map (some sb),.map (some fb)] 204 (0,0)),bk_ F (.cells #[i4_ m] 3 (0,0)),bk_ A (.cells #[zp_ g 0] 195 (0,0)),X_ lad (List.flatMap aa_ (aS_ (uniq [] p))),X_ a4 (p.flatMap Pc.cells),kp_]) (λy=>6 - y.1.1) ⟨((0:Nat),((d,.cells #[M] 50 (0,0))::(kb,.map K I)::([(fb,.map J N)]++H))),by omega,by exact⟨M,K,I,J,N,qf_1,H,rfl,O,hEk_1,hEf_1,hqf_1⟩,.inl rfl⟩ zl zp zh ?_;rintro ⟨⟨j,Hs⟩,hj,G,hjm⟩;dsimp only at hj G hjm ⊢;refine Zi 2 (λhr_5=>?_) λhr_5=>?_
     .have ej:j=6:=by omega
      have hjl:((rls (bP_ m) idk (be_ (uniq [] p)) (Ix.add x (decide (f∈fm)) f) f j (q,fm)).1).length<=m:=hjm.resolve_left zaa_;rw[ej]at hjl G;refine Zz 12 ?_;exact w_ ⟨(n+1,(rls (bP_ m) idk (be_ (uniq [] p)) (Ix.add x (decide (f∈fm)) f) f 6 (q,fm)).1,(rls (bP_ m) idk (be_ (uniq [] p)) (Ix.add x (decide (f∈fm)) f) f 6 (q,fm)).2,(Ix.add x (decide (f∈fm)) f),U,S,P,Q,V,T,Hs),(kB_ L hL hf (by have e:nrl f=6:=(by unfold nrl;simp[hk]);rw[e]) zaa_),(by exact G),hI_1,(lj_ hz _ f)⟩ zab_ zl (l_ e_ (l_ e_ (x_ (c_ s_) (x_ (c_ s_) (x_ (c_ s_) (x_ (c_ s_) (x_ (c_ s_) (x_ (c_ s_) E_)))))))) zh
     have a9:j<List.length (rlV g 1):=by show j<6;omega
     obtain⟨fv,a3⟩:∃ e_1,(rlV g 1)[j]? = some e_1:=⟨_,yaa_ a9⟩;have hmfv:fv∈(rlV g 1):=yab_ a3;refine Zz 10 ?_;refine d_ (P_ eo_ eZ_ rfl rfl (λv _ h=>av_ (n:=1) jO_ zae_ (by exact h.1) a3) zaa_ zaa_) rfl (d_ (bw_ (ad:=(some ⟨a7,0,none⟩)) isAgg199 rfl zf (A_ jO_ a3 0 _ rfl)) rfl (Zz 7 ?_));obtain⟨nr,rfl,hT⟩:=Cf_ (EngB.mk g pb ab ub ob ib rb sb lad lcap (aS_ (uniq [] p))) (EA m hm (EngB.mk g pb ab ub ob ib rb sb lad lcap (aS_ (uniq [] p))) A F d kb fb) (EngA.mk adr (λ_=>(none,0)) (λ_=>(none,0)) (λ_=>(none,0)) (λ_=>(none,0)) (λ_=>(none,0)) (λ_=>(none,0))) (be_ (uniq [] p)) (Ix.add x (decide (f∈fm)) f) f (rls (bP_ m) idk (be_ (uniq [] p)) (Ix.add x (decide (f∈fm)) f) f j (q,fm)).1 (rls (bP_ m) idk (be_ (uniq [] p)) (Ix.add x (decide (f∈fm)) f) f j (q,fm)).2 Hs G U S P Q V T hI_1 hpl hxl_1 hyl_1 (λhk=>(kd_ hform hk).2.2) (λ_ y hy=>(L y (pm9.1 hy).1).num (.inr (pm9.1 hy).2.1)) hk j a3;exact hZ_
    .refine d_ (ai_ (db_ xC_ sizeOf205 rfl rfl zaa_ zaa_) (show _=zp_ a1 2 from by rw[hk];rfl)) rfl ?_
     refine Zz 6 ?_;refine es_ (H':=((b_1,.cells #[.slice none 0 0,.slice none 0 0] 110 (0,0))::((a1,.cells #[.slice none 0 0,.slice (some ⟨a7,0,none⟩) 6 6,.slice (some ⟨a5,0,none⟩) 4 4,.slice (some ⟨a6,0,none⟩) 2 2] 206 (0,0))::((b_6,.cells #[i4_ f.kind,str f.a,str f.b,str f.r,i4_ f.lo,i4_ f.hi] 104 (0,0))::(U++(S++(P++(Q++(V++(T++((d,.cells #[M] 50 (0,0))::(kb,.map K I)::([(fb,.map J N)]++H)))))))))))) (l_ (c_ (c_ (c_ e_))) (l_ (c_ (c_ (c_ e_))) (l_ (c_ (c_ e_)) (x_ (c_ (c_ s_)) (x_ (c_ (c_ s_)) (x_ (c_ (c_ s_)) (x_ (c_ (c_ s_)) (x_ (c_ (c_ s_)) (x_ (c_ (c_ s_)) (l_ e_ (l_ e_ (x_ s_ Z_)))))))))))) (λv _ h=>h) ?_;refine J_ (ι:={y:Nat×Hp // y.1<=4/\((EA m hm (EngB.mk g pb ab ub ob ib rb sb lad lcap (aS_ (uniq [] p))) A F d kb fb)).St (rls (bP_ m) idk (be_ (uniq [] p)) (Ix.add x (decide (f∈fm)) f) f y.1 (q,fm)).1 (rls (bP_ m) idk (be_ (uniq [] p)) (Ix.add x (decide (f∈fm)) f) f y.1 (q,fm)).2 y.2/\(y.1=0\/((rls (bP_ m) idk (be_ (uniq [] p)) (Ix.add x (decide (f∈fm)) f) f y.1 (q,fm)).1).length<=m)}) (λy=>[(0,.slice a4 p.length a8),(1,i4_ bu),(4,zp_ b_1 0),(7,zp_ A 0),(8,zp_ F 0),(9,zp_ d 0),(10,.slice aad (atS p).length acap),(11,zp_ a1 0),(12,i4_ n),(13,zp_ b_6 0),(60,.slice (some ⟨a5,0,none⟩) 4 4),(61,i4_ 4),(62,i4_ y.1.1)]) (λy=>((b_1,.cells #[.slice none 0 0,.slice none 0 0] 110 (0,0))::((a1,.cells #[.slice none 0 0,.slice (some ⟨a7,0,none⟩) 6 6,.slice (some ⟨a5,0,none⟩) 4 4,.slice (some ⟨a6,0,none⟩) 2 2] 206 (0,0))::((b_6,.cells #[i4_ f.kind,str f.a,str f.b,str f.r,i4_ f.lo,i4_ f.hi] 104 (0,0))::(U++(S++(P++(Q++(V++(T++y.1.2)))))))))) (λy=>[X_ (some ⟨a7,0,none⟩) (List.flatMap fvC (rlV g 1)),X_ (some ⟨a5,0,none⟩) (List.flatMap fvC (rlV g 2)),X_ (some ⟨a6,0,none⟩) (List.flatMap fvC (rlV g 3)),X_ aad (List.flatMap aa_ (atS p)),mlF prog 329 Ky.val Pc.cells pb (be_ (uniq [] p)) adr,bk_ g (.cells #[.map (some pb),.slice lad (aS_ (uniq [] p)).length lcap,.map (some kb),.func (.func 145) #[] #[zp_ A 0,zp_ F 0,zp_ d 0],.map (some ab),.map (some ub),.map (some ob),.map (some ib),.map (some rb),.map (some sb),.map (some fb)] 204 (0,0)),bk_ F (.cells #[i4_ m] 3 (0,0)),bk_ A (.cells #[zp_ g 0] 195 (0,0)),X_ lad (List.flatMap aa_ (aS_ (uniq [] p))),X_ a4 (p.flatMap Pc.cells),kp_]) (λy=>4 - y.1.1) ⟨((0:Nat),((d,.cells #[M] 50 (0,0))::(kb,.map K I)::([(fb,.map J N)]++H))),by omega,by exact⟨M,K,I,J,N,qf_1,H,rfl,O,hEk_1,hEf_1,hqf_1⟩,.inl rfl⟩ zl zp zh ?_;rintro ⟨⟨j,Hs⟩,hj,G,hjm⟩;dsimp only at hj G hjm ⊢;refine Zi 2 (λhr_5=>?_) λhr_5=>?_
     .have ej:j=4:=by omega
      have hjl:((rls (bP_ m) idk (be_ (uniq [] p)) (Ix.add x (decide (f∈fm)) f) f j (q,fm)).1).length<=m:=hjm.resolve_left zaa_;rw[ej]at hjl G;refine Zz 12 ?_;exact w_ ⟨(n+1,(rls (bP_ m) idk (be_ (uniq [] p)) (Ix.add x (decide (f∈fm)) f) f 4 (q,fm)).1,(rls (bP_ m) idk (be_ (uniq [] p)) (Ix.add x (decide (f∈fm)) f) f 4 (q,fm)).2,(Ix.add x (decide (f∈fm)) f),U,S,P,Q,V,T,Hs),(kB_ L hL hf (by have e:nrl f=4:=(by unfold nrl;simp[hk]);rw[e]) zaa_),(by exact G),hI_1,(lj_ hz _ f)⟩ zab_ zl (l_ e_ (l_ e_ (x_ (c_ s_) (x_ (c_ s_) (x_ (c_ s_) (x_ (c_ s_) (x_ (c_ s_) (x_ (c_ s_) E_)))))))) zh
     have a9:j<List.length (rlV g 2):=by show j<4;omega
     obtain⟨fv,a3⟩:∃ e_1,(rlV g 2)[j]? = some e_1:=⟨_,yaa_ a9⟩;have hmfv:fv∈(rlV g 2):=yab_ a3;refine Zz 10 ?_;refine d_ (P_ eo_ eZ_ rfl rfl (λv _ h=>av_ (n:=1) jO_ zae_ (by exact h.2.1) a3) zaa_ zaa_) rfl (d_ (bw_ (ad:=(some ⟨a5,0,none⟩)) isAgg199 rfl zf (A_ jO_ a3 0 _ rfl)) rfl (Zz 7 ?_));obtain⟨nr,rfl,hT⟩:=Ce_ (EngB.mk g pb ab ub ob ib rb sb lad lcap (aS_ (uniq [] p))) (EA m hm (EngB.mk g pb ab ub ob ib rb sb lad lcap (aS_ (uniq [] p))) A F d kb fb) (EngA.mk adr (λ_=>(none,0)) (λ_=>(none,0)) (λ_=>(none,0)) (λ_=>(none,0)) (λ_=>(none,0)) (λ_=>(none,0))) (be_ (uniq [] p)) (Ix.add x (decide (f∈fm)) f) f (rls (bP_ m) idk (be_ (uniq [] p)) (Ix.add x (decide (f∈fm)) f) f j (q,fm)).1 (rls (bP_ m) idk (be_ (uniq [] p)) (Ix.add x (decide (f∈fm)) f) f j (q,fm)).2 Hs G U S P Q V T hI_1 hpl hxl_1 hyl_1 (λhk=>(kd_ hform hk).2.2) (λ_ y hy=>(L y (pm9.1 hy).1).num (.inr (pm9.1 hy).2.1)) hk j a3;exact hZ_
    refine d_ (ai_ (db_ xC_ sizeOf205 rfl rfl zaa_ zaa_) (show _=zp_ a1 3 from by rw[hk];rfl)) rfl ?_;refine Zz 6 ?_;refine es_ (H':=((b_1,.cells #[.slice none 0 0,.slice none 0 0] 110 (0,0))::((a1,.cells #[.slice none 0 0,.slice (some ⟨a7,0,none⟩) 6 6,.slice (some ⟨a5,0,none⟩) 4 4,.slice (some ⟨a6,0,none⟩) 2 2] 206 (0,0))::((b_6,.cells #[i4_ f.kind,str f.a,str f.b,str f.r,i4_ f.lo,i4_ f.hi] 104 (0,0))::(U++(S++(P++(Q++(V++(T++((d,.cells #[M] 50 (0,0))::(kb,.map K I)::([(fb,.map J N)]++H)))))))))))) (l_ (c_ (c_ (c_ e_))) (l_ (c_ (c_ (c_ e_))) (l_ (c_ (c_ e_)) (x_ (c_ (c_ s_)) (x_ (c_ (c_ s_)) (x_ (c_ (c_ s_)) (x_ (c_ (c_ s_)) (x_ (c_ (c_ s_)) (x_ (c_ (c_ s_)) (l_ e_ (l_ e_ (x_ s_ Z_)))))))))))) (λv _ h=>h) ?_;refine J_ (ι:={y:Nat×Hp // y.1<=2/\((EA m hm (EngB.mk g pb ab ub ob ib rb sb lad lcap (aS_ (uniq [] p))) A F d kb fb)).St (rls (bP_ m) idk (be_ (uniq [] p)) (Ix.add x (decide (f∈fm)) f) f y.1 (q,fm)).1 (rls (bP_ m) idk (be_ (uniq [] p)) (Ix.add x (decide (f∈fm)) f) f y.1 (q,fm)).2 y.2/\(y.1=0\/((rls (bP_ m) idk (be_ (uniq [] p)) (Ix.add x (decide (f∈fm)) f) f y.1 (q,fm)).1).length<=m)}) (λy=>[(0,.slice a4 p.length a8),(1,i4_ bu),(4,zp_ b_1 0),(7,zp_ A 0),(8,zp_ F 0),(9,zp_ d 0),(10,.slice aad (atS p).length acap),(11,zp_ a1 0),(12,i4_ n),(13,zp_ b_6 0),(60,.slice (some ⟨a6,0,none⟩) 2 2),(61,i4_ 2),(62,i4_ y.1.1)]) (λy=>((b_1,.cells #[.slice none 0 0,.slice none 0 0] 110 (0,0))::((a1,.cells #[.slice none 0 0,.slice (some ⟨a7,0,none⟩) 6 6,.slice (some ⟨a5,0,none⟩) 4 4,.slice (some ⟨a6,0,none⟩) 2 2] 206 (0,0))::((b_6,.cells #[i4_ f.kind,str f.a,str f.b,str f.r,i4_ f.lo,i4_ f.hi] 104 (0,0))::(U++(S++(P++(Q++(V++(T++y.1.2)))))))))) (λy=>[X_ (some ⟨a7,0,none⟩) (List.flatMap fvC (rlV g 1)),X_ (some ⟨a5,0,none⟩) (List.flatMap fvC (rlV g 2)),X_ (some ⟨a6,0,none⟩) (List.flatMap fvC (rlV g 3)),X_ aad (List.flatMap aa_ (atS p)),mlF prog 329 Ky.val Pc.cells pb (be_ (uniq [] p)) adr,bk_ g (.cells #[.map (some pb),.slice lad (aS_ (uniq [] p)).length lcap,.map (some kb),.func (.func 145) #[] #[zp_ A 0,zp_ F 0,zp_ d 0],.map (some ab),.map (some ub),.map (some ob),.map (some ib),.map (some rb),.map (some sb),.map (some fb)] 204 (0,0)),bk_ F (.cells #[i4_ m] 3 (0,0)),bk_ A (.cells #[zp_ g 0] 195 (0,0)),X_ lad (List.flatMap aa_ (aS_ (uniq [] p))),X_ a4 (p.flatMap Pc.cells),kp_]) (λy=>2 - y.1.1) ⟨((0:Nat),((d,.cells #[M] 50 (0,0))::(kb,.map K I)::([(fb,.map J N)]++H))),by omega,by exact⟨M,K,I,J,N,qf_1,H,rfl,O,hEk_1,hEf_1,hqf_1⟩,.inl rfl⟩ zl zp zh ?_;rintro ⟨⟨j,Hs⟩,hj,G,hjm⟩;dsimp only at hj G hjm ⊢;refine Zi 2 (λhr_5=>?_) λhr_5=>?_
    .have ej:j=2:=by omega
     have hjl:((rls (bP_ m) idk (be_ (uniq [] p)) (Ix.add x (decide (f∈fm)) f) f j (q,fm)).1).length<=m:=hjm.resolve_left zaa_;rw[ej]at hjl G;refine Zz 12 ?_;exact w_ ⟨(n+1,(rls (bP_ m) idk (be_ (uniq [] p)) (Ix.add x (decide (f∈fm)) f) f 2 (q,fm)).1,(rls (bP_ m) idk (be_ (uniq [] p)) (Ix.add x (decide (f∈fm)) f) f 2 (q,fm)).2,(Ix.add x (decide (f∈fm)) f),U,S,P,Q,V,T,Hs),(kB_ L hL hf (by have e:nrl f=2:=(by unfold nrl;simp[hk]);rw[e]) zaa_),(by exact G),hI_1,(lj_ hz _ f)⟩ zab_ zl (l_ e_ (l_ e_ (x_ (c_ s_) (x_ (c_ s_) (x_ (c_ s_) (x_ (c_ s_) (x_ (c_ s_) (x_ (c_ s_) E_)))))))) zh
    have a9:j<List.length (rlV g 3):=by show j<2;omega
    obtain⟨fv,a3⟩:∃ e_1,(rlV g 3)[j]? = some e_1:=⟨_,yaa_ a9⟩;have hmfv:fv∈(rlV g 3):=yab_ a3;refine Zz 10 ?_;refine d_ (P_ eo_ eZ_ rfl rfl (λv _ h=>av_ (n:=1) jO_ zae_ (by exact h.2.2.1) a3) zaa_ zaa_) rfl (d_ (bw_ (ad:=(some ⟨a6,0,none⟩)) isAgg199 rfl zf (A_ jO_ a3 0 _ rfl)) rfl (Zz 7 ?_));obtain⟨nr,rfl,hT⟩:=Cd_ (EngB.mk g pb ab ub ob ib rb sb lad lcap (aS_ (uniq [] p))) (EA m hm (EngB.mk g pb ab ub ob ib rb sb lad lcap (aS_ (uniq [] p))) A F d kb fb) (EngA.mk adr (λ_=>(none,0)) (λ_=>(none,0)) (λ_=>(none,0)) (λ_=>(none,0)) (λ_=>(none,0)) (λ_=>(none,0))) (be_ (uniq [] p)) (Ix.add x (decide (f∈fm)) f) f (rls (bP_ m) idk (be_ (uniq [] p)) (Ix.add x (decide (f∈fm)) f) f j (q,fm)).1 (rls (bP_ m) idk (be_ (uniq [] p)) (Ix.add x (decide (f∈fm)) f) f j (q,fm)).2 Hs G U S P Q V T hI_1 hpl hxl_1 hyl_1 (λhk=>(kd_ hform hk).2.2) (λ_ y hy=>(L y (pm9.1 hy).1).num (.inr (pm9.1 hy).2.1)) hk j a3;exact hZ_
   refine Zz 6 ?_;exact kL_
  refine Zz 9 ?_;exact kL_
 refine Zz 5 ?_;refine d_ (y_ ig_ rfl rfl) rfl (Zz 1 ?_);refine p_ 0 bL_ rfl rfl rfl rfl rfl rfl (Zz 4 ?_);exact dk_ ⟨((Cl.mk [] none 0 [] none 0),(dO_ p)),Bs_ zaf_⟩ (λaa v C B=>cf_ (us:=Cl.cells (Cl.mk [] none 0 [] none 0)) 0 ji_ fW_ bL_ rfl rfl rfl rfl aa v C B) i_ (λv _ h=>by exact⟨.inl rfl,.inl rfl,trivial⟩)
end Go.Proofs.YtbffkokbdeppaaaGreatDoor
