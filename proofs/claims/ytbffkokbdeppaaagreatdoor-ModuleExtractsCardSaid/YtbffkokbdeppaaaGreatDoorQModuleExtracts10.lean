/-
  Lemmas for the law ModuleExtracts (no condition).
-/
import Derived.Test.YtbffkokbdeppaaaGreatDoorQModuleExtracts9
import Derived.Lib.Bytealg
import Derived.Lib.Small
set_option linter.unusedVariables false
set_option linter.unusedSimpArgs false
set_option linter.unusedSectionVars false
set_option maxHeartbeats 1000000
namespace Go.Proofs.YtbffkokbdeppaaaGreatDoor
open Go Go.Sx Go.Proofs Tryz
attribute [local irreducible] Code.wp wpList wpAnyH
open Go.Vs
theorem BY_ {P:Program} {e:TypeId} {sz n:Nat} {sv:Value} {xs:List Value} {Hr:Hp} (o:av_ e sz sv (n+1) xs Hr):∃ d,av_ e sz d n (xs.take (n*sz)) Hr/\
    ∀ {N:Nf} {fr:Fr} {H:Hp} {Γ:List Fct} {ty t:TypeId} {x y:Operand},(∀ w,(underlying t).run P w=.ok (.slice e) w)->(∀ w,(sizeOf e).run P w=.ok sz w)->Fr.ev fr x=some sv->Fr.ev fr y=some (i4_ n)->Yld P N fr H Γ (.slice t x none (some y) none) ty d:=by
  obtain⟨hl,⟨_,A,_⟩|⟨g,cap,cur,rfl,rfl,C,hm,B,h⟩⟩:=o
  . omega
  . refine⟨.slice (some ⟨g,0,none⟩) n cap,⟨?_,.inr ⟨g,cap,cur,rfl,rfl,by omega,hm,B,?_⟩⟩,λu v h k=>?_⟩
    . grind
    . grind
    . refine aD_ (cq_ (i:=0) (j:=n) (kl:=.i64) (kh:=.i64) u v h rfl k (yaV_ _) zaa_) ?_
      grind[sad,da_]
section
variable {P:Program} {N:Nf} {v0:Vw} {H0:Hp} {fr:Fr}
theorem ol_:∀ (B:Hp) {v:Vw},aC_ (B.map λp=>cv_ p.1 p.2) v->∀ p∈B,v.im p.1/\v.w.heap[p.1]? = some p.2
 | [],_,_,_,h=>by simp at h
 | q::B,v,h,p,d=>by
   rcases yar_.1 d with rfl|d
   . exact h.1
   . exact ol_ B h.2 p d
theorem yh_ {F H:Hp} {Γ:List Fct} {K D:Type} [DecidableEq K] {k:Act->World->Prop} {o:K->Value} {cells:D->List Value} {x e:TypeId} {sz y:Nat} {l:List (K×D)} {d:Hp} (E:KeyT P x o) (hm:kv_ o cells e sz l y d) (B:H.Perm (d++F))
    (h:∀ adr,Ok N v0 H0 k fr F (mlF P x o cells y l adr::Γ)):Ok N v0 H0 k fr H Γ:=by
  obtain⟨adr,C⟩:=hm.lent E;refine tN_ d B (fC_ (λv _ u=>?_) (h adr));rw[gD_]at u;refine⟨C v λp A=>?_,u.2⟩;have:=u.1;exact ol_ d.reverse (by rw[List.map_reverse]at *;exact this) p (List.mem_reverse.2 A)
end
theorem BL_ {P:Program} {N:Nf} {fr:Fr} {H:Hp} {fn:Func} {t s b c:Nat} {ty d T K:TypeId} {u A:Value} (i j:Nat) (E:fn.results=#[.cell t ty,.cell s d]) (G:∀ w,(isAgg ty).run P w=.ok false w) (y:∀ w,(isAgg d).run P w=.ok false w)
    (F:Fr.get fr t=some (zp_ b 0)) (x:Fr.get fr s=some (zp_ c 0)) (hi:H[i]? = some (b,.cells #[u] T (0,0))) (I:H[j]? = some (c,.cells #[A] K (0,0))) (a:Act) (v:Vw) (C:Fr.sat N fr a) (B:v.sat H) :
    (results fn a.tmps).run P v.w=.ok (.tuple #[u,A]) v.w:=by
  have e:=C.val t _ F;have o:=C.val s _ x;have J:v.w.cell? ⟨b,0,none⟩=some u:=by rw[eZ_ B hi];rfl
  have h:v.w.cell? ⟨c,0,none⟩=some A:=by rw[eZ_ B I];rfl
  have hl:=cF_ (t:=ty) (w:=v.w) G J;have k:=cF_ (t:=d) (w:=v.w) y h;simp[results,E,e,o,asAddr,hl,k]
theorem BM_ (p:List Pc) (ad:Ao) (cap:Nat) (S:List Str) (sad:Ao) (a0:Nat) (hp:p.length<=100000000) (hS:S.length<=100000000):Tri prog 162 #[.slice ad p.length cap,.slice sad S.length a0] [] [O_ ad (p.flatMap Pc.cells),O_ sad (S.flatMap V_)] (λy:{y:Nat×Array MapEntry×Nat×List Thg×Value×List Bool×Hp // SetE Thg.val y.2.1 y.2.2.2.1/\Born y.2.1 y.2.2.1/\zR 4 1 jQ_ y.2.2.2.2.1 y.2.2.2.2.2.1 y.2.2.2.2.2.2/\ReachR p S y.2.2.2.1 y.2.2.2.2.2.1}=>.tuple #[.map (some y.1.1),y.1.2.2.2.2.1]) (λy=>(y.1.1,.map y.1.2.1 y.1.2.2.1)::y.1.2.2.2.2.2.2) (λ_=>[]):=by
 refine l_ func162 rfl rfl ntmps162 rfl λv_1=>?_;refine Zz 2 ?_;refine Q_ rfl rfl λC=>K_ zeroValue219 rfl λo=>K_ zeroValue220 rfl λB=>Zz 4 ?_
 refine dm_ rfl λA=>o_ 2 sizeOf219 rfl rfl rfl rfl rfl rfl (Zz 6 ?_)
 refine jE_ (n:=p.length) (by':=1) underlying220 (z:=(.bool false)) zk rfl zaj_ rfl rfl zaa_ zay_ rfl λG HrU hrU=>?_;have hqU:av_ 4 1 G (List.replicate p.length false).length (List.flatMap jQ_ (List.replicate p.length false)) HrU:=by rw[ybJ_,<-lK_ jQ_];exact hrU
 refine s_ (aL_ (ae_ f_) (aL_ (ae_ f_) (aL_ (ae_ f_) (cg_ bS_)))) (dy_ 1 hqU sizeOf220 rfl rfl rfl rfl (Zz 4 ?_));refine dm_ rfl λL=>Zz 5 ?_
 refine dm_ rfl λJ=>Zz 5 ?_
 refine K_ zeroValue279 rfl λx=>Zz 4 ?_
 refine c_ (ft_ rfl rfl) rfl (K_ zeroValue282 rfl λE=>o_ 0 sizeOf282 rfl rfl rfl rfl rfl rfl (Zz 4 ?_));refine c_ (ft_ rfl rfl) rfl (Zz 4 ?_);refine fW_ (cv_ C (.cells #[.slice ad p.length cap] 69 (0,0))) (cg_ (g_ (g_ (g_ (g_ (g_ (g_ (g_ f_)))))))) (λ_ h_1 h_2 _=>⟨h_1,h_2⟩) ?_;refine fW_ (cv_ E (.cells #[.func (.func 243) #[] #[zp_ o 0,zp_ x 0]] 282 (0,0))) (cg_ f_) (λ_ h_1 h_2 _=>⟨h_1,h_2⟩) ?_;refine Zz 2 ?_;refine c_ (x_ cM_ rfl rfl) rfl (bb_ (sP_ (Thg.mk 1 [42]) ([]:List Thg) ([]:List Thg) o x A [(o,.cells #[.map (some A)] 219 (0,0)),(x,.cells #[.slice none 0 0] 279 (0,0)),(A,.map #[] 0)] ⟨#[],0,.slice none 0 0,[],rfl,SetE.nil,Born.nil 0,av_.nil _ _⟩ zaX_) rfl rfl (E_ (g_ (g_ (g_ (g_ (g_ f_))))) (E_ f_ (g_ (g_ f_)))) zt rfl λ⟨HA_1,hA_1⟩=>?_);dsimp only;refine Zz 2 ?_;refine s_ (aL_ (ae_ f_) (aL_ (ae_ f_) (cg_ (ae_ f_)))) (Zz 3 ?_);refine c_ (x_ cM_ rfl rfl) rfl (bb_ (sP_ (Thg.mk 1 [33]) (([]:List Thg)++cn_ ([]:List Thg) [(Thg.mk 1 [42])]) (([]:List Thg)++cn_ ([]:List Thg) [(Thg.mk 1 [42])]) o x A HA_1 hA_1 zaX_) rfl rfl (g_ (g_ (g_ ag_))) zt rfl λ⟨HA_2,hA_2⟩=>?_);dsimp only;refine Zz 3 ?_;refine s_ (aL_ (ae_ f_) (aL_ (ae_ f_) (cg_ (ae_ f_)))) (Zz 8 ?_);refine Y_ (ι:={y:Nat×List Thg×Hp // y.1<=List.length S/\y.2.1=cn_ [] (ei_ (S.take y.1))/\StK 219 279 281 o x A y.2.1 y.2.1 y.2.2}) (λy=>[(2,zp_ C 0),(4,zp_ o 0),(5,zp_ B 0),(6,.map (some L)),(7,.map (some J)),(8,zp_ x 0),(9,zp_ E 0),(10,.func (.func 244) #[] #[zp_ B 0,zp_ C 0,zp_ E 0]),(35,.slice sad S.length a0),(36,i4_ (List.length S:Int)),(37,i4_ y.1.1)]) (λy=>((B,.cells #[G] 220 (0,0))::(HrU++((L,.map #[] 0)::((J,.map #[] 0)::y.1.2.2))))) (λy=>[cv_ E (.cells #[.func (.func 243) #[] #[zp_ o 0,zp_ x 0]] 282 (0,0)),cv_ C (.cells #[.slice ad p.length cap] 69 (0,0)),O_ ad (p.flatMap Pc.cells),O_ sad (S.flatMap V_)]) (λy=>S.length - y.1.1) ⟨((0:Nat),((([]:List Thg)++cn_ ([]:List Thg) [(Thg.mk 1 [42])])++cn_ (([]:List Thg)++cn_ ([]:List Thg) [(Thg.mk 1 [42])]) [(Thg.mk 1 [33])]),HA_2),by simp,(by rw[ybI_];exact yF_.symm),hA_2⟩ zl zp zh ?_;rintro ⟨⟨k,K,Hs_1⟩,hi_k,hK,hS_1⟩;dsimp only at hi_k hK hS_1 ⊢;refine s_ (aL_ f_ (aL_ (ae_ f_) (cg_ (ae_ f_)))) (Zi 2 (λhr_1=>?_) λhr_1=>?_)
 .refine Zz 15 ?_
  have hKS:K=cn_ [] (ei_ S):=by rw[hK,yac_ zaa_]
  refine Y_ (ι:={y:Nat×List Thg×List Bool×Hp×Array MapEntry×Nat×Hp×Hp // y.1<=List.length p/\RK p S y.1 y.2.1 y.2.2.1/\zR 4 1 jQ_ G y.2.2.1 y.2.2.2.1/\StK 219 279 281 o x A y.2.1 y.2.1 y.2.2.2.2.2.2.2/\IntE (λn:Int=>i4_ n) y.2.2.2.2.1 (iot y.1) (Ac_ (p.take y.1))/\kv_ Thg.val cS_ 3 1 (eU_ 0 (p.take y.1)) J y.2.2.2.2.2.2.1}) (λy=>[(2,zp_ C 0),(4,zp_ o 0),(5,zp_ B 0),(6,.map (some L)),(7,.map (some J)),(8,zp_ x 0),(9,zp_ E 0),(10,.func (.func 244) #[] #[zp_ B 0,zp_ C 0,zp_ E 0]),(35,.slice sad S.length a0),(36,i4_ (List.length S:Int)),(37,i4_ k),(46,.slice ad p.length cap),(47,i4_ (List.length p:Int)),(48,i4_ y.1.1)]) (λy=>((B,.cells #[G] 220 (0,0))::(y.1.2.2.2.1++((L,.map y.1.2.2.2.2.1 y.1.2.2.2.2.2.1)::(y.1.2.2.2.2.2.2.1++y.1.2.2.2.2.2.2.2))))) (λy=>[cv_ E (.cells #[.func (.func 243) #[] #[zp_ o 0,zp_ x 0]] 282 (0,0)),cv_ C (.cells #[.slice ad p.length cap] 69 (0,0)),O_ ad (p.flatMap Pc.cells),O_ sad (S.flatMap V_)]) (λy=>p.length - y.1.1) ⟨((0:Nat),K,(List.replicate p.length false),HrU,#[],0,[(J,.map #[] 0)],Hs_1),by simp,(by rw[hKS];exact RK.init (sM_ p S) (uA_ S)),hqU,hS_1,IntE.nil,kv_.nil _ _⟩ zl zp zh ?_;rintro ⟨⟨i,X,U_1,a6,es_1,cw_1,HM_1,a3⟩,hi_i,hR,a1,Z,Y,a4⟩;dsimp only at hi_i hR a1 Z Y a4 ⊢;refine s_ (aL_ f_ (cg_ (ae_ f_))) (Zi 2 (λhr_2=>?_) λhr_2=>?_)
  .refine Zz 8 ?_
   obtain rfl:i=p.length:=by omega
   rw[yac_ (yab_ _)]at a4 Y;refine yh_ tW_ a4 (g_ (g_ (ae_ ag_))) λadr=>?_;refine Y_ (ι:={y:List Thg×List Thg×List Bool×List Int×Hp×Array MapEntry×Hp // RI p S y.1 y.2.1 y.2.2.1 y.2.2.2.1/\StK 219 279 281 o x A y.1 y.2.1 y.2.2.2.2.2.2/\zR 4 1 jQ_ G y.2.2.1 y.2.2.2.2.1/\IntE (λn:Int=>i4_ n) y.2.2.2.2.2.1 (iot p.length) y.2.2.2.1}) (λy=>[(4,zp_ o 0),(5,zp_ B 0),(6,.map (some L)),(7,.map (some J)),(8,zp_ x 0),(10,.func (.func 244) #[] #[zp_ B 0,zp_ C 0,zp_ E 0])]) (λy=>((B,.cells #[G] 220 (0,0))::(y.1.2.2.2.2.1++((L,.map y.1.2.2.2.2.2.1 cw_1)::y.1.2.2.2.2.2.2)))) (λy=>[mlF prog 281 Thg.val cS_ J (eU_ 0 p) adr,cv_ E (.cells #[.func (.func 243) #[] #[zp_ o 0,zp_ x 0]] 282 (0,0)),cv_ C (.cells #[.slice ad p.length cap] 69 (0,0)),O_ ad (p.flatMap Pc.cells),O_ sad (S.flatMap V_)]) (λy=>(ob_ p S).length - y.1.1.length+y.1.2.1.length) ⟨(X,X,U_1,(Ac_ p),a6,es_1,a3),hR.done,Z,a1,Y⟩ zl zp zh ?_;rintro ⟨⟨K,W,Uw,wl,HUw,esw,Hsw⟩,hI,hSw,hUw,hWw⟩;dsimp only at hI hSw hUw hWw ⊢;obtain⟨esK,cK,svW,HwK,rfl,hEK,hBK,hrW⟩:=hSw;have hwl:=hI.kw.wlen;have hkl:=hI.kw.len;have hul:=hC_ p S;refine aq_ (s_ (aL_ f_ (aL_ (ae_ f_) (aL_ (ae_ f_) (aL_ (ae_ f_) (cg_ (ae_ f_)))))) (Zz 3 ?_));refine c_ (dF_ hrW aH_ rfl) rfl ?_;refine Zi 0 (λhr_3=>?_) λhr_3=>?_
   .refine Zz 7 ?_
    refine C_ 2 [0,1] zk zs (Zz 3 ?_);refine j_ 2 rfl zk (o_ 2 sizeOf219 rfl rfl rfl rfl rfl rfl (Zz 3 ?_));refine j_ 3 rfl zk (dy_ 0 hUw sizeOf220 rfl rfl rfl rfl (Zz 6 ?_));obtain rfl:W=[]:=yau_ zaa_;exact cs_ ⟨⟨A,esK,cK,K,G,Uw,HUw⟩,hEK,hBK,hUw,hI.end⟩ (λaa v h_1 h_2=>BL_ 2 0 results162 isAgg219 isAgg220 rfl rfl rfl rfl aa v h_1 h_2) (E_ (g_ (g_ (g_ (g_ f_)))) (g_ (g_ (g_ (g_ ag_))))) zt
   obtain⟨Wp,d,rfl⟩:∃ Wp d,W=Wp++[d]:=by rcases List.eq_nil_or_concat W with h|⟨a,b,h⟩;subst h;simp at *;exact⟨a,b,by simpa using h⟩
   have hxl:List.length (Wp++[d])=Wp.length+1:=by simp
   have F:(Wp++[d])[List.length Wp]? = some d:=by simp
   refine Zz 10 ?_;refine c_ (dF_ hrW aH_ rfl) rfl (c_ (aD_ (aT_ rfl rfl rfl (bB_ zal_ zal_)) (show _=i4_ (List.length Wp:Int) from yag_ _ zal_)) rfl ?_);refine c_ (bJ_ hrW aH_ bt_ rfl rfl zaa_ zaa_) rfl (c_ (fn_ hrW zp isAgg281 bt_ rfl (Thg.cells_len _) zaj_ (t_ Thg.cells_len F)) rfl (K_ bj_ rfl λb_9=>o_ 0 bt_ rfl rfl rfl rfl rfl rfl (Zz 6 ?_)));refine c_ (dF_ hrW aH_ rfl) rfl (c_ (aD_ (aT_ rfl rfl rfl (bB_ zal_ zal_)) (show _=i4_ (List.length Wp:Int) from yag_ _ zal_)) rfl ?_);obtain⟨O,U,hy_1⟩:=BY_ (P:=prog) (n:=Wp.length) (by have q:=hrW;rw[yae_]at q;exact q);have hr_5:av_ 281 2 O Wp.length (Wp.flatMap Thg.cells) HwK:=by have q:=U;rw[oH_ Thg.cells 2 Thg.cells_len,List.take_left]at q;exact q
   refine c_ (hy_1 aH_ bt_ rfl rfl) rfl (dy_ 4 hr_5 sizeOf279 rfl rfl rfl rfl (Zz 6 ?_));refine c_ (xh_ (k:=d) (adr:=adr) tW_ runUnderlying278 zeroValue63 rfl rfl zf) rfl (Zz 5 ?_);have hus:=uR_ p d;have hSp:StK 219 279 281 o x A K Wp ((o,.cells #[.map (some A)] 219 (0,0))::(x,.cells #[O] 279 (0,0))::(A,.map esK cK)::HwK):=⟨esK,cK,O,HwK,rfl,hEK,hBK,hr_5⟩;have hul_1:List.length (lat (eU_ 0 p) d)<=1000000000:=by have q:=wI_ (eU_ 0 p) d;have q_1:=oV_ p 0;omega
   refine em_ (H':=((b_9,.cells #[i4_ (Thg.kind d),str (Thg.name d)] 281 (0,0))::((B,.cells #[G] 220 (0,0))::((L,.map esw cw_1)::(HUw++((o,.cells #[.map (some A)] 219 (0,0))::(x,.cells #[O] 279 (0,0))::(A,.map esK cK)::HwK)))))) (E_ f_ (E_ f_ (E_ f_ (bP_ (g_ (g_ (g_ ag_))) (E_ f_ (E_ f_ (E_ f_ an_))))))) (λv _ h=>h) ?_;refine Y_ (ι:={y:Nat×List Thg×List Thg×List Bool×List Int×Hp×Array MapEntry×Hp // y.1<=List.length (lat (eU_ 0 p) d)/\RJ p S d (lat (eU_ 0 p) d) y.1 y.2.1 y.2.2.1 y.2.2.2.1 y.2.2.2.2.1/\StK 219 279 281 o x A y.2.1 y.2.2.1 y.2.2.2.2.2.2.2/\zR 4 1 jQ_ G y.2.2.2.1 y.2.2.2.2.2.1/\IntE (λn:Int=>i4_ n) y.2.2.2.2.2.2.1 (iot p.length) y.2.2.2.2.1/\y.2.1.length+Wp.length=K.length+List.length y.2.2.1}) (λy=>[(4,zp_ o 0),(5,zp_ B 0),(6,.map (some L)),(7,.map (some J)),(8,zp_ x 0),(10,.func (.func 244) #[] #[zp_ B 0,zp_ C 0,zp_ E 0]),(97,.slice (adr d).1 (lat (eU_ 0 p) d).length (adr d).2),(98,i4_ (List.length (lat (eU_ 0 p) d):Int)),(99,i4_ y.1.1)]) (λy=>((B,.cells #[G] 220 (0,0))::(y.1.2.2.2.2.2.1++((L,.map y.1.2.2.2.2.2.2.1 cw_1)::y.1.2.2.2.2.2.2.2)))) (λy=>[mlF prog 281 Thg.val cS_ J (eU_ 0 p) adr,cv_ E (.cells #[.func (.func 243) #[] #[zp_ o 0,zp_ x 0]] 282 (0,0)),cv_ C (.cells #[.slice ad p.length cap] 69 (0,0)),O_ ad (p.flatMap Pc.cells),O_ sad (S.flatMap V_)]) (λy=>List.length (lat (eU_ 0 p) d) - y.1.1) ⟨((0:Nat),K,Wp,Uw,wl,HUw,esw,((o,.cells #[.map (some A)] 219 (0,0))::(x,.cells #[O] 279 (0,0))::(A,.map esK cK)::HwK)),by simp,(hI.pop _),hSp,hUw,hWw,rfl⟩ zl zp zh ?_;rintro ⟨⟨j,K_2,W_1,U_2,wl_1,HU_2,es_2,Hs_3⟩,hi_j,hJ,hS_3,a2,a8,hKW⟩;dsimp only at hi_j hJ hS_3 a2 a8 hKW ⊢;refine s_ (aL_ f_ (cg_ (ae_ f_))) (Zi 2 (λhr_6=>?_) λhr_6=>?_)
   .have ej:j=List.length (lat (eU_ 0 p) d):=by omega
    refine Zz 6 ?_;exact w_ ⟨(K_2,W_1,U_2,wl_1,HU_2,es_2,Hs_3),(by rw[ej]at hJ;exact hJ.done hus),hS_3,a2,a8⟩ (by dsimp only;have q:=hJ.kw.len;rw[yae_,ybK_]at *;omega) zl (E_ f_ (bP_ (g_ ag_) (E_ f_ an_))) zh
   obtain⟨H,e,T,hmx_1⟩:=zge (show j<List.length (lat (eU_ 0 p) d) by omega);obtain⟨hx_3,hx2l⟩:=hus.1 e hmx_1;obtain⟨m,rfl⟩:∃ m:Nat,e=(m:Int):=⟨e.toNat,by omega⟩;have hml:m<p.length:=by omega
   obtain⟨x_2,a7⟩:∃ x_2,p[m]? = some x_2:=⟨_,yaa_ hml⟩;obtain⟨n_1,a5,hn_2,hn_3,hn_4⟩:=hJ.pos hus T a7;have hnl_1:=ip_ x_2;refine Zz 10 ?_;refine c_ (J_ aE_ af_ rfl rfl (λv _ h=>az_ (n:=1) er_ zaj_ (by exact (wC_ h.1 d)) T) zaa_ zah_) rfl ?_;refine c_ (aS_ (ad:=(adr d).1) aU_ rfl (λv _ h=>by exact (wC_ h.1 d)) (t_ er_ T 0 _ rfl)) rfl (Zz 7 ?_);refine c_ (qu_ (k:=(m:Int)) (i:=m) (n:=n_1) vw_ xC_ rfl rfl a8 (vy_ hml) a5 (λv h _=>(h.own _ (yad_ (i:=1) rfl)).1)) rfl (Zz 1 ?_);refine vm_ (k:=(m:Int)) (i:=m) 1 vw_ (.inr rfl) xC_ rfl rfl rfl rfl a8 (vy_ hml) a5 λM Q=>Zz 6 ?_
   refine c_ (qu_ (k:=(m:Int)) (i:=m) (n:=(n_1 - 1)) vw_ xC_ rfl rfl Q (vy_ hml) (by rw[List.getElem?_set_self (by rw[hJ.wll];exact hml)]) (λv h _=>(h.own _ (yad_ (i:=1) rfl)).1)) rfl ?_;refine Zi 0 (λhr_7=>?_) λhr_7=>?_
   .refine Zz 10 ?_
    exact w_ ⟨(j+1,K_2,W_1,U_2,(List.set wl_1 m (n_1 - 1)),HU_2,M,Hs_3),H,(hJ.skip hus T a7 a5 hr_7),hS_3,a2,Q,hKW⟩ zae_ zl (E_ f_ (bP_ (g_ ag_) (E_ f_ an_))) zh
   refine Zz 6 ?_;refine bb_ (CY_ m x_2 p ad cap K_2 W_1 U_2 C o B x E A G HU_2 Hs_3 a7 hp a2 hJ.ul hS_3 (by have q:=hJ.kw.wlen;omega)) rfl rfl (E_ f_ (bP_ (g_ ag_) ah_)) zf rfl λ⟨⟨HB_1,HC_1⟩,R,V⟩=>?_;dsimp only;dsimp only at R V;simp only[yaL_,yak_];refine Zz 2 ?_;refine s_ (aL_ f_ (cg_ (ae_ bS_))) (Zz 5 ?_);exact w_ ⟨(j+1,(K_2++cn_ K_2 (aP_ x_2)),(W_1++cn_ K_2 (aP_ x_2)),(List.set U_2 m true),(List.set wl_1 m (n_1 - 1)),HB_1,M,HC_1),H,(hJ.take hus T a7 a5 hr_7),V,R,Q,zbs_⟩ zae_ zl zp zh
  have H:i<p.length:=by omega
  obtain⟨e,F⟩:∃ e_1,p[i]? = some e_1:=⟨_,yaa_ H⟩;refine Zz 13 ?_;refine K_ N_ rfl λb_9=>Zz 1 ?_
  refine o_ 0 ab_ rfl rfl rfl rfl rfl rfl (Zz 5 ?_);refine d_ (Cd_ e) rfl e_ zt rfl λ⟨⟨nad,ncap⟩,ncl,ncm,ncz⟩=>?_;dsimp only;refine Zz 9 ?_;refine vn_ (k:=(i:Int)) 2 vw_ (.inr rfl) xC_ rfl rfl rfl rfl Y (Ck_ i) λM cn_1 Q=>Zz 11 ?_
  refine Y_ (ι:={y:Nat×Hp // y.1<=List.length (aM_ e)/\kv_ Thg.val cS_ 3 1 ((eU_ 0 (p.take i))++List.map (λt=>(t,(i:Int))) (List.take y.1 (aM_ e))) J y.2}) (λy=>[(2,zp_ C 0),(4,zp_ o 0),(5,zp_ B 0),(6,.map (some L)),(7,.map (some J)),(8,zp_ x 0),(9,zp_ E 0),(10,.func (.func 244) #[] #[zp_ B 0,zp_ C 0,zp_ E 0]),(35,.slice sad S.length a0),(36,i4_ (List.length S:Int)),(37,i4_ k),(46,.slice ad p.length cap),(47,i4_ (List.length p:Int)),(48,i4_ i),(13,i4_ i),(15,.slice nad (aM_ e).length ncap),(59,.slice nad (aM_ e).length ncap),(60,i4_ (List.length (aM_ e):Int)),(61,i4_ y.1.1)]) (λy=>((B,.cells #[G] 220 (0,0))::(a6++((L,.map M cn_1)::(y.1.2++a3))))) (λy=>[O_ nad (List.flatMap Thg.cells (aM_ e)),cv_ E (.cells #[.func (.func 243) #[] #[zp_ o 0,zp_ x 0]] 282 (0,0)),cv_ C (.cells #[.slice ad p.length cap] 69 (0,0)),O_ ad (p.flatMap Pc.cells),O_ sad (S.flatMap V_)]) (λy=>List.length (aM_ e) - y.1.1) ⟨((0:Nat),HM_1),by simp,(by rw[ybI_,ybz_,yas_];exact a4)⟩ zl (E_ (g_ f_) (bP_ (g_ (g_ ag_)) (E_ (g_ f_) (bP_ (g_ ag_) ah_)))) zh ?_;rintro ⟨⟨j,HM_2⟩,hi_j,I⟩;dsimp only at hi_j I ⊢;have hnl_1:=ip_ e;have hub:List.length ((eU_ 0 (p.take i))++List.map (λt=>(t,(i:Int))) (List.take j (aM_ e)))<=400000000:=by have q:=oV_ (p.take i) 0;have q_1:=ybi_ i p;have q_2:=ybi_ j (aM_ e);have q_3:=ip_ e;rw[yae_,yaB_];omega
  refine s_ (aL_ f_ (cg_ (ae_ f_))) (Zi 2 (λhr_3=>?_) λhr_3=>?_)
  .refine Zi 10 (λU=>?_) λU=>?_
   .refine Zz 10 ?_
    exact w_ ⟨(i+1,X,U_1,a6,M,cn_1,HM_2,a3),H,hR.skip F (λq=>by rw[q]at U;exact U rfl),a1,Z,(by rw[mi_,ri_ F];exact Q),(by rw[qD_ F];rw[show List.take j (aM_ e)=aM_ e from yac_ zaa_]at I;exact I)⟩ zae_ zl zp (λ_ _ h=>h.2)
   refine Zz 6 ?_;refine bb_ (CY_ i e p ad cap X X U_1 C o B x E A G a6 a3 F hp a1 hR.ul Z (by have q:=hR.kw.wlen;have q_1:=hC_ p S;omega)) rfl rfl (E_ f_ (bP_ (g_ ag_) (g_ bS_))) zf rfl λ⟨⟨HB_1,HC_1⟩,R,V⟩=>?_;dsimp only;dsimp only at R V;simp only[yaL_,yak_];refine Zz 2 ?_;refine s_ (aL_ f_ (cg_ (ae_ (ae_ f_)))) (Zz 5 ?_);exact w_ ⟨(i+1,(X++cn_ X (aP_ e)),(List.set U_1 i true),HB_1,M,cn_1,HM_2,HC_1),H,hR.take F (yau_ zaa_),R,V,(by rw[mi_,ri_ F];exact Q),(by rw[qD_ F];rw[show List.take j (aM_ e)=aM_ e from yac_ zaa_]at I;exact I)⟩ zae_ zl zp (λ_ _ h=>h.2)
  have hlt_1:j<List.length (aM_ e):=by omega
  obtain⟨d,ht_1⟩:∃ e_1,(aM_ e)[j]? = some e_1:=⟨_,yaa_ hlt_1⟩;refine Zz 12 ?_;refine K_ bj_ rfl λb_10=>o_ 0 bt_ rfl rfl rfl rfl rfl rfl (Zz 6 ?_)
  refine p_ aE_ af_ bQ_ rfl rfl rfl rfl rfl rfl λb_11=>?_;have hbb_1:=(show (lat ((eU_ 0 (p.take i))++List.map (λt=>(t,(i:Int))) (List.take j (aM_ e))) d).length<=400000000 from yaI_ (wI_ _ _) hub);refine ye_ (k:=d) tW_ I runUnderlying278 zeroValue63 rfl rfl (g_ (g_ (g_ (g_ (ae_ ag_))))) rfl λes_1 ce_1 ie_1 se_1 ve_1 Hk_1 Hx_1 ho_1 hw_1=>Zz 1 ?_
  refine am_ (news:=List.flatMap cS_ [(i:Int)]) hv_ hw_1 rfl rfl zp rfl (fQ_ zp) (λu hu=>aF_ gk_ hu) zay_ zaa_ rfl λO Hr_1 hr_1=>?_;have hq_1:=zsa hr_1;refine Zz 1 ?_;refine pu_ (k:=d) (dd:=(i:Int)) ho_1 (by rw[Ae_];exact hq_1) rfl rfl rfl (zL_ (E_ (ae_ f_) (bP_ ag_ ag_))) λH_1 I=>?_;refine Zz 2 ?_;refine s_ (aL_ (ae_ f_) (aL_ (ae_ f_) (aL_ (ae_ f_) (cg_ (ae_ f_))))) (Zz 5 ?_);exact w_ ⟨(j+1,H_1),hlt_1,(by rw[take_snoc ht_1,yaz_,<-yak_];exact I)⟩ zae_ zl zp zh
 have hls_1:k<S.length:=by omega
 obtain⟨s_1,hs_1⟩:∃ e_1,S[k]? = some e_1:=⟨_,yaa_ hls_1⟩;refine Zz 18 ?_;refine c_ (x_ cM_ rfl rfl) rfl (bb_ (sP_ (Thg.mk 1 s_1) K K o x A Hs_1 hS_1 (by have q:=(sM_ ([]:List Pc) (S.take k)).wlen;have q_1:=hC_ ([]:List Pc) (S.take k);have q_2:=ybi_ k S;simp only[yaw_]at q_1;rw[hK];omega)) rfl rfl (g_ (g_ (g_ bS_))) zt rfl λ⟨HA_3,hA_3⟩=>?_);dsimp only;refine Zz 2 ?_;refine s_ (aL_ (ae_ f_) (aL_ (ae_ f_) (cg_ (ae_ f_)))) (Zz 5 ?_);exact w_ ⟨(k+1,(K++cn_ K [(Thg.mk 1 s_1)]),HA_3),hls_1,(by rw[yG_ hs_1,<-hK]),hA_3⟩ zae_ zl zp zh
end Go.Proofs.YtbffkokbdeppaaaGreatDoor
namespace Go.Vs
open Go Go.Sx
abbrev SrS (l:List Str):Prop:=l.Pairwise λx y=>x<y
theorem zh_ (a:Str):¬ a<a:=List.lt_irrefl a
theorem kS_hit {l:List Str} {s:Str} (h:SrS l) (e:s∈l):l[kS l s]? = some s:=by
 obtain⟨j,d⟩:=yaA_ e;have hl:=(yaf_.1 d).1;rcases Nat.lt_trichotomy (kS l s) j with q|q|q
 .grind[rQ_,List.pairwise_iff_getElem]
 .grind
 have:s∈l.take (kS l s):=by
   refine yad_ (i:=j) ?_
   grind
 exact absurd (yW_ l s this) (zh_ s)
theorem lO_ {l:List Str} {s:Str} (h:SrS l) (d:s∈l):be_ l s=l:=by
  grind[be_,kS_hit]
theorem kb_ {l:List Str} {s:Str} (e:s≠[]) (d:s ∉ l):be_ l s=l.take (kS l s)++[s]++l.drop (kS l s):=by
  grind[be_]
theorem kP_ {l:List Str} {s:Str} (e:s≠[]) (d:s ∉ l):(be_ l s).length=l.length+1:=by
  grind[kb_]
structure Rcd where
  a:List Str
  aad:Ao
  acap:Nat
  r:List Str
  rad:Ao
  rcap:Nat
  f:List Str
  fad:Ao
  fcap:Nat
def Rcd.cells (x:Rcd):List Value:=[.slice x.aad x.a.length x.acap,.slice x.rad x.r.length x.rcap,.slice x.fad x.f.length x.fcap]
def Rcd.val (x:Rcd):Value:=.agg x.cells.toArray
def is_ (a r f:List Str) (t:Thg):Prop:=(t.kind=1/\t.name∈a)\/(t.kind=2/\t.name∈r)\/(t.kind=3/\t.name∈f)
instance (a r f:List Str) (t:Thg):Decidable (is_ a r f t):=by unfold is_;infer_instance
def eA_ (a r f:List Str) (x:Pc):Bool:=decide (∀ u∈aM_ x,is_ a r f u)
def kt_ (a:List Str) (x:Pc):List Str:=if x.kind=1\/x.kind=2\/x.kind=4\/x.kind=9\/x.kind=3 then be_ a x.c else a
def kr_ (r:List Str) (x:Pc):List Str:=if x.kind=3\/x.kind=7 then be_ r x.r else if x.kind=5\/x.kind=6 then be_ r x.t else r
def ks_ (f:List Str) (x:Pc):List Str:=if x.kind=8 then be_ f x.r else f
def PcN (x:Pc):Prop:=(1<=x.kind/\x.kind<=9)/\∀ t∈aP_ x,t.name≠[]
theorem fe_ {l:List Str} {s:Str} (h:SrS l) (e:s≠[]):SrS (be_ l s)/\l.length<=(be_ l s).length/\((be_ l s).length=l.length->be_ l s=l)/\∀ n,n∈be_ l s↔n∈l\/n=s:=by
 refine⟨lN_ h,?_,?_,λn=>by grind[qx_]⟩
 .by_cases d:s∈l
  all_goals grind[lO_,kP_]
 grind[lO_,kP_]
theorem kinds9 {x:Pc} (h:1<=x.kind/\x.kind<=9):x.kind=1\/x.kind=2\/x.kind=3\/x.kind=4\/x.kind=5\/x.kind=6\/x.kind=7\/x.kind=8\/x.kind=9:=by omega
theorem qB_ {a:List Str} {x:Pc} (k:SrS a) (d:PcN x):SrS (kt_ a x)/\a.length<=(kt_ a x).length/\((kt_ a x).length=a.length->kt_ a x=a)/\∀ n,n∈kt_ a x↔n∈a\/(⟨1,n⟩:Thg)∈aP_ x:=by
 obtain⟨h,u⟩:=d
 by_cases c:x.kind=1\/x.kind=2\/x.kind=4\/x.kind=9\/x.kind=3
 .have e:kt_ a x=be_ a x.c:=yax_ c
  have o:(⟨1,x.c⟩:Thg)∈aP_ x:=by grind[aP_]
  grind[aP_,fe_]
 grind[kt_,aP_]
theorem qz_ {r:List Str} {x:Pc} (k:SrS r) (d:PcN x):SrS (kr_ r x)/\r.length<=(kr_ r x).length/\((kr_ r x).length=r.length->kr_ r x=r)/\∀ n,n∈kr_ r x↔n∈r\/(⟨2,n⟩:Thg)∈aP_ x:=by
 obtain⟨h,u⟩:=d
 by_cases c:x.kind=3\/x.kind=7
 .have e:kr_ r x=be_ r x.r:=yax_ c
  have o:(⟨2,x.r⟩:Thg)∈aP_ x:=by grind[aP_]
  grind[aP_,fe_]
 grind[kr_,be_,aP_,fe_]
theorem qA_ {f:List Str} {x:Pc} (k:SrS f) (d:PcN x):SrS (ks_ f x)/\f.length<=(ks_ f x).length/\((ks_ f x).length=f.length->ks_ f x=f)/\∀ n,n∈ks_ f x↔n∈f\/(⟨3,n⟩:Thg)∈aP_ x:=by
 obtain⟨h,u⟩:=d
 by_cases c:x.kind=8
 .have e:ks_ f x=be_ f x.r:=yax_ c
  have o:(⟨3,x.r⟩:Thg)∈aP_ x:=by grind[aP_]
  grind[aP_,fe_]
 grind[ks_,aP_]
theorem uf_ {x:Pc} {t:Thg} (h:t∈aP_ x):t.kind=1\/t.kind=2\/t.kind=3:=by
  grind[aP_]
theorem Au_ {a r f:List Str} {x:Pc} (o:SrS a) (u:SrS r) (h:SrS f) (d:PcN x) (t:Thg):is_ (kt_ a x) (kr_ r x) (ks_ f x) t↔is_ a r f t\/t∈aP_ x:=by
 obtain⟨k,n⟩:=t;unfold is_;rw[(qB_ o d).2.2.2,(qz_ u d).2.2.2,(qA_ h d).2.2.2];dsimp only;constructor
 .grind
 rintro ((⟨rfl,q⟩|⟨rfl,q⟩|⟨rfl,q⟩)|q)
 .grind
 .grind
 .grind
 rcases uf_ q with e|e|e
 all_goals grind
structure RdI (p:List Pc) (S:List Str) (a r f:List Str):Prop where
  sa:SrS a
  sr:SrS r
  sf:SrS f
  snd:∀ t,is_ a r f t->Rch p S t
  bas:∀ t∈ei_ S,is_ a r f t
structure RdR (p:List Pc) (S:List Str) (n:Int) (i:Nat) (a r f:List Str):Prop where
  inv:RdI p S a r f
  le:n<=((a.length+r.length+f.length:Nat):Int)
  cl:n=((a.length+r.length+f.length:Nat):Int)->∀ (j:Nat) x,p[j]? = some x->j<i->eA_ a r f x=true->∀ t∈aP_ x,is_ a r f t
theorem RdR.start {p:List Pc} {S a r f:List Str} (h:RdI p S a r f):RdR p S ((a.length+r.length+f.length:Nat):Int) 0 a r f:=⟨h,Int.le_refl _,λ_ j x _ d=>absurd d (Nat.not_lt_zero _)⟩
theorem RdR.skip {p:List Pc} {S a r f:List Str} {n:Int} {i:Nat} {x:Pc} (h:RdR p S n i a r f) (A:p[i]? = some x) (v:eA_ a r f x=false):RdR p S n (i+1) a r f:=⟨h.inv,h.le,λu j y k d o=>by
 by_cases e:j=i
 .grind
 exact h.cl u j y k zaa_ o⟩
theorem RdR.take {p:List Pc} {S a r f:List Str} {n:Int} {i:Nat} {x:Pc} (h:RdR p S n i a r f) (J:p[i]? = some x) (k:PcN x) (I:eA_ a r f x=true):RdR p S n (i+1) (kt_ a x) (kr_ r x) (ks_ f x):=by
 obtain⟨L,U,H,_⟩:=qB_ h.inv.sa k;obtain⟨F,R,E,_⟩:=qz_ h.inv.sr k;obtain⟨G,T,M,_⟩:=qA_ h.inv.sf k;have A:=Au_ h.inv.sa h.inv.sr h.inv.sf k;have o:∀ u∈aM_ x,Rch p S u:=λu q=>h.inv.snd u (ybB_ I u q)
 refine⟨⟨L,F,G,λt d=>?_,λt d=>(A t).2 (.inl (h.inv.bas t d))⟩,by have:=h.le;omega,λQ=>?_⟩
 .rcases (A t).1 d with q|q
  .exact h.inv.snd t q
  exact .give (yad_ J) o q
 have O:=h.le;have P:=H zaa_;have er:=E zaa_;have ef:=M zaa_;have v:n=((a.length+r.length+f.length:Nat):Int):=by grind
 intro j y K C B t d
 by_cases e:j=i
 .grind
 rw[P,er,ef]at B ⊢;exact h.cl v j y K zaa_ B t d
theorem RdR.done {p:List Pc} {S a r f:List Str} (h:RdR p S ((a.length+r.length+f.length:Nat):Int) p.length a r f):∀ t,is_ a r f t↔Rch p S t:=λt=>by
  refine⟨h.inv.snd t,λe=>?_⟩
  induction e with
  | base hb=>exact h.inv.bas _ hb
  | give hx hn hg ih =>
    obtain⟨j,d⟩:=yaA_ hx;exact h.cl rfl j _ d (yaf_.1 d).1 (ycc_ ih) _ hg
theorem RdI.len {p:List Pc} {S a r f:List Str} (h:RdI p S a r f):a.length+r.length+f.length<=(ob_ p S).length:=by
 have o:∀ (k:Int) {l:List Str},SrS l->(l.map λn=>(⟨k,n⟩:Thg)).Nodup:=λk l hl=>by
   grind
 have e:((a.map λn=>(⟨1,n⟩:Thg))++((r.map λn=>(⟨2,n⟩:Thg))++f.map λn=>(⟨3,n⟩:Thg))).length=a.length+r.length+f.length:=by simp;omega
 rw[<-e];refine fX_ _ _ ?_ λt d=>(h.snd t ?_).univ
 .grind[sa,sr,sf]
 simp only[yaj_,yaM_]at d
 grind[is_]
end Go.Vs
namespace Go.Proofs.YtbffkokbdeppaaaGreatDoor
open Go Go.Sx Go.Proofs Tryz
attribute [local irreducible] Code.wp wpList wpAnyH
open Go.Vs
def hr_ (a:Ax):Prop:=a.kind=5\/a.kind=6\/a.kind=7
instance (a:Ax):Decidable (hr_ a):=by unfold hr_;infer_instance
def Mat (l:List Ax) (p:List Pc) (S:List Str) (i:Int):Prop:=(∃ a,l[i.toNat]? = some a/\hr_ a)\/∃ x∈p,x.frm=i/\Usb p S x
def matB (l:List Ax) (p:List Pc) (S:List Str) (i:Int):Bool:=((l[i.toNat]?).any λa=>decide (hr_ a))||p.any λx=>decide (x.frm=i)&&usbB p S x
theorem pC_ {l:List Ax} {p:List Pc} {S:List Str} {i:Int}:matB l p S i=true↔Mat l p S i:=by
  grind[matB,Mat,yU_]
def dE_ (l:List Ax) (p:List Pc) (S:List Str) (n:Nat):List Int:=(iot n).filter λi=>matB l p S i
theorem tQ_ {l:List Ax} {p:List Pc} {S:List Str} {n:Nat} (h:Mat l p S n):dE_ l p S (n+1)=dE_ l p S n++[(n:Int)]:=by
  unfold dE_
  grind[mi_,pC_]
theorem wE_ {l:List Ax} {p:List Pc} {S:List Str} {n:Nat} (h:¬ Mat l p S n):dE_ l p S (n+1)=dE_ l p S n:=by
  unfold dE_
  grind[mi_,pC_]
theorem yi_ {l:List Ax} {p:List Pc} {S:List Str}:dE_ l p S 0=[]:=by simp[dE_,iot]
theorem pB_ {l:List Ax} {p:List Pc} {S:List Str} {n:Nat} {i:Int}:i∈dE_ l p S n↔(0<=i/\i<n)/\Mat l p S i:=by
 unfold dE_;rw[ybC_,pC_];constructor
 .grind[iot]
 rintro ⟨⟨e,h⟩,d⟩;refine⟨?_,d⟩;simp only[iot,yaM_,ycq_];exact⟨i.toNat,by omega,by simp;omega⟩
theorem gV_ {l:List Ax} {p:List Pc} {S:List Str} (n:Nat):(dE_ l p S n).length<=n:=by
  grind[dE_,iot]
theorem iot_lt (n:Nat):(iot n).Pairwise (·<·):=by
  grind[iot,List.pairwise_lt_range]
theorem sf_ {l:List Ax} {p:List Pc} {S:List Str} (n:Nat):(dE_ l p S n).Pairwise (·<·):=List.Pairwise.filter _ (iot_lt n)
def dB_ (l:List Ax) (w:List Int):List Ax:=w.filterMap λi=>l[i.toNat]?
theorem ld_ {l:List Ax} {w:List Int} {i:Int} {a:Ax} (h:l[i.toNat]? = some a):dB_ l (w++[i])=dB_ l w++[a]:=by simp[dB_,h]
theorem qS_ {l:List Ax} {w:List Int} {a:Ax}:a∈dB_ l w↔∃ i∈w,l[i.toNat]? = some a:=by simp[dB_]
end Go.Proofs.YtbffkokbdeppaaaGreatDoor
namespace Go.Vs
open Go Go.Sx
def orF:List Int->Int
  | []=>0
  | x::l=>if x=0 then orF l else x
theorem zQ_:∀ {l:List Int} {i:Nat} {x:Int},(∀ y∈l.take i,y=0)->l[i]? = some x->x≠0->orF l=x
  | [],_,_,_,h,_=>by simp at h
  | y::l,0,x,_,h,hx=>by grind[orF]
  | y::l,i+1,x,h0,h,hx=>by
    have d:y=0:=h0 y zak_;rw[orF,yax_ d];exact zQ_ (i:=i) (λz e=>h0 z zap_) zap_ hx
theorem tH_:∀ {l:List Int},(∀ y∈l,y=0)->orF l=0
  | [],_=>rfl
  | y::l,h=>by rw[orF,yax_ (h y zak_)];exact tH_ λz d=>h z zbH_
theorem xc_ (x y:Int):Lib.compareInt x y=0↔x=y:=by grind[Lib.compareInt]
theorem sL_:∀ (x y:Str),Lib.compareBytes x y<0↔x<y
 | [],[]=>by grind[Lib.compareBytes]
 | [],b::y=>by simp[Lib.compareBytes]
 | a::x,[]=>by simp[Lib.compareBytes]
 | a::x,b::y=>by
   rw[Lib.compareBytes,ybU_]
   by_cases d:a<b
   . grind
   . by_cases h:b<a
     . grind
     . have e:a=b:=UInt8.le_antisymm (UInt8.not_lt.1 h) (UInt8.not_lt.1 d)
       rw[yam_ d,yam_ h,sL_ x y];simp[e]
theorem iA_:∀ (x y:Str),Lib.compareBytes x y=0↔x=y
 | [],[]=>by grind[Lib.compareBytes]
 | [],b::y=>by grind[Lib.compareBytes]
 | a::x,[]=>by grind[Lib.compareBytes]
 | a::x,b::y=>by
   rw[Lib.compareBytes]
   by_cases d:a<b
   . grind
   . by_cases h:b<a
     . grind
     . have e:a=b:=UInt8.le_antisymm (UInt8.not_lt.1 h) (UInt8.not_lt.1 d)
       rw[yam_ d,yam_ h,iA_ x y];simp[e]
theorem kB_ (x:Int) (l:List Int):orF (x::l)=0↔x=0/\orF l=0:=by
  grind[orF]
theorem wv_:orF []=0:=rfl
theorem ko_ (x y:Int):Lib.compareInt y x=- Lib.compareInt x y:=by grind[Lib.compareInt]
theorem kn_:∀ (x y:Str),Lib.compareBytes y x=- Lib.compareBytes x y
 | [],[]=>by grind[Lib.compareBytes]
 | [],b::y=>by grind[Lib.compareBytes]
 | a::x,[]=>by grind[Lib.compareBytes]
 | a::x,b::y=>by
   rw[Lib.compareBytes,Lib.compareBytes]
   by_cases d:a<b
   . grind
   . by_cases e:b<a
     . grind
     . rw[yam_ e,yam_ d,yam_ d,yam_ e,kn_ x y]
theorem jP_:∀ (x y:Str),Lib.compareBytes x y=if x<y then -1 else if y<x then 1 else 0
 | [],[]=>by grind[Lib.compareBytes]
 | [],b::y=>by simp[Lib.compareBytes]
 | a::x,[]=>by simp[Lib.compareBytes]
 | a::x,b::y=>by
   rw[Lib.compareBytes]
   by_cases d:a<b
   . grind[List.cons_lt_cons_iff]
   . by_cases h:b<a
     . grind[List.cons_lt_cons_iff]
     . have e:a=b:=UInt8.le_antisymm (UInt8.not_lt.1 h) (UInt8.not_lt.1 d)
       subst e;rw[yam_ d,yam_ h,jP_ x y]
       grind[List.cons_lt_cons_iff]
def Tr3 (x y z:Int):Prop:=(x<=0->y<=0->z<=0/\(z=0->x=0/\y=0))/\(x=0->y=0->z=0)
theorem Tr3.cI (a b c:Int):Tr3 (Lib.compareInt a b) (Lib.compareInt b c) (Lib.compareInt a c):=by
  grind[Tr3,Lib.compareInt]
theorem Tr3.cS (a b c:Str):Tr3 (Lib.compareBytes a b) (Lib.compareBytes b c) (Lib.compareBytes a c):=by
  have e:=sL_ a b;have h:=iA_ a b;have k:=sL_ b c;have d:=iA_ b c;have u:=sL_ a c;have o:=iA_ a c;constructor
  all_goals grind
theorem Tr3.or {x y z e d k:Int} (h:Tr3 x y z) (o:Tr3 e d k):Tr3 (if x=0 then e else x) (if y=0 then d else y) (if z=0 then k else z):=by
  grind[Tr3]
theorem Tr3.nil:Tr3 0 0 0:=by grind[Tr3]
theorem Tr3.orF {x y z:Int} {l m n:List Int} (h:Tr3 x y z) (d:Tr3 (Go.Vs.orF l) (Go.Vs.orF m) (Go.Vs.orF n)):Tr3 (Go.Vs.orF (x::l)) (Go.Vs.orF (y::m)) (Go.Vs.orF (z::n)):=by
  rw[Go.Vs.orF,Go.Vs.orF,Go.Vs.orF];exact h.or d
theorem dX_ {x y:Int} {l m:List Int} (h:y=-x) (d:orF m=- orF l):orF (y::m)=- orF (x::l):=by
  grind[orF]
def eh_:List Str->List Str->Int
  | [],[]=>0
  | [],_::_=>-1
  | _::_,[]=>1
  | x::xs,y::ys=>if Lib.compareBytes x y=0 then eh_ xs ys else Lib.compareBytes x y
theorem rG_:∀ a b,eh_ b a=- eh_ a b
  | [],[]=>rfl
  | [],_::_=>rfl
  | _::_,[]=>rfl
  | x::xs,y::ys=>by
    have d:=kn_ x y;have e:=rG_ xs ys
    grind[eh_]
theorem rE_:∀ a b,eh_ a b=0↔a=b
  | [],[]=>by simp[eh_]
  | [],_::_=>by simp[eh_]
  | _::_,[]=>by simp[eh_]
  | x::xs,y::ys=>by
    rw[eh_,ybv_,<-iA_,<-rE_ xs ys]
    grind
namespace Con
def core:Con->Con
  | mk k n l h _ _ ps=>mk k n l h none 0 (cores ps)
where cores:List Con->List Con
  | []=>[]
  | p::ps=>core p::cores ps
theorem cores_map:∀ ps:List Con,core.cores ps=ps.map core
  | []=>rfl
  | p::ps=>by rw[core.cores,cores_map ps];rfl
theorem core_eq (c:Con):c.core=mk c.kind c.name c.lo c.hi none 0 (c.parts.map core):=by cases c;grind[core,cores_map,kind,name,lo,hi,parts]
def cmp:Con->Con->Int
  | mk k n l h _ _ ps,d=>orF [Lib.compareInt ((1+sz.szs ps:Nat):Int) (d.sz:Int),Lib.compareInt k d.kind,Lib.compareBytes n d.name,Lib.compareInt l d.lo,Lib.compareInt h d.hi,cmps ps d.parts]
where cmps:List Con->List Con->Int
  | [],[]=>0
  | [],_::_=>-1
  | _::_,[]=>1
  | p::ps,q::qs=>if cmp p q=0 then cmps ps qs else cmp p q
theorem cmp_eq (c d:Con):cmp c d=orF [Lib.compareInt (c.sz:Int) (d.sz:Int),Lib.compareInt c.kind d.kind,Lib.compareBytes c.name d.name,Lib.compareInt c.lo d.lo,Lib.compareInt c.hi d.hi,cmp.cmps c.parts d.parts]:=by cases c;rfl
mutual
theorem cmp_anti:∀ c d:Con,cmp d c=- cmp c d
  | mk k n l h a cp ps,mk k' n' l' h' a' cp' ps'=>by
    rw[cmp,cmp];exact dX_ (ko_ _ _) (dX_ (ko_ _ _) (dX_ (kn_ _ _) (dX_ (ko_ _ _) (dX_ (ko_ _ _) (dX_ (rC_ ps ps') rfl)))))
theorem rC_:∀ ps e:List Con,cmp.cmps e ps=- cmp.cmps ps e
  | [],[]=>rfl
  | [],_::_=>rfl
  | _::_,[]=>rfl
  | p::ps,q::e=>by
    have o:=cmp_anti p q;have u:=rC_ ps e
    grind[cmp.cmps]
end
mutual
theorem cmp_tr:∀ a b c:Con,Tr3 (cmp a b) (cmp b c) (cmp a c)
  | mk k n l h a cp ps,mk k' n' l' h' a' cp' ps',mk k2 n2 l2 h2 a2 cp2 ps2=>by
    rw[cmp,cmp,cmp];exact (Tr3.cI _ _ _).orF ((Tr3.cI _ _ _).orF ((Tr3.cS _ _ _).orF ((Tr3.cI _ _ _).orF ((Tr3.cI _ _ _).orF ((wY_ ps ps' ps2).orF Tr3.nil)))))
theorem wY_:∀ a b c:List Con,Tr3 (cmp.cmps a b) (cmp.cmps b c) (cmp.cmps a c)
  | [],[],[]=>by grind[Tr3]
  | [],[],_::_=>by grind[Tr3,cmp.cmps]
  | [],_::_,[]=>by grind[Tr3,cmp.cmps]
  | [],_::_,_::_=>by grind[Tr3,cmp.cmps]
  | _::_,[],[]=>by grind[Tr3,cmp.cmps]
  | _::_,[],_::_=>by grind[Tr3,cmp.cmps]
  | _::_,_::_,[]=>by grind[Tr3,cmp.cmps]
  | x::xs,y::ys,z::zs=>by
    rw[cmp.cmps,cmp.cmps,cmp.cmps];exact (cmp_tr x y z).or (wY_ xs ys zs)
end
mutual
theorem cmp_zero:∀ a b:Con,cmp a b=0↔a.core=b.core
  | mk k n l h a cp ps,mk k' n' l' h' a' cp' ps'=>by
    rw[cmp,core,core];simp only[kB_,wv_];simp only[xc_,iA_,rz_ ps ps',and_true,mk.injEq,kind,name,lo,hi,parts,ycY_];constructor
    . grind
    . rintro ⟨e,A,o,v,d⟩
      refine⟨?_,e,A,o,v,d⟩;have:=szs_core ps ps' d
      grind[sz]
theorem rz_:∀ a b:List Con,cmp.cmps a b=0↔core.cores a=core.cores b
  | [],[]=>by grind[cmp.cmps]
  | [],_::_=>by grind[cmp.cmps,core.cores]
  | _::_,[]=>by grind[cmp.cmps,core.cores]
  | x::xs,y::ys=>by
    rw[cmp.cmps,core.cores,core.cores,ybv_,<-cmp_zero x y,<-rz_ xs ys]
    grind
theorem sz_core:∀ a b:Con,a.core=b.core->a.sz=b.sz
  | mk k n l h a cp ps,mk k' n' l' h' a' cp' ps'=>by
    rw[core,core,mk.injEq];rintro ⟨_,_,_,_,_,_,d⟩;have:=szs_core ps ps' d
    grind[sz]
theorem szs_core:∀ a b:List Con,core.cores a=core.cores b->sz.szs a=sz.szs b
  | [],[]=>λ_=>rfl
  | [],_::_=>by grind[core.cores]
  | _::_,[]=>by grind[core.cores]
  | x::xs,y::ys=>by
    rw[core.cores,core.cores,ybv_];rintro ⟨u,e⟩;have:=sz_core x y u;have:=szs_core xs ys e
    grind[sz.szs]
end
theorem cmp_self (a:Con):cmp a a=0:=(cmp_zero a a).2 rfl
end Con
def Ax.wgt (x:Ax):Int:=(if x.left.kind=0 then 0 else (x.left.sz:Int))+(if x.right.kind=0 then 0 else (x.right.sz:Int))+(x.roles.length:Int)+(if x.role=[] then 0 else 1)+(if x.a=[] then 0 else 1)+(if x.b=[] then 0 else 1)
def Ax.cmp (x y:Ax):Int:=orF [Lib.compareInt x.wgt y.wgt,Lib.compareInt x.kind y.kind,Con.cmp x.left y.left,Con.cmp x.right y.right,eh_ x.roles y.roles,Lib.compareBytes x.role y.role,Lib.compareBytes x.a y.a,Lib.compareBytes x.b y.b]
theorem Ax.cmp_anti (x y:Ax):cmp y x=- cmp x y :=
  dX_ (ko_ _ _) (dX_ (ko_ _ _) (dX_ (Con.cmp_anti _ _) (dX_ (Con.cmp_anti _ _) (dX_ (rG_ _ _) (dX_ (kn_ _ _) (dX_ (kn_ _ _) (dX_ (kn_ _ _) rfl)))))))
def Ax.alk (x y:Ax):Prop:=x.kind=y.kind/\x.left.core=y.left.core/\x.right.core=y.right.core/\x.roles=y.roles/\x.role=y.role/\x.a=y.a/\x.b=y.b
theorem Con.core_kind {a b:Con} (h:a.core=b.core):a.kind=b.kind:=by
  grind[core_eq]
theorem Ax.cmp_zero (x y:Ax):cmp x y=0↔x.alk y:=by
  grind[cmp,alk,kB_,wv_,xc_,iA_,Con.cmp_zero,rE_,wgt,Con.core_kind,Con.sz_core]
theorem Ax.cmp_self (x:Ax):cmp x x=0:=(cmp_zero x x).2 ⟨rfl,rfl,rfl,rfl,rfl,rfl,rfl⟩
end Go.Vs
namespace Go.Proofs.YtbffkokbdeppaaaGreatDoor
open Go Go.Sx Go.Proofs Tryz
attribute [local irreducible] Code.wp wpList wpAnyH
open Go.Vs
instance:Inhabited Fc:=⟨⟨0,[],[],[],0,0⟩⟩
theorem hV_ (x y:Int):Fn0 prog 125 #[i4_ x,i4_ y] (i4_ (Lib.compareInt x y)) :=
  dT_ (callable func125 rfl rfl) λv _ _=>(Tryz.cmp_Compare_int x y v.w).mono zav_
theorem mp_ (x y:Str):Fn0 prog 128 #[str x,str y] (i4_ (Lib.compareBytes x y)) :=
  dT_ (callable func128 rfl rfl) λv _ _=>(Tryz.strings_Compare ⟨x.toArray⟩ ⟨y.toArray⟩ v.w).mono zav_
theorem zP_ (l:List Int) (ad:Ao) (cap:Nat) (hl:l.length<=1000):Tri prog 124 #[.slice ad l.length cap] [] [O_ ad (l.flatMap cS_)] (λ_:Unit=>i4_ (orF l)) (λ_=>[]) (λ_=>[]):=by
 refine l_ func124 rfl rfl ntmps124 rfl λx=>?_;refine Zz 19 ?_;refine Y_ (ι:={y:Nat // y<=l.length/\∀ z∈l.take y,z=0}) (λy=>[(3,i4_ 0),(6,.slice ad l.length cap),(7,i4_ (List.length l:Int)),(8,i4_ y.1)]) (λy=>([])) (λy=>[O_ ad (l.flatMap cS_)]) (λy=>l.length - y.1) ⟨(0:Nat),by simp,by simp⟩ zl e_ zh ?_;rintro ⟨i,hi,d⟩;dsimp only at hi d ⊢;refine Zi 2 (λo=>?_) λo=>?_
 .refine Zz 13 ?_
  exact W_ results124 () (aV_ rfl (tH_ λy h=>d y (by rw[yac_ zaa_];exact h)).symm) e_ zt
 obtain⟨k,A,e,v⟩:=zge (show i<l.length by omega);refine Zi 19 (λu=>?_) λu=>?_
 .refine Zz 10 ?_
  exact w_ ⟨i+1,k,λy h=>by rw[yao_,e]at h;simp only[ybf_,yaj_,yal_]at h;rcases h with h|rfl;exact d y h;omega⟩ zae_ zl e_ zh
 refine Zz 10 ?_;exact W_ results124 () (aV_ rfl (zQ_ d e zar_).symm) e_ zt
structure Cl where
  atoms:List Str
  aad:Ao
  acap:Nat
  facts:List Fc
  fad:Ao
  fcap:Nat
structure Cl.ok (c:Cl):Prop where
  al:c.atoms.length<=c.acap
  am:c.acap<=maxLen
  az:c.aad=none->c.acap=0
  fl:c.facts.length<=c.fcap
  fm:c.fcap<=maxLen
  fz:c.fad=none->c.fcap=0
section
variable {P:Program} {N:Nf} {v0:Vw} {H0:Hp} {fr:Fr} {H F Ha Hu Ho Hi Hr Hm Hs:Hp} {Γ:List Fct}
theorem br_ {fn:Func} {t s b n:Nat} {ty T:TypeId} {us:List Value} {u:Value} (i:Nat) (k:fn.results=#[.cell t ty,.tmp s]) (C:∀ w,(isAgg ty).run P w=.ok true w) (x:∀ w,(sizeOf ty).run P w=.ok n w) (B:us.length=n) (A:Fr.get fr t=some (zp_ b 0)) (o:Fr.get fr s=some u)
    (hi:H[i]? = some (b,.cells us.toArray T (0,0))) (a:Act) (v:Vw) (d:Fr.sat N fr a) (h:v.sat H):(results fn a.tmps).run P v.w=.ok (.tuple #[.agg us.toArray,u]) v.w:=by
  have e:=d.val t _ A;have E:=d.val s _ o;have hl:=ep_ (t:=ty) (w:=v.w) (b:=b) (off:=0) C x B (λj y G=>by rw[ybP_,eZ_ h hi];omega);simp[results,k,e,E,asAddr,hl]
end
end Go.Proofs.YtbffkokbdeppaaaGreatDoor
namespace Go.Proofs.YtbffkokbdeppaaaGreatDoor
open Go Go.Sx Go.Proofs Tryz
attribute [local irreducible] Code.wp wpList wpAnyH
open Go.Vs Go.Shelf Go.RowKit
theorem sX_ {v d:Vw} (h:v.to [] d []) (u:¬ v.sl):∃ q os,d.w=Sort.grow (v.w.drewN q) os:=by
 have C:v.w.drawn<=d.w.drawn:=h.dr.resolve_left u;refine⟨d.w.drawn - v.w.drawn,d.w.heap.extract v.w.heap.size d.w.heap.size,?_⟩
 have G:d.w.heap=v.w.heap++d.w.heap.extract v.w.heap.size d.w.heap.size:=by
   apply ycw_
   intro i;have B:=h.size;rw[Array.getElem?_append]
   split
   . rename_i hi;exact h.block i hi zak_
   grind
 have e:=h.os;have y:=h.tape;have o:=h.output;obtain⟨k,⟨E,H,F,x,I⟩,A⟩:=d
 grind[Sort.grow,World.drewN,World.mk.injEq]
theorem xS_ {cur:Array Value} {d:List Value} (e:d.length<=cur.size):(Sort.putCells id 0 d.toArray cur).toList.take d.length=d:=by
  apply yaT_
  grind[Sort.putCells]
theorem xT_ {cur d:Array Value}:(Sort.putCells id 0 d cur).size=cur.size:=by simp[Sort.putCells]
theorem holdsV {g:Nat} {cur:Array Value} {T:TypeId} {xs:List Value} {v:Vw} (d:v.sat [(g,.cells cur T (0,0))]) (h:cur.toList.take xs.length=xs):Sort.Holds id v.w g 0 xs.toArray:=by
  intro j e;have k:=(d.own _ yaq_).1
  grind[World.cell?,World.frozen?]
end Go.Proofs.YtbffkokbdeppaaaGreatDoor
namespace Go.Proofs.YtbffkokbdeppaaaGreatDoor
open Go Go.Sx Go.Proofs Tryz
attribute [local irreducible] Code.wp wpList wpAnyH
open Go.Vs Go.Shelf Go.RowKit
theorem rv_ {D:Type} [Inhabited D] {cells:D->List Value} {k:Nat} (e:∀ x,(cells x).length=k) (d:0<k) (xs:List D):Sort.flatK cells k xs.toArray=(xs.flatMap cells).toArray:=by
  apply ycw_
  grind[Nat.div_lt_iff_lt_mul,mN_,Nat.mod_lt,Nat.div_add_mod',Sort.flatK,bV_]
theorem td_ {P:Program} {Γ:List Fct} {f:FuncId} {args:Array Value} {r:Value} {g:Nat} {cur:Array Value} {T:TypeId} {ι:Type} {d:ι->Array Value} (I:gp_ P f)
    (h:∀ v:Vw,v.sat [(g,.cells cur T (0,0))]->aC_ Γ v->Calls P f args v.w λe w'=>e=.returned r/\∃ (i:ι) (n:Nat) (os:Array Obj),w'=Sort.grow (Sort.putRow id (Sort.ahead v.w n) g 0 (d i)) os) :
    Tri P f args [(g,.cells cur T (0,0))] Γ (λ_:ι=>r) (λi=>[(g,.cells (Sort.putCells id 0 (d i) cur) T (0,0))]) (λ_=>[]) :=
  ⟨I,λv B F=>(h v B F).mono λe w' ⟨H,i,n,os,o⟩=>by
    have A:=(B.own _ yaq_);have y:g<v.w.heap.size:=(yaC_.1 A.1).1
    have x:∀ b,b<v.w.heap.size->w'.heap[b]? = if b=g then some (.cells (Sort.putCells id 0 (d i) cur) T (0,0)) else v.w.heap[b]? := λb x=>by
      rw[o];simp only[Sort.grow,Sort.putRow,Sort.mapBlock,Sort.ahead];rw[ybF_ (by simpa using x),ybl_]
      by_cases e:b=g
      . subst e
        simp only[ycu_,A.1,yba_,Sort.onCells]
      . rw[yam_ (λq=>e q.symm),yam_ e]
    have u:v.w.heap.size<=w'.heap.size:=by rw[o];simp[Sort.grow,Sort.putRow,Sort.mapBlock,Sort.ahead]
    refine⟨i,⟨v.im,w',v.sl⟩,H,rfl,⟨λp E=>?_,by simp,λb k=>ybO_ (B.lt b k) u⟩,trivial,⟨by rw[o];rfl,by rw[o];rfl,by rw[o];rfl,u,λb k G=>?_,λ_ h=>h,λ_ h=>.inl h,λb hm=>.inl (by simpa using hm),rfl,.inr (by rw[o];exact ydd_ _ _)⟩⟩
    . simp only[yal_]at E
      subst E;exact⟨by show w'.heap[g]? = _;rw[x g y,yax_ rfl],A.2⟩
    . have C:b≠g:=by simpa using G
      show w'.heap[b]? = _
      rw[x b k,yam_ C]⟩
structure Wko {D:Type} (cf:D->D->Int):Prop where
  irr:∀ x,¬ cf x x<0
  tr:∀ x y z,cf x y<0->cf y z<0->cf x z<0
  ntr:∀ x y z,¬ cf x y<0->¬ cf y z<0->¬ cf x z<0
theorem sortG {P:Program} {ρ:Ren} (L:SlLaysF0.n6 P ρ) {D:Type} {cells:D->List Value} {k:Nat} {Te:TypeId} (Y:∀ x,(cells x).length=k) (Z:0<k) (h1:∀ x,(cells x).all Value.oneCell'=true)
    (aE:∀ w,(isAgg (ρ.t 24)).run P w=.ok true w) (zE:∀ w,(Go.sizeOf (ρ.t 24)).run P w=.ok k w) {cf:D->D->Int} (hO:Wko cf) {g:Nat} (hg:gp_ P g) (hF:gp_ P (ρ.f 6))
    {Γ:List Fct} (hΓ:∀ (v:Vw) (q:Prop),aC_ Γ v->aC_ Γ ⟨v.im,v.w,q⟩) {sv:Value} {xs:List D} {Hr:Hp} (h:av_ Te k sv xs.length (xs.flatMap cells) Hr) (hl:xs.length<=1000000000000)
    (hC:∀ x∈xs,∀ y∈xs,Tri P g #[.agg (cells x).toArray,.agg (cells y).toArray] [] Γ (λ_:Unit=>i4_ (cf x y)) (λ_=>[]) (λ_=>[])) :
    Tri P (ρ.f 6) #[sv,.func (.func g) #[] #[]] Hr Γ (λ_:{y:Hp×List D // av_ Te k sv y.2.length (y.2.flatMap cells) y.1/\y.2.Perm xs/\y.2.Pairwise λa b=>¬ cf b a<0}=>.tuple #[]) (λy=>y.1.1) (λ_=>[]):=by
  by_cases B:xs=[]
  . subst B
    rcases h.2 with⟨rfl,F,rfl⟩|⟨b,cap,cur,rfl,rfl,M,h_3,R,h_5⟩
    . have T:=dT_ (P:=P) (H:=[]) (Γ:=Γ) hF (λv _ _=>(AnyF.slices_SortFunc_none { L with } none 0 (.func (.func g) #[] #[]) v.w).mono zav_)
      exact⟨T.callable,λv a b=>(T.run v a b).mono (by rintro e w' ⟨x,V,o,C,J,I,K⟩;exact⟨⟨([],[]),av_.nil _ _,.refl _,List.Pairwise.nil⟩,V,o,C,J,I,K⟩)⟩
    . have T:=dT_ (P:=P) (H:=[(b,.cells cur Te (0,0))]) (Γ:=Γ) hF (λv _ _=>(AnyF.slices_SortFunc_none { L with } (some ⟨b,0,none⟩) cap (.func (.func g) #[] #[]) v.w).mono zav_)
      exact⟨T.callable,λv a c=>(T.run v a c).mono (by rintro e w' ⟨x,V,o,C,J,I,K⟩;exact⟨⟨([(b,.cells cur Te (0,0))],[]),h,.refl _,List.Pairwise.nil⟩,V,o,C,J,I,K⟩)⟩
  . rcases h.2 with⟨_,F,_⟩|⟨b,cap,cur,rfl,rfl,M,h_3,R,h_5⟩
    . exact absurd (yau_ F) B
    . obtain⟨x_1,B⟩:=List.exists_mem_of_ne_nil _ B
      haveI:Inhabited {x // x∈xs}:=⟨⟨x_1,B⟩⟩
      have hx:(xs.flatMap cells).length=xs.length*k:=bV_ cells k Y xs;have hf:∀ l:List {x // x∈xs},(l.flatMap λz=>cells z.1)=(l.map Subtype.val).flatMap cells:=λl=>by rw[yda_]
      have X:(xs.attach.map Subtype.val)=xs:=List.attach_map_subtype_val xs
      have T:=td_ (P:=P) (Γ:=Γ) (r:=.tuple #[]) (g:=b) (cur:=cur) (T:=Te) (ι:={d:Array {x // x∈xs} // d.size=xs.length/\d.toList.Perm xs.attach/\d.toList.Pairwise λa b=>¬ cf b.1 a.1<0}) (d:=λd=>((d.1.toList.map Subtype.val).flatMap cells).toArray) (f:=ρ.f 6) (args:=#[.slice (some ⟨b,0,none⟩) xs.length cap,.func (.func g) #[] #[]]) hF (λv hs hv=>by
        have hh:=AnyQ.slices_SortFunc L k aE zE (λz:{x // x∈xs}=>cells z.1) (λz=>Y z.1) (λx u hu=>ybn_.1 (h1 x.1) u hu) (λa b=>cf a.1 b.1)
          ⟨λx=>ycS_ (hO.irr x.1),λx y z h1 F=>ycc_ (hO.tr _ _ _ (ybB_ h1) (ybB_ F)),λx y z h1 F=>ycS_ (hO.ntr _ _ _ (ycz_ h1) (ycz_ F))⟩
          g #[] b 0 cap xs.attach.toArray v.w (λargs w=>hg args w) ?_ (by unfold Sort.HoldsK;rw[rv_ (cells:=λz:{x // x∈xs}=>cells z.1) (λz=>Y z.1) Z,hf,X];exact holdsV hs (by rw[hx];exact h_5)) (yaC_.1 (hs.own _ yaq_).1).1 zaC_
        . have o:xs.attach.toArray.size=xs.length:=by simp
          rw[o]at hh;refine hh.mono ?_;rintro e w' ⟨rfl,E,n,os,hp,W,rfl⟩;have G:E.size=xs.length:=by have:=hp.1;rwa [o]at this
          refine⟨rfl,⟨E,G,?_,?_⟩,n,os,?_⟩
          . have:=hp.2.2
            rw[<-G,Array.extract_size,G]at this
            have C:xs.attach.toArray.extract 0 xs.length=xs.attach.toArray:=by
              have q:=Array.extract_size (xs:=xs.attach.toArray);rwa [o]at q
            rw[C]at this;exact this
          . rw[yaK_]
            intro i j hi hj hij;have hj':j<E.size:=by simpa using hj
            have:=W i j (yaV_ _) hij zaa_;rw[getElem!_pos E j hj',getElem!_pos E i zaa_]at this;have:=ycz_ this;simpa using this
          . unfold sortWorldK Sort.putRowK
            have Q:=rv_ (cells:=λz:{x // x∈xs}=>cells z.1) (λz=>Y z.1) Z E.toList;rw[hf]at Q;rw[show E.toList.toArray=E by simp]at Q;rw[Q]
        . intro m os dk _ x y
          have hgb:=hs.own _ yaq_
          have S:∀ c,c<v.w.heap.size->c≠b->(sortWorldK (λz:{x // x∈xs}=>cells z.1) k v.w b 0 m dk os).heap[c]? = v.w.heap[c]? := λc U hn=>by
            unfold sortWorldK Sort.putRowK;simp only[Sort.grow,Sort.putRow,Sort.mapBlock,Sort.ahead];rw[ybF_ (by simpa using U),ybl_,yam_ (λq=>hn q.symm)]
          have O:v.w.heap.size<=(sortWorldK (λz:{x // x∈xs}=>cells z.1) k v.w b 0 m dk os).heap.size:=by unfold sortWorldK Sort.putRowK;simp[Sort.grow,Sort.putRow,Sort.mapBlock,Sort.ahead]
          have hq:=(hC x.1 x.2 y.1 y.2).run ⟨v.im,sortWorldK (λz:{x // x∈xs}=>cells z.1) k v.w b 0 m dk os,False⟩ ⟨by simp,by simp,λc U=>ybO_ (hs.lt c U) O⟩
            (ba_ (v:=⟨v.im,v.w,False⟩) ⟨λ_ q=>q,λc U=>S c (hs.lt c U) (λe=>hgb.2 (e▸U)),rfl⟩ (hΓ v False hv))
          refine hq.mono ?_;rintro e w' ⟨_,V,rfl,rfl,_,_,ht⟩;obtain⟨q,os',hw⟩:=sX_ ht (λh=>h);exact⟨rfl,q,os',hw⟩)
      refine⟨T.callable,λv a b=>(T.run v a b).mono ?_⟩;rintro e w' ⟨⟨E,G,hp,hpw⟩,V,o,C,J,I,K⟩;have A:(E.toList.map Subtype.val).length=xs.length:=by simp[G]
      have hy:((E.toList.map Subtype.val).flatMap cells).length=xs.length*k:=by rw[bV_ cells k Y,A]
      refine⟨⟨(_,E.toList.map Subtype.val),⟨by rw[hy,A],.inr ⟨_,cap,_,by rw[A],rfl,by rw[A];exact M,h_3,by rw[xT_];exact R,?_⟩⟩,?_,?_⟩,V,o,C,J,I,K⟩
      . have:=xS_ (cur:=cur) (d:=(E.toList.map Subtype.val).flatMap cells) (by rw[hy,R];exact ybc_ k M)
        rw[hy]at this;dsimp only;rw[A];exact this
      . have:=hp.map Subtype.val
        rwa [X]at this
      . rw[ybQ_];exact hpw
theorem any_no {α:Type} {p:α->Bool} {l:List α} {j:Nat} {x:α} (h:∀ y∈l.take j,p y=false) (e:l[j]? = some x) (d:p x=false):∀ y∈l.take (j+1),p y=false:=by grind[List.take_add_one]
end Go.Proofs.YtbffkokbdeppaaaGreatDoor
namespace Go.Vs
open Go Go.Sx Go.Proofs.YtbffkokbdeppaaaGreatDoor
def oA_ (p:List Pc) (U:List Bool) (q:List Int) (i:Nat):Prop:=∀ m,m∈q↔∃ (j:Nat) (x:Pc),j<i/\p[j]? = some x/\U[j]? = some true/\x.frm=m
theorem oA_.zero {p:List Pc} {U:List Bool}:oA_ p U [] 0:=λm=>by simp
theorem oA_.miss {p:List Pc} {U:List Bool} {q:List Int} {i:Nat} (h:oA_ p U q i) (d:U[i]? = some false):oA_ p U q (i+1):=λm=>by
  rw[h m]
  grind
theorem oA_.hit {p:List Pc} {U:List Bool} {q:List Int} {i:Nat} {x:Pc} (h:oA_ p U q i) (k:p[i]? = some x) (d:U[i]? = some true):oA_ p U (if x.frm∈q then q else q++[x.frm]) (i+1):=λm=>by
  have e:m∈(if x.frm∈q then q else q++[x.frm])↔m∈q\/m=x.frm:=by
    grind
  rw[e,h m]
  grind
theorem oA_.done {p:List Pc} {S:List Str} {K:List Thg} {U:List Bool} {q:List Int} {i:Nat} (h:oA_ p U q i) (hi:p.length<=i) (d:ReachR p S K U) (m:Int):m∈q↔∃ x∈p,x.frm=m/\Usb p S x:=by
 rw[h m];constructor
 .rintro ⟨j,x,C,k,B,y⟩
  obtain⟨b,e,u⟩:=d.use j x k
  grind
 rintro ⟨x,o,y,A⟩;obtain⟨j,v⟩:=yaA_ o;obtain⟨b,e,u⟩:=d.use j x v
 grind
theorem tP_ {l:List Ax} {p:List Pc} {S:List Str} {i:Nat} {a:Ax} (e:l[i]? = some a) (d:hr_ a):Mat l p S i:=.inl ⟨a,by grind,d⟩
theorem zX_ {l:List Ax} {p:List Pc} {S:List Str} {i:Nat} {q:List Int} (h:∀ m,m∈q↔∃ x∈p,x.frm=m/\Usb p S x) (hi:(i:Int)∈q):Mat l p S i:=.inr ((h i).1 hi)
theorem Cf_ {l:List Ax} {p:List Pc} {S:List Str} {i:Nat} {a:Ax} {q:List Int} (h:∀ m,m∈q↔∃ x∈p,x.frm=m/\Usb p S x) (o:l[i]? = some a) (e:¬ hr_ a) (hi:¬ (i:Int)∈q):¬ Mat l p S i:=by
  rintro (⟨b,u,d⟩|k)
  all_goals grind
end Go.Vs
namespace Go.Proofs.YtbffkokbdeppaaaGreatDoor
open Go Go.Sx Go.Proofs Tryz
attribute [local irreducible] Code.wp wpList wpAnyH
open Go.Vs
theorem rg_ (v:List Ax) (lad:Ao) (lcap:Nat) (p:List Pc) (ad:Ao) (cap:Nat) (S:List Str) (sad:Ao) (e:Nat):Tri prog 75 #[.slice lad v.length lcap,.slice ad p.length cap,.slice sad S.length e] [] [] (λy:Nat×Nat×Nat=>.func (.func 161) #[] #[zp_ y.1 0,zp_ y.2.1 0,zp_ y.2.2 0]) (λ_=>[]) (λy=>[cv_ y.1 (.cells #[.slice ad p.length cap] 69 (0,0)),cv_ y.2.1 (.cells #[.slice sad S.length e] 25 (0,0)),cv_ y.2.2 (.cells #[.slice lad v.length lcap] 22 (0,0))]):=by
  refine l_ func75 rfl rfl ntmps75 rfl λx=>?_;refine Zz 2 ?_;refine Q_ rfl rfl λk=>Q_ rfl rfl λo=>Q_ rfl rfl λu=>Zz 5 ?_
  refine c_ (ft_ rfl rfl) rfl (Zz 4 ?_);refine fW_ (cv_ k (.cells #[.slice lad v.length lcap] 22 (0,0))) (cg_ (g_ (g_ f_))) (λ_ d h _=>⟨d,h⟩) ?_;refine fW_ (cv_ o (.cells #[.slice ad p.length cap] 69 (0,0))) (cg_ (g_ f_)) (λ_ d h _=>⟨d,h⟩) ?_;refine fW_ (cv_ u (.cells #[.slice sad S.length e] 25 (0,0))) (cg_ f_) (λ_ d h _=>⟨d,h⟩) ?_;exact W_ results75 (o,u,k) rfl e_ zf
theorem nB_ {G:Prop} (h:G:=by
 refine gR_ rfl rfl rfl rfl ?_;refine gR_ rfl rfl rfl rfl ?_;refine gR_ rfl rfl rfl rfl ?_;refine c_ (dY_ rfl rfl) rfl ?_;refine c_ (X_ rfl) rfl ?_;refine ai_ ?_;refine ac_ rfl ?_;refine aq_ ?_;exact nE_):G:=h
theorem nC_ {G:Prop} (h:G:=by
 rintro ⟨C,H⟩;dsimp only;refine ac_ rfl ?_;refine bU_ rfl ?_;refine cQ_ ?_;refine ac_ rfl ?_;refine S_ ?_;refine c_ (aT_ rfl rfl rfl (bB_ zaa_ zaa_)) rfl ?_;refine c_ (P_ rfl) rfl ?_;refine ai_ ?_;refine bE_ rfl ?_;exact w_ ⟨(k+1,C),o,(by rw[tQ_ hM,<-B];exact H)⟩ zae_ zl zp zh):G:=h
theorem nD_ {G:Prop} (h:G:=by
 refine gT_ bh_ rfl rfl ?_;refine Z_ bh_ (P_ rfl) rfl rfl ?_;refine gT_ bh_ rfl rfl ?_;refine Z_ bh_ (P_ rfl) rfl rfl ?_;refine gT_ bh_ rfl rfl ?_;refine gS_ (hY s (k:Int) ⟨by rw[B];have:=gV_ (l:=d) (p:=p) (S:=S) k;omega,by omega,by omega⟩) rfl rfl (g_ ah_) zf rfl λz=>?_;refine gT_ bh_ rfl rfl ?_;refine Z_ bh_ (aI_ rfl) rfl rfl ?_;refine Z_ bh_ (dY_ rfl rfl) rfl rfl ?_;refine bK_ ?_;refine cL_ rfl ?_;exact eg_ z zl zp zh):G:=h
theorem nE_ {G:Prop} (h:G:=by
 have hM:Mat d p S (k:Int):=tP_ F (by unfold hr_;omega);refine hG_ (ι:={C:σ // lst C=lst s++[(k:Int)]}) (λ_=>[(0,.func (.yield lq) #[] #[]),(1,zp_ bp 0),(3,zp_ O 0),(7,.map (some A)),(21,i4_ (List.length U:Int)),(22,i4_ i),(35,.slice lad d.length lcap),(36,i4_ (List.length d:Int)),(37,i4_ k),(66,.bool false)]) (λz=>((Z,.cells (Ax.cells X).toArray 30 (0,0))::((A,.map E T)::(Y z.1)))) (λ_=>[cv_ bp (.cells #[.slice ad p.length cap] 69 (0,0)),cv_ bs (.cells #[.slice sad S.length u] 25 (0,0)),cv_ O (.cells #[.slice lad d.length lcap] 22 (0,0)),O_ ad (p.flatMap Pc.cells),O_ sad (S.flatMap V_),bA_ lad d,Fx,Fy]) ?_ ?_
 .refine aR_ ?_
  refine Z_ bh_ (P_ rfl) rfl rfl ?_;refine Z_ bh_ (P_ rfl) rfl rfl ?_;refine sc_ bh_ rfl rfl rfl rfl ?_;refine sc_ bh_ rfl rfl rfl rfl ?_;refine sc_ bh_ rfl rfl rfl rfl ?_;refine Z_ bh_ (dY_ rfl rfl) rfl rfl ?_;refine Z_ bh_ (P_ rfl) rfl rfl ?_;exact nD_
 exact nC_):G:=h
theorem zY_ {σ:Type} {lq:Nat} {Y:σ->Hp} {lst:σ->List Int} (d:List Ax) (lad:Ao) (lcap:Nat) (p:List Pc) (ad:Ao) (cap:Nat) (S:List Str) (sad:Ao) (u:Nat) (bp bs O:Nat) (Fx Fy:Fct) (hY:∀ s x,((lst s).length<100000000/\0<=x/\x<(List.length d:Int))->jY_ prog lq (i4_ x) (Y s) [Fx,Fy] (λ_:{C:σ // lst C=lst s++[x]}=>.bool true) (λC=>Y C.1) (λ_=>[])) (s0:σ) (hs0:lst s0=[]) (hp:p.length<=100000000) (hS:S.length<=100000000) (hll:d.length<=100000000):Tri prog 161 #[.func (.yield lq) #[] #[],zp_ bp 0,zp_ bs 0,zp_ O 0] (Y s0) [cv_ bp (.cells #[.slice ad p.length cap] 69 (0,0)),cv_ bs (.cells #[.slice sad S.length u] 25 (0,0)),cv_ O (.cells #[.slice lad d.length lcap] 22 (0,0)),O_ ad (p.flatMap Pc.cells),O_ sad (S.flatMap V_),bA_ lad d,Fx,Fy] (λ_:{C:σ // lst C=dE_ d p S d.length}=>.tuple #[]) (λC=>Y C.1) (λ_=>[]):=by
 refine l_ func161 rfl rfl ntmps161 rfl λv_1=>?_;refine aq_ ?_;refine S_ ?_;refine c_ (cT_ isAgg69 rfl zf rfl) rfl ?_;refine c_ (cT_ fS_ rfl zf rfl) rfl ?_;refine d_ (BM_ p ad cap S sad u hp hS) rfl e_ zf rfl λ⟨⟨kb,esK,cK,Kq,svU,U,HUq⟩,hEK,hBK,hrU,hRR⟩=>?_;dsimp only;dsimp only at hEK hBK hrU hRR;simp only[yaL_,yak_];refine c_ (P_ rfl) rfl ?_;refine c_ (cf_ rfl rfl) rfl ?_;refine c_ (cf_ rfl rfl) rfl ?_;refine c_ (X_ rfl) rfl ?_;refine c_ (X_ rfl) rfl ?_;refine ai_ ?_;refine ac_ rfl ?_;refine aq_ ?_;refine S_ ?_;refine dm_ rfl λA=>?_;refine c_ (X_ rfl) rfl ?_;refine ai_ ?_;refine ac_ rfl ?_;refine aq_ ?_;refine aq_ ?_;refine S_ ?_;refine c_ (P_ rfl) rfl ?_;refine c_ (dF_ hrU runUnderlying220 rfl) rfl ?_;refine c_ (P_ rfl) rfl ?_;refine ai_ ?_;refine ac_ rfl ?_;refine cC_ ?_;let Pu:Array Value:=#[.slice lad d.length lcap];let Qu:Array Value:=#[.slice ad p.length cap];let Ru:Array Value:=#[.slice sad S.length u];refine Y_ (ι:={y:Nat×Array MapEntry×Nat×List Int // y.1<=List.length U/\SetE (λn:Int=>i4_ n) y.2.1 y.2.2.2/\oA_ p U y.2.2.2 y.1}) (λy=>[(0,.func (.yield lq) #[] #[]),(1,zp_ bp 0),(3,zp_ O 0),(7,.map (some A)),(20,svU),(21,i4_ (List.length U:Int)),(22,i4_ y.1.1)]) (λy=>((A,.map y.1.2.1 y.1.2.2.1)::(HUq++(Y s0)))) (λy=>[cv_ bp (.cells Qu 69 (0,0)),cv_ bs (.cells Ru 25 (0,0)),cv_ O (.cells Pu 22 (0,0)),O_ ad (p.flatMap Pc.cells),O_ sad (S.flatMap V_),bA_ lad d,Fx,Fy]) (λy=>U.length - y.1.1) ⟨((0:Nat),#[],0,([]:List Int)),by simp,SetE.nil,oA_.zero⟩ zl zp zh ?_;rintro ⟨⟨i,E,T,q⟩,hi_i,G,hq⟩;dsimp only at hi_i G hq ⊢;refine aq_ ?_;refine S_ ?_;refine A_ (dw_ rfl rfl) rfl λr_1 K=>?_;refine ai_ ?_;refine ac_ rfl ?_;refine aq_ ?_;cases r_1
 .replace K:=zdf K
  refine bU_ rfl ?_;refine ge_ rfl ?_;refine ac_ rfl ?_;refine aq_ ?_;refine S_ ?_;refine c_ (cT_ ox_ rfl zf rfl) rfl ?_;refine c_ (dS_ aw_ rfl) rfl ?_;refine c_ (P_ rfl) rfl ?_;refine ai_ ?_;refine ac_ rfl ?_;refine cC_ ?_;have hqd:=hq.done (S:=S) (by rw[<-hRR.ul];omega) hRR;refine Y_ (ι:={y:Nat×σ // y.1<=List.length d/\lst y.2=dE_ d p S y.1}) (λy=>[(0,.func (.yield lq) #[] #[]),(1,zp_ bp 0),(3,zp_ O 0),(7,.map (some A)),(21,i4_ (List.length U:Int)),(22,i4_ i),(35,.slice lad d.length lcap),(36,i4_ (List.length d:Int)),(37,i4_ y.1.1)]) (λy=>((A,.map E T)::(Y y.1.2))) (λy=>[cv_ bp (.cells Qu 69 (0,0)),cv_ bs (.cells Ru 25 (0,0)),cv_ O (.cells Pu 22 (0,0)),O_ ad (p.flatMap Pc.cells),O_ sad (S.flatMap V_),bA_ lad d,Fx,Fy]) (λy=>d.length - y.1.1) ⟨((0:Nat),s0),by simp,(by rw[yi_];exact hs0)⟩ zl zp zh ?_;rintro ⟨⟨k,s⟩,hi_k,B⟩;dsimp only at hi_k B ⊢;refine aq_ ?_;refine S_ ?_;refine A_ (dw_ rfl rfl) rfl λr_2 R=>?_;refine ai_ ?_;refine ac_ rfl ?_;refine aq_ ?_;cases r_2
  .replace R:=zdf R
   refine bU_ rfl ?_;refine ge_ rfl ?_;refine sz_ rfl ?_;exact end0 results161 ⟨s,by rw[show d.length=k by omega];exact B⟩ rfl ah_ zt
  replace R:=zdt R;have o:k<d.length:=by omega
  obtain⟨X,F⟩:∃ V,d[k]? = some V:=⟨_,yaa_ o⟩;refine bT_ rfl ?_;refine cQ_ ?_;refine ac_ rfl ?_;refine aq_ ?_;refine cC_ ?_;refine aq_ ?_;refine S_ ?_;refine c_ (P_ rfl) rfl ?_;refine c_ (J_ aw_ D_ rfl rfl (λv _ h=>az_ (n:=16) Ax.cells_len zaj_ (by exact h.2.2.2.2.2.1.1) F) zaa_ zah_) rfl ?_;refine c_ (ax_ (ad:=lad) (us:=Ax.cells X) bg_ D_ rfl (λv _ h=>by exact h.2.2.2.2.2.1.1) (Ax.cells_len _) (t_ Ax.cells_len F)) rfl ?_;refine K_ aQ_ rfl λZ=>?_;refine c_ (X_ rfl) rfl ?_;refine o_ 0 D_ rfl rfl rfl rfl rfl rfl ?_;refine ai_ ?_;refine ac_ rfl ?_;refine aq_ ?_;refine S_ ?_;refine c_ (bl_ bC_ rfl rfl rfl af_) rfl ?_;refine c_ (aK_ 0 aU_ rfl rfl rfl) rfl ?_;refine A_ (al_ rfl rfl) rfl λr_3 J=>?_;refine c_ (P_ rfl) rfl ?_;cases r_3
  .replace J:=znb J
   refine as_ rfl rfl ?_;refine c_ (bl_ bC_ rfl rfl rfl af_) rfl ?_;refine as_ rfl rfl ?_;refine c_ (aK_ 0 aU_ rfl rfl rfl) rfl ?_;refine as_ rfl rfl ?_;refine A_ (al_ rfl rfl) rfl λr_4 P=>?_;refine c_ (cO_ rfl rfl) rfl ?_;refine c_ (P_ rfl) rfl ?_;cases r_4
   .replace P:=znb P
    refine as_ rfl rfl ?_;refine c_ (bl_ bC_ rfl rfl rfl af_) rfl ?_;refine as_ rfl rfl ?_;refine c_ (aK_ 0 aU_ rfl rfl rfl) rfl ?_;refine as_ rfl rfl ?_;refine A_ (al_ rfl rfl) rfl λr_5 M=>?_;refine c_ (cO_ rfl rfl) rfl ?_;refine c_ (X_ rfl) rfl ?_;refine ai_ ?_;refine ac_ rfl ?_;refine aq_ ?_;cases r_5
    .replace M:=znb M
     by_cases Q:(k:Int)∈q
     .have hM:Mat d p S (k:Int):=zX_ hqd Q
      refine hG_ (ι:={C:σ // lst C=lst s++[(k:Int)]}) (λ_=>[(0,.func (.yield lq) #[] #[]),(1,zp_ bp 0),(3,zp_ O 0),(7,.map (some A)),(21,i4_ (List.length U:Int)),(22,i4_ i),(35,.slice lad d.length lcap),(36,i4_ (List.length d:Int)),(37,i4_ k),(66,.bool false)]) (λz=>((Z,.cells (Ax.cells X).toArray 30 (0,0))::((A,.map E T)::(Y z.1)))) (λ_=>[cv_ bp (.cells Qu 69 (0,0)),cv_ bs (.cells Ru 25 (0,0)),cv_ O (.cells Pu 22 (0,0)),O_ ad (p.flatMap Pc.cells),O_ sad (S.flatMap V_),bA_ lad d,Fx,Fy]) ?_ ?_
      .refine aR_ ?_
       refine Z_ bh_ (P_ rfl) rfl rfl ?_;refine Z_ bh_ (P_ rfl) rfl rfl ?_;refine gT_ bh_ rfl rfl ?_;refine Z_ bh_ (P_ rfl) rfl rfl ?_;refine gT_ bh_ rfl rfl ?_;refine Z_ bh_ (P_ rfl) rfl rfl ?_;refine gT_ bh_ rfl rfl ?_;refine qV_ bh_ (jn_ (k:=(k:Int)) vw_ runUnderlying223 hY_ rfl rfl G (λv h _=>(h.own _ (yad_ (i:=1) rfl)).1)) rfl rfl λr_6 e=>?_;refine Z_ bh_ (cO_ rfl rfl) rfl rfl ?_;refine Z_ bh_ (P_ rfl) rfl rfl ?_;cases r_6
       .replace e:=zdf e
        exact absurd Q e
       replace e:=zdt e;exact nD_
      exact nC_
     have hM:¬ Mat d p S (k:Int):=Cf_ hqd F (by unfold hr_;omega) Q;refine S_ ?_;refine c_ (P_ rfl) rfl ?_;refine c_ (P_ rfl) rfl ?_;refine as_ rfl rfl ?_;refine c_ (P_ rfl) rfl ?_;refine as_ rfl rfl ?_;refine c_ (P_ rfl) rfl ?_;refine as_ rfl rfl ?_;refine A_ (jn_ (k:=(k:Int)) vw_ runUnderlying223 hY_ rfl rfl G (λv h _=>(h.own _ (yad_ (i:=1) rfl)).1)) rfl λr_6 e=>?_;refine c_ (cO_ rfl rfl) rfl ?_;refine c_ (P_ rfl) rfl ?_;cases r_6
     .replace e:=zdf e
      refine gR_ rfl rfl rfl rfl ?_;refine gR_ rfl rfl rfl rfl ?_;refine gR_ rfl rfl rfl rfl ?_;refine gR_ rfl rfl rfl rfl ?_;refine c_ (cO_ rfl rfl) rfl ?_;refine ai_ ?_;refine ac_ rfl ?_;refine bU_ rfl ?_;refine cQ_ ?_;refine ac_ rfl ?_;refine S_ ?_;refine c_ (aT_ rfl rfl rfl (bB_ zaa_ zaa_)) rfl ?_;refine c_ (P_ rfl) rfl ?_;refine ai_ ?_;refine bE_ rfl ?_;exact w_ ⟨(k+1,s),o,(by rw[wE_ hM];exact B)⟩ zae_ zl (E_ (g_ f_) ah_) zh
     replace e:=zdt e;exact absurd e Q
    replace M:=zeb M;exact nE_
   replace P:=zeb P;exact nB_
  replace J:=zeb J;refine gR_ rfl rfl rfl rfl ?_;refine gR_ rfl rfl rfl rfl ?_;refine gR_ rfl rfl rfl rfl ?_;refine c_ (dY_ rfl rfl) rfl ?_;refine c_ (P_ rfl) rfl ?_;exact nB_
 replace K:=zdt K;have I:i<U.length:=by omega
 obtain⟨w_1,L⟩:∃ V,U[i]? = some V:=⟨_,yaa_ I⟩;have hmw_1:w_1∈U:=yad_ L;have hlx_1:i<p.length:=by have:=hRR.ul;omega
 obtain⟨x_1,W⟩:∃ V,p[i]? = some V:=⟨_,yaa_ hlx_1⟩;refine bT_ rfl ?_;refine cQ_ ?_;refine ac_ rfl ?_;refine aq_ ?_;refine cC_ ?_;refine aq_ ?_;refine S_ ?_;refine c_ (P_ rfl) rfl ?_;refine c_ (bJ_ hrU runUnderlying220 bD_ rfl rfl zaa_ zaa_) rfl ?_;refine c_ (cH_ hrU zp cG_ rfl (t_ rI_ L 0 _ rfl)) rfl ?_;refine c_ (X_ rfl) rfl ?_;refine c_ (X_ rfl) rfl ?_;refine ai_ ?_;refine ac_ rfl ?_;refine aq_ ?_;refine S_ ?_;refine c_ (P_ rfl) rfl ?_;refine ai_ ?_;refine ac_ rfl ?_;cases w_1
 .refine bU_ rfl ?_
  refine cQ_ ?_;refine ac_ rfl ?_;refine S_ ?_;refine c_ (aT_ rfl rfl rfl (bB_ zaa_ zaa_)) rfl ?_;refine c_ (P_ rfl) rfl ?_;refine ai_ ?_;refine bE_ rfl ?_;exact w_ ⟨(i+1,E,T,q),I,G,hq.miss L⟩ zae_ zl zp zh
 refine bT_ rfl ?_;refine S_ ?_;refine c_ (P_ rfl) rfl ?_;refine c_ (cT_ isAgg69 rfl zf rfl) rfl ?_;refine c_ (P_ rfl) rfl ?_;refine c_ (J_ u_ ab_ rfl rfl (λv _ h=>az_ (n:=10) Pc.cells_len zaj_ zaY_ W) zaa_ zah_) rfl ?_;refine c_ (bF_ runUnderlying80 rfl rfl rfl af_) rfl ?_;refine c_ (aS_ (ad:=ad) aU_ rfl zf (t_ Pc.cells_len W 9 _ rfl)) rfl ?_;refine zS_ (k:=x_1.frm) 0 vw_ (.inr rfl) runUnderlying223 rfl rfl rfl rfl G λej_1 cj_1 hj_1=>?_;refine ai_ ?_;refine ac_ rfl ?_;refine S_ ?_;refine c_ (aT_ rfl rfl rfl (bB_ zaa_ zaa_)) rfl ?_;refine c_ (P_ rfl) rfl ?_;refine ai_ ?_;refine bE_ rfl ?_;exact w_ ⟨(i+1,ej_1,cj_1,(if x_1.frm∈q then q else q++[x_1.frm])),I,hj_1,hq.hit W L⟩ zae_ zl zp zh
theorem wu_ {c d e:Nat×Obj} {Q:Hp}:(c::(Q++[d,e])).Perm (e::c::(Q++[d])):=by
  have h:(c::(Q++[d,e]))=(c::(Q++[d]))++[e]:=by simp
  grind[List.perm_append_comm]
theorem Dc_ {c d:Nat×Obj} {Q:Hp}:(c::(Q++[d])).Perm (Q++[c,d]):=by
  grind[List.perm_append_comm]
theorem vk_ {H A B C G:Hp} {b:Nat×Obj} (h:H.Perm ((b::(A++(B++C)))++G)):H.Perm ((b::A)++B++(C++G)):=by grind
def eO_ (S:List Str):Bool:=decide (S.length<=16384)&&S.all cD_
def kY_ (l:List Ax) (p:List Pc) (er:Int) (S:List Str):List Int×Int:=if er≠0 then ([],er) else if eO_ S=false then ([],1) else (dE_ l p S l.length,0)
theorem yJ_ (o:List Ax) (lad:Ao) (lcap:Nat) (p:List Pc) (ad:Ao) (cap:Nat) (S:List Str) (sad:Ao) (d:Nat) (bp bs E:Nat) (hp:p.length<=100000000) (hS:S.length<=100000000) (R:o.length<=100000000):Tri prog 160 #[.slice none 0 0,.func (.func 161) #[] #[zp_ bp 0,zp_ bs 0,zp_ E 0]] [] [cv_ bp (.cells #[.slice ad p.length cap] 69 (0,0)),cv_ bs (.cells #[.slice sad S.length d] 25 (0,0)),cv_ E (.cells #[.slice lad o.length lcap] 22 (0,0)),O_ ad (p.flatMap Pc.cells),O_ sad (S.flatMap V_),bA_ lad o] (λy:{y:Value×Hp×List Int // av_ 3 1 y.1 y.2.2.length (y.2.2.flatMap cS_) y.2.1/\y.2.2=(dE_ o p S o.length)}=>y.1.1) (λy=>y.1.2.1) (λ_=>[]):=by
 refine eJ_ func160 rfl rfl ntmps160 rfl λJ=>?_;refine Zz 2 ?_;refine Q_ rfl rfl λk=>Zz 10 ?_
 refine bc_ [(2,zp_ k 0),(6,.func (.func 161) #[] #[zp_ bp 0,zp_ bs 0,zp_ E 0])] zl ?_;refine jw_ [cv_ bp (.cells #[.slice ad p.length cap] 69 (0,0)),cv_ bs (.cells #[.slice sad S.length d] 25 (0,0))] (σ:={y:Value×Hp×List Int // av_ 3 1 y.1 y.2.2.length (y.2.2.flatMap cS_) y.2.1}) (α:=Int) (xv:=λx=>i4_ x) (good:=λs x=>s.1.2.2.length<100000000/\0<=x/\x<(List.length o:Int)) (nx:=λx s Q=>Q.1.2.2=s.1.2.2++[x]) (Rc:=λs=>s.1.2.2=(dE_ o p S o.length)) (Γi:=[cv_ bp (.cells #[.slice ad p.length cap] 69 (0,0)),cv_ bs (.cells #[.slice sad S.length d] 25 (0,0)),cv_ E (.cells #[.slice lad o.length lcap] 22 (0,0)),O_ ad (p.flatMap Pc.cells),O_ sad (S.flatMap V_),bA_ lad o,cv_ bp (.cells #[.slice ad p.length cap] 69 (0,0)),cv_ bs (.cells #[.slice sad S.length d] 25 (0,0))]) (Hj:=λy=>(k,.cells #[y.1.1] 63 (0,0))::y.1.2.1) (Hc:=[]) (caps:=[zp_ bp 0,zp_ bs 0,zp_ E 0]) ⟨(.slice none 0 0,[],[]),av_.nil _ _⟩ rfl (.refl _) zf ?_ ?_ ?_
 .rintro l D rec Y U T ht M C ⟨⟨sv,B,L⟩,H⟩ x ⟨K,Z,hx_3⟩
  dsimp only at H K ⊢;refine jm_ (ι:=Unit) (Hj:=λy:{y:Value×Hp×List Int // av_ 3 1 y.1 y.2.2.length (y.2.2.flatMap cS_) y.2.1}=>(k,.cells #[y.1.1] 63 (0,0))::y.1.2.1) (s:=⟨(sv,B,L),H⟩) (ok:=λQ=>Q.1.2.2=L++[x]) (Γ:=[cv_ bp (.cells #[.slice ad p.length cap] 69 (0,0)),cv_ bs (.cells #[.slice sad S.length d] 25 (0,0))]) (λ_=>[(2,zp_ k 0),(5,i4_ x)]) (λ_=>(k,.cells #[sv] 63 (0,0))::B) Y U T ht rfl ?_ ?_
  .intro n J V W
   rw[M];dsimp only;refine ef_.2 (s_ (H':=(k,.cells #[sv] 63 (0,0))::(B++W)) zak_ (ef_.1 ?_));refine aR_ ?_;refine Z_ (aa_ _) (X_ rfl) rfl rfl ?_;refine bK_ ?_;refine cL_ rfl ?_;exact eg_ () zl (F:=[]) zaS_ zh
  intro n J V W _;rw[C];refine ef_.2 (s_ (H':=(k,.cells #[sv] 63 (0,0))::(B++W)) zak_ (ef_.1 ?_));refine dZ_ ?_;refine aR_ ?_;refine Z_ (aa_ _) (aK_ 0 isAgg63 rfl rfl rfl) rfl rfl ?_;refine Z_ (aa_ _) (P_ rfl) rfl rfl ?_;refine qW_ (aa_ _) aE_ af_ bQ_ rfl rfl rfl rfl rfl rfl λb_2=>?_;refine oh_ (aa_ _) (news:=List.flatMap cS_ [x]) hv_ H rfl rfl zp rfl (aO_ 0 rfl) (λu hu=>aF_ gk_ hu) zay_ zaa_ rfl λI O P=>?_;have A:=zsa P;refine gj_ (aL_ (ae_ f_) (cg_ (ae_ f_))) ?_;refine kC_ (aa_ _) 1 A sizeOf63 rfl rfl rfl rfl ?_;refine bK_ ?_;refine cL_ rfl ?_;exact kV_ ⟨(I,O,(L++[x])),A⟩ rfl (vk_ (E_ (g_ f_) (bP_ (g_ ag_) (bP_ ah_ f_))))
 .intro l Gj hY
  exact zY_ (lst:=λy=>y.1.2.2) o lad lcap p ad cap S sad d bp bs E (cv_ bp (.cells #[.slice ad p.length cap] 69 (0,0))) (cv_ bs (.cells #[.slice sad S.length d] 25 (0,0))) (λs x h=>hY s x h) ⟨(.slice none 0 0,[],[]),av_.nil _ _⟩ rfl hp hS R
 rintro ⟨⟨sv,B,L⟩,H⟩ hL D l r;dsimp only at hL H ⊢;refine cm_ rfl ?_;refine cZ_ ?_;refine aR_ ?_;refine Z_ bh_ (aK_ 0 isAgg63 rfl rfl rfl) rfl rfl ?_;refine Z_ bh_ (X_ rfl) rfl rfl ?_;refine bK_ ?_;refine cm_ rfl ?_;refine hH_ ?_;exact tq_ (G:=(k,.cells #[sv] 63 (0,0))::(B++[(l,.loop r)])) ⟨(sv,B,L),H,hL⟩ (λa v X h_2=>by have e:=X.val 4 sv rfl;simp[results,results160,e]) zbF_ ⟨_,Dc_⟩ rfl
theorem vJ_ (d:List Ax) (lad:Ao) (lcap:Nat) (p:List Pc) (ad:Ao) (cap:Nat) (S:List Str) (sad:Ao) (u:Nat) (bp bs E:Nat) (H:p.length<=100000000) (K:S.length<=100000000) (C:d.length<=100000000):Tri prog 74 #[.func (.func 161) #[] #[zp_ bp 0,zp_ bs 0,zp_ E 0]] [] [cv_ bp (.cells #[.slice ad p.length cap] 69 (0,0)),cv_ bs (.cells #[.slice sad S.length u] 25 (0,0)),cv_ E (.cells #[.slice lad d.length lcap] 22 (0,0)),O_ ad (p.flatMap Pc.cells),O_ sad (S.flatMap V_),bA_ lad d] (λy:{y:Ao×Nat // ((dE_ d p S d.length)).length<=y.2/\y.2<=maxLen/\(y.1=none->y.2=0)}=>.slice y.1.1 ((dE_ d p S d.length)).length y.1.2) (λ_=>[]) (λy=>[O_ y.1.1 (((dE_ d p S d.length)).flatMap cS_)]):=by
  refine l_ func74 rfl rfl ntmps74 rfl λI=>?_;refine Zz 8 ?_;refine d_ (yJ_ d lad lcap p ad cap S sad u bp bs E H K C) rfl e_ zf rfl λ⟨⟨G,F,J⟩,v,o⟩=>?_;dsimp only;dsimp only at v o ⊢;subst o;simp only[yas_];refine Zz 4 ?_;refine I_ v an_ λA B x h e k=>?_;exact W_ results74 ⟨(A,B),h,e,k⟩ (cw_ rfl x) e_ zf
theorem ny_ {G:Prop} (h:G:=by
 refine d_ (eH_ _ zaZ_) rfl e_ zt rfl λ_=>?_;refine A_ (aD_ (al_ rfl rfl) (yag_ Value.bool (pp_ _))) rfl λk u=>Zz 4 ?_
 exact dQ_):G:=h
theorem nz_ {G:Prop} (h:G:=by
 refine d_ (eH_ _ zaZ_) rfl e_ zt rfl λ_=>?_;refine A_ (aD_ (al_ rfl rfl) (yag_ Value.bool (pp_ _))) rfl λk d=>Zz 4 ?_
 exact dQ_):G:=h
theorem nA_ {G:Prop} (h:G:=by
 refine d_ (eH_ _ zaZ_) rfl e_ zt rfl λ_=>?_;refine A_ (aD_ (al_ rfl rfl) (yag_ Value.bool (pp_ _))) rfl λk h=>Zz 4 ?_
 exact dQ_):G:=h
theorem dQ_ {G:Prop} (h:G:=by
 exact W_ results78 () (n_ rfl (by unfold cD_;(repeat (any_goals split))<;>first|rfl|(simp_all;done)|(exfalso;simp_all;omega)|(exfalso;simp_all;done))) (.refl _) zt):G:=h
theorem tb_ (s:Str) (K:s.length<=17592186044414):Fn0 prog 78 #[str s] (.bool (cD_ s)):=by
 refine l_ func78 rfl rfl ntmps78 rfl λJ=>?_;refine Zz 8 ?_;refine c_ (cK_ L_ rfl) rfl (Zi 8 (λA=>?_) λA=>?_)
 .refine Zi 4 (λB=>?_) λB=>?_
  .refine Zi 8 (λy=>?_) λy=>?_
   .refine Zi 19 (λv=>?_) λv=>?_
    .refine Zz 21 ?_
     refine d_ (eH_ _ zaZ_) rfl e_ zt rfl λ_=>?_;refine A_ (aD_ (al_ rfl rfl) (yag_ Value.bool (pp_ _))) rfl λk o=>Zz 4 ?_
     exact dQ_
    exfalso;omega
   obtain⟨c,C⟩:∃ c,s[0]? = some c:=⟨_,yaa_ zaa_⟩;obtain⟨e,x⟩:∃ e,s[s.length - 1]? = some e:=⟨_,yaa_ zaa_⟩
   have G:(s[0]? = some 123)↔((c.toNat:Int)=123):=by
     rw[C];simp only[yai_];exact⟨λq=>by subst q;rfl,λq=>UInt8.toNat_inj.1 (by show c.toNat=123;omega)⟩
   have F:(s[s.length - 1]? = some 125)↔((e.toNat:Int)=125):=by
     rw[x];simp only[yai_];exact⟨λq=>by subst q;rfl,λq=>UInt8.toNat_inj.1 (by show e.toNat=125;omega)⟩
   have I:(s[0]? = some 60)↔((c.toNat:Int)=60):=by
     rw[C];simp only[yai_];exact⟨λq=>by subst q;rfl,λq=>UInt8.toNat_inj.1 (by show c.toNat=60;omega)⟩
   have H:(s[s.length - 1]? = some 62)↔((e.toNat:Int)=62):=by
     rw[x];simp only[yai_];exact⟨λq=>by subst q;rfl,λq=>UInt8.toNat_inj.1 (by show e.toNat=62;omega)⟩
   refine Zz 4 ?_;refine c_ (cr_ L_ rfl rfl zaj_ C) rfl (as_ rfl rfl ?_);refine Zi 0 (λv=>?_) λv=>?_
   .refine Zi 15 (λo=>?_) λo=>?_
    .refine Zz 21 ?_
     exact nA_
    refine Zz 4 ?_;refine c_ (cr_ L_ rfl rfl zaj_ C) rfl (as_ rfl rfl ?_);refine Zi 0 (λh=>?_) λh=>?_
    .refine Zz 17 ?_
     exact nz_
    refine Zz 9 ?_;refine c_ (cr_ L_ rfl rfl zaa_ (show s[((s.length:Int) - 1).toNat]? = some e by rw[show ((s.length:Int) - 1).toNat=s.length - 1 by omega];exact x)) rfl ?_;refine as_ rfl rfl ?_;refine Zi 0 (λd=>?_) λd=>?_
    .refine Zz 10 ?_
     exact ny_
    refine Zz 11 ?_;exact dQ_
   refine Zz 9 ?_;refine c_ (cr_ L_ rfl rfl zaa_ (show s[((s.length:Int) - 1).toNat]? = some e by rw[show ((s.length:Int) - 1).toNat=s.length - 1 by omega];exact x)) rfl ?_;refine as_ rfl rfl ?_;refine Zi 0 (λo=>?_) λo=>?_
   .refine Zi 8 (λh=>?_) λh=>?_
    .refine Zz 21 ?_
     exact nz_
    refine Zz 4 ?_;refine c_ (cr_ L_ rfl rfl zaj_ C) rfl (as_ rfl rfl ?_);refine Zi 0 (λd=>?_) λd=>?_
    .refine Zz 17 ?_
     exact ny_
    refine Zz 9 ?_;refine c_ (cr_ L_ rfl rfl zaa_ (show s[((s.length:Int) - 1).toNat]? = some e by rw[show ((s.length:Int) - 1).toNat=s.length - 1 by omega];exact x)) rfl ?_;refine as_ rfl rfl ?_;refine Zi 0 (λu=>?_) λu=>?_
    .refine Zz 10 ?_
     refine d_ (eH_ _ zaZ_) rfl e_ zt rfl λ_=>?_;refine A_ (aD_ (al_ rfl rfl) (yag_ Value.bool (pp_ _))) rfl λk E=>Zz 4 ?_
     exact dQ_
    refine Zz 11 ?_;exact dQ_
   refine Zz 10 ?_;refine c_ (fK_ (i:=1) (j:=s.length - 1) (kl:=.i64) (kh:=.i64) L_ rfl rfl (show _=some (i4_ ((s.length - 1:Nat):Int)) by rw[show ((s.length - 1:Nat):Int)=(s.length:Int) - 1 by omega];rfl) zaa_ zaa_) rfl ?_;exact nA_
  refine Zz 11 ?_;exact dQ_
 refine Zz 14 ?_;exact dQ_
theorem vY_ (S:List Str) (sad:Ao) (h:Nat) (E:∀ s∈S,s.length<=100000):Tri prog 38 #[.slice sad S.length h] [] [O_ sad (S.flatMap V_)] (λ_:Unit=>.bool (eO_ S)) (λ_=>[]) (λ_=>[]):=by
 refine l_ func38 rfl rfl ntmps38 rfl λG=>?_;refine Zi 10 (λA=>?_) λA=>?_
 .refine Zz 14 ?_
  refine Y_ (ι:={y:Nat // y<=List.length S/\ln_ S y (λ_ s=>cD_ s=true)}) (λy=>[(2,.bool false),(8,.slice sad S.length h),(9,i4_ (List.length S:Int)),(10,i4_ y.1)]) (λy=>([])) (λy=>[O_ sad (S.flatMap V_)]) (λy=>S.length - y.1) ⟨(0:Nat),by simp,ln_.zero⟩ zl e_ zh ?_;rintro ⟨i,B,v⟩;dsimp only at B v ⊢;refine Zi 2 (λx=>?_) λx=>?_
  .refine Zz 12 ?_
   exact W_ results38 () (n_ rfl (by unfold eO_;rw[ybn_.2 (v.all zaa_)];simp;omega)) e_ zt
  have d:i<S.length:=by omega
  obtain⟨u,o⟩:∃ C,S[i]? = some C:=⟨_,yaa_ d⟩;have e:u∈S:=yad_ o;refine Zz 18 ?_;refine U_ (tb_ u (by have:=E _ e;omega)) rfl e_ zt rfl λF k=>?_;refine c_ (aI_ rfl) rfl (Zz 2 ?_);cases F
  .refine Zz 7 ?_
   exact W_ results38 () (n_ rfl (by unfold eO_;symm;rw[ycG_];right;rw[ycC_];exact⟨u,e,by simpa using k⟩)) e_ zt
  refine Zz 8 ?_;exact w_ ⟨i+1,d,v.step o k⟩ zae_ zl e_ zh
 refine Zz 9 ?_;exact W_ results38 () (n_ rfl (by unfold eO_;symm;rw[ycG_];left;rw[ybr_];omega)) e_ zt
end Go.Proofs.YtbffkokbdeppaaaGreatDoor
namespace Go.Vs
open Go Go.Sx Go.Proofs.YtbffkokbdeppaaaGreatDoor
theorem rU_:∀ {l m:List Str},SrS l->SrS m->(∀ x,x∈l↔x∈m)->l=m
  | [],[],_,_,_=>rfl
  | [],y::m,_,_,h=>absurd ((h y).2 yaq_) zak_
  | x::l,[],_,_,h=>absurd ((h x).1 yaq_) zak_
  | x::l,y::m,h1,h2,h=>by
    unfold SrS at h1 h2;rw[yaX_]at h1 h2
    have e:x=y:=by
      grind[List.mem_cons_self]
    subst e;rw[rU_ h1.2 h2.2 λz=>?_]
    grind
abbrev cu_ (l:List Str):List Str:=l.mergeSort λx y=>decide (x<=y)
inductive Tre where
  | mk (con:Con) (size:Int) (ad:Ao) (cap:Nat) (parts:List Tre)
namespace Tre
def con:Tre->Con|mk c _ _ _ _=>c
def size:Tre->Int|mk _ n _ _ _=>n
def ad:Tre->Ao|mk _ _ a _ _=>a
def cap:Tre->Nat|mk _ _ _ c _=>c
def parts:Tre->List Tre|mk _ _ _ _ p=>p
def cells (t:Tre):List Value:=t.con.cells++[.int .i64 t.size,.slice t.ad t.parts.length t.cap]
def val (t:Tre):Value:=.agg t.cells.toArray
theorem cells_len (t:Tre):t.cells.length=7:=rfl
theorem cells_one (t:Tre):t.cells.all Value.oneCell'=true:=by simp[cells,Con.cells,Value.oneCell',str]
def tz:Tre->Nat
  | mk _ _ _ _ ps=>1+tzs ps
where tzs:List Tre->Nat
  | []=>0
  | p::ps=>tz p+tzs ps
theorem tz_pos (t:Tre):0<t.tz:=by cases t;grind[tz]
theorem yV_ {p:Tre}:∀ {ps:List Tre},p∈ps->p.tz<=tz.tzs ps
 | q::ps,h=>by
   rcases yar_.1 h with rfl|h
   . grind[tz.tzs]
   . have:=yV_ h;grind[tz.tzs]
theorem tz_part {t p:Tre} (h:p∈t.parts):p.tz<t.tz:=by
  cases t with
  | mk c n a cp ps=>have:=yV_ (ps:=ps) h;grind[tz]
def mem:Tre->Vw->Prop
  | mk c _ a _ ps,v=>c.mem v/\bW_ v a (ps.flatMap cells)/\mems ps v
where mems:List Tre->Vw->Prop
  | [],_=>True
  | p::ps,v=>mem p v/\mems ps v
theorem mems_iff {v:Vw}:∀ {ps:List Tre},mem.mems ps v↔∀ p∈ps,p.mem v
  | []=>by simp[mem.mems]
  | p::ps=>by simp[mem.mems,mems_iff (ps:=ps)]
theorem mem_iff (t:Tre) (v:Vw):t.mem v↔t.con.mem v/\bW_ v t.ad (t.parts.flatMap cells)/\∀ p∈t.parts,p.mem v:=by
  cases t<;>grind[mem,mems_iff,con,ad,parts]
theorem mem_mono:∀ (n:Nat) (t:Tre),t.tz<=n->∀ v d,v.le d->t.mem v->t.mem d
  | 0,t,h=>by grind[tz_pos]
  | n+1,t,h=>λv d hl hm=>by
    rw[mem_iff]at hm ⊢;exact⟨t.con.memF.mono v d hl hm.1,(O_ t.ad (t.parts.flatMap cells)).mono v d hl hm.2.1,λp e=>mem_mono n p (by have:=tz_part e;omega) v d hl (hm.2.2 p e)⟩
def memF (t:Tre):Fct:=⟨t.mem,mem_mono t.tz t (yab_ _)⟩
def wf:Tre->Prop
  | mk c n _ _ ps=>n=(c.sz:Int)/\c.parts=cons ps/\wfs ps
where
  wfs:List Tre->Prop
  | []=>True
  | p::ps=>wf p/\wfs ps
  cons:List Tre->List Con
  | []=>[]
  | p::ps=>p.con::cons ps
theorem ur_:∀ ps:List Tre,wf.cons ps=ps.map con
  | []=>rfl
  | p::ps=>by rw[wf.cons,ur_ ps];rfl
theorem vX_:∀ {ps:List Tre},wf.wfs ps↔∀ p∈ps,p.wf
  | []=>by simp[wf.wfs]
  | p::ps=>by simp[wf.wfs,vX_ (ps:=ps)]
theorem wf_iff (t:Tre):t.wf↔t.size=(t.con.sz:Int)/\t.con.parts=t.parts.map con/\∀ p∈t.parts,p.wf:=by
  cases t<;>grind[wf,vX_,ur_,con,size,parts]
theorem wf_part {t p:Tre} (h:t.wf) (d:p∈t.parts):p.wf/\p.con.sz<t.con.sz:=by
  obtain⟨_,k,e⟩:=(wf_iff t).1 h;exact⟨e p d,Con.sz_part zap_⟩
end Tre
def dA_ (l:List Tre):Fct:=⟨λv=>∀ t∈l,t.mem v,λv v' hl h t ht=>t.memF.mono v v' hl (h t ht)⟩
theorem kT_ {l:List Tre} {t:Tre} {v:Vw} (h:(dA_ l).p v) (e:t.memF.p v):(dA_ (l++[t])).p v:=λx d=>by
 rcases yaj_.1 d with d|d
 .exact h x d
 rw[yal_]at d;subst d;exact e
theorem szs_step {l:List Con} {i:Nat} {x:Con} (h:l[i]? = some x):Con.sz.szs (l.take (i+1))=Con.sz.szs (l.take i)+x.sz:=by
  have key:∀ (a b:List Con),Con.sz.szs (a++b)=Con.sz.szs a+Con.sz.szs b:=λa b=>by
    induction a<;>grind[Con.sz.szs]
  grind[List.take_add_one,Con.sz.szs]
theorem szs_take_le {l:List Con} (i:Nat):Con.sz.szs (l.take i)<=Con.sz.szs l:=by
  induction l generalizing i with
  | nil=>simp
  | cons c l ih =>
    cases i<;>grind[Con.sz.szs]
theorem szs_len:∀ l:List Con,l.length<=Con.sz.szs l
  | []=>yab_ _
  | c::l=>by have:=szs_len l;grind[Con.sz_pos,Con.sz.szs]
theorem Con.parts_lt (c:Con):c.parts.length<c.sz:=by grind[szs_len,sz_eq]
theorem sH_ {a b:List Con} {i:Nat} {x y:Con} (e:a[i]? = some x) (d:b[i]? = some y):Con.cmp.cmps (a.drop i) (b.drop i)=if Con.cmp x y=0 then Con.cmp.cmps (a.drop (i+1)) (b.drop (i+1)) else Con.cmp x y:=by
  grind[List.drop_eq_getElem_cons,Con.cmp.cmps]
theorem rA_ {a b:List Con} {i:Nat} (d:i<a.length) (e:b.length<=i):Con.cmp.cmps (a.drop i) (b.drop i)=1:=by
  grind[List.drop_eq_getElem_cons,List.drop_of_length_le,Con.cmp.cmps]
theorem pY_ {a b:List Con} {i:Nat} (d:a.length<=i) (e:i<b.length):Con.cmp.cmps (a.drop i) (b.drop i)=-1:=by
  grind[List.drop_eq_getElem_cons,List.drop_of_length_le,Con.cmp.cmps]
theorem uu_ {a b:List Con} {i:Nat} (d:a.length<=i) (e:b.length<=i):Con.cmp.cmps (a.drop i) (b.drop i)=0:=by
  grind[List.drop_of_length_le,Con.cmp.cmps]
theorem sI_ {a b:List Str} {i:Nat} {x y:Str} (e:a[i]? = some x) (d:b[i]? = some y):eh_ (a.drop i) (b.drop i)=if Lib.compareBytes x y=0 then eh_ (a.drop (i+1)) (b.drop (i+1)) else Lib.compareBytes x y:=by
  grind[List.drop_eq_getElem_cons,eh_]
theorem rF_ {a b:List Str} {i:Nat} (d:i<a.length) (e:b.length<=i):eh_ (a.drop i) (b.drop i)=1:=by
  grind[List.drop_eq_getElem_cons,List.drop_of_length_le,eh_]
theorem qc_ {a b:List Str} {i:Nat} (d:a.length<=i) (e:i<b.length):eh_ (a.drop i) (b.drop i)=-1:=by
  grind[List.drop_eq_getElem_cons,List.drop_of_length_le,eh_]
theorem uv_ {a b:List Str} {i:Nat} (d:a.length<=i) (e:b.length<=i):eh_ (a.drop i) (b.drop i)=0:=by
  grind[List.drop_of_length_le,eh_]
theorem oF_ (x:Int):orF [x]=x:=by grind[orF]
theorem ma_:∀ (l:List Int) (x:Int),orF (l++[x])=if orF l=0 then x else orF l
  | [],x=>by grind[orF]
  | y::l,x=>by
    rw[yaL_,orF,orF,ma_ l x]
    grind
theorem ed_ {l:List Int} {v x:Int} (d:v=orF l) (h:v=0):x=orF (l++[x]):=by grind[ma_]
theorem eR_ {l:List Int} {v x:Int} (d:v=orF l) (h:v≠0):v=orF (l++[x]):=by grind[ma_]
def hA_ (v n all fin:Int) (at':Prop):Prop:=(v≠0->n=v)/\(v=0->(n=0->all=fin/\at')/\(n≠0->all=n))
theorem pZ_ {a b:List Con} {i:Nat} (d:i<=a.length) (e:i<=b.length) (h:a.length<=i\/b.length<=i):Con.cmp.cmps (a.drop i) (b.drop i)=Lib.compareInt (a.length:Int) (b.length:Int):=by
  grind[Lib.compareInt,uu_,pY_,rA_]
theorem qd_ {a b:List Str} {i:Nat} (d:i<=a.length) (e:i<=b.length) (h:a.length<=i\/b.length<=i):eh_ (a.drop i) (b.drop i)=Lib.compareInt (a.length:Int) (b.length:Int):=by
  grind[Lib.compareInt,uv_,qc_,rF_]
theorem hA_.fin {v n all fin o:Int} {at':Prop} {l:List Int} (h:hA_ v n all fin at') (d:v=orF l) (u:n=0->v=0->at'->fin=o):(if n=0 then o else n)=(if v=0 then (if n=0 then o else n) else v)/\(v=0->(if n=0 then o else n)=all):=by
  obtain⟨k,e⟩:=h
  grind
theorem hA_.or {v n all fin o:Int} {at':Prop} {l:List Int} (h:hA_ v n all fin at') (d:v=orF l) (e:n=0->v=0->at'->fin=o):(if n=0 then o else n)=orF (l++[all]):=by
  obtain⟨u,k⟩:=h.fin d e
  grind[ma_]
theorem hA_.init {v all:Int} {at':Prop} (h:at'):hA_ v v all all at':=⟨λ_=>rfl,λd=>⟨λ_=>⟨rfl,h⟩,λq=>absurd d q⟩⟩
theorem hA_.step {v all fin d m:Int} {at' k:Prop} (h:hA_ v 0 all fin at') (e:fin=if m=0 then d else m) (x:at'->k):hA_ v m all d k:=by
  obtain⟨u,y⟩:=h;refine⟨λo=>absurd (u o).symm o,λo=>?_⟩
  grind
def wgL:List Con->Int
  | []=>0
  | c::l=>(if c.kind=0 then 0 else (c.sz:Int))+wgL l
def wgS:List Str->Int
  | []=>0
  | s::l=>(if s=[] then 0 else 1)+wgS l
theorem Bo_ (a b:List Con):wgL (a++b)=wgL a+wgL b:=by
  induction a<;>grind[wgL]
theorem Bn_ (a b:List Str):wgS (a++b)=wgS a+wgS b:=by
  induction a<;>grind[wgS]
theorem sZ_ {l:List Con} {i:Nat} {x:Con} (h:l[i]? = some x):wgL (l.take (i+1))=wgL (l.take i)+(if x.kind=0 then 0 else (x.sz:Int)):=by
  rw[yao_,h,Bo_];simp[wgL]
theorem sY_ {l:List Str} {i:Nat} {x:Str} (h:l[i]? = some x):wgS (l.take (i+1))=wgS (l.take i)+(if x=[] then 0 else 1):=by
  rw[yao_,h,Bn_];simp[wgS]
theorem wgL_bd {l:List Con} (h:∀ c∈l,c.sz<=1000000):0<=wgL l/\wgL l<=1000000*l.length:=by
  induction l<;>grind[wgL]
theorem wgS_bd (l:List Str):0<=wgS l/\wgS l<=l.length:=by
  induction l<;>grind[wgS]
theorem Ax.wgt_eq (x:Ax):x.wgt=wgL [x.left,x.right]+(x.roles.length:Int)+wgS [x.role,x.a,x.b]:=by
  grind[wgt,wgL,wgS]
theorem uB_ {x:Ax} {v:Vw} (h:x.memF.p v) {c:Con} (d:c∈[x.left,x.right]):c.memF.p v:=by
 simp only[yar_,yav_,ybg_]at d;rcases d with rfl|rfl
 .exact h.1
 exact h.2.1
theorem jS_ {x:Ax} (d:x.ok) (e:x.left.sz<=1000000) (k:x.right.sz<=1000000) {c:Con} (h:c∈[x.left,x.right]):c.ok/\c.sz<=1000000:=by
  grind[Ax.ok.left,Ax.ok.right]
theorem rD_ (c d:Con):Con.cmp c d=if orF [Lib.compareInt (c.sz:Int) (d.sz:Int),Lib.compareInt c.kind d.kind,Lib.compareBytes c.name d.name,Lib.compareInt c.lo d.lo,Lib.compareInt c.hi d.hi]=0 then Con.cmp.cmps c.parts d.parts else orF [Lib.compareInt (c.sz:Int) (d.sz:Int),Lib.compareInt c.kind d.kind,Lib.compareBytes c.name d.name,Lib.compareInt c.lo d.lo,Lib.compareInt c.hi d.hi]:=by
  grind[Con.cmp_eq,orF]
namespace Con
theorem core_parts (c:Con):c.core.parts=c.parts.map core:=by rw[core_eq];rfl
mutual
theorem ry_:∀ c:Con,c.core.core=c.core
  | mk k n l h a cp ps=>by rw[core,core,pX_ ps]
theorem pX_:∀ ps:List Con,core.cores (core.cores ps)=core.cores ps
  | []=>rfl
  | p::ps=>by rw[core.cores,core.cores,ry_ p,pX_ ps]
end
theorem tg_ (c:Con):c.core.sz=c.sz:=sz_core _ _ (ry_ c)
mutual
theorem qa_:∀ a b:Con,cmp a.core b.core=cmp a b
  | mk k n l h a cp ps,mk k' n' l' h' a' cp' ps'=>by
    rw[cmp_eq,cmp_eq,tg_,tg_];simp only[core,kind,name,lo,hi,parts];rw[rB_ ps ps']
theorem rB_:∀ a b:List Con,cmp.cmps (core.cores a) (core.cores b)=cmp.cmps a b
  | [],[]=>rfl
  | [],_::_=>rfl
  | _::_,[]=>rfl
  | x::xs,y::ys=>by rw[core.cores,core.cores,cmp.cmps,cmp.cmps,qa_ x y,rB_ xs ys]
end
theorem cmp_of {a e b d:Con} (h:a.core=e.core) (k:b.core=d.core):cmp a b=cmp e d:=by rw[<-qa_ a b,<-qa_ e d,h,k]
theorem cmp_lt {x y z:Con} (h:cmp x y<0) (d:cmp y z<0):cmp x z<0:=by
  have:=cmp_tr x y z
  grind[Tr3]
def SrC (l:List Con):Prop:=l.Pairwise λa b=>cmp a b<0
theorem SrC.ext:∀ {l m:List Con},SrC l->SrC m->(∀ z,z∈l.map Con.core↔z∈m.map Con.core)->l.map Con.core=m.map Con.core
  | [],[],_,_,_=>rfl
  | [],y::m,_,_,h=>by have:=(h y.core).2 zak_;grind
  | x::l,[],_,_,h=>by have:=(h x.core).1 zak_;grind
  | x::l,y::m,h1,h2,h=>by
    unfold SrC at h1 h2;rw[yaX_]at h1 h2;have u:∀ z∈l,cmp x z<0:=h1.1;have o:∀ z∈m,cmp y z<0:=h2.1
    have e:x.core=y.core:=by
      have v:=(h x.core).1 zak_;have k:=(h y.core).2 zak_
      grind[cmp_of,cmp_anti]
    have d:=SrC.ext (l:=l) (m:=m) h1.2 h2.2 (λz=>by
      grind[cmp_zero])
    grind
def hz_ (c:Con):List Con->List Con
  | []=>[c]
  | d::l=>if cmp c d<0 then c::d::l else if cmp c d=0 then d::l else d::hz_ c l
def srtC (l:List Con):List Con:=l.foldl (λs c=>hz_ c s) []
theorem pI_ {c:Con}:∀ {l:List Con} {z:Con},z∈hz_ c l->z=c\/z∈l
 | [],z,h=>by grind[hz_]
 | d::l,z,h=>by
   simp only[hz_]at h
   split at h
   . grind
   . split at h
     . grind
     . rcases yar_.1 h with rfl|h
       . simp
       . exact (pI_ h).imp id (yaN_ _)
theorem ub_ {c:Con}:∀ {l:List Con} {z:Con},z∈l->z∈hz_ c l
 | d::l,z,h=>by
   simp only[hz_]
   split
   . grind
   . split
     . exact h
     . rcases yar_.1 h with rfl|h
       . simp
       . exact yaN_ _ (ub_ h)
theorem uc_ {c:Con}:∀ {l:List Con},∃ z∈hz_ c l,z.core=c.core
 | []=>⟨c,by simp[hz_],rfl⟩
 | d::l=>by
   simp only[hz_]
   split
   . grind
   . split
     . grind[cmp_zero]
     . obtain⟨z,h,e⟩:=uc_ (c:=c) (l:=l)
       grind
theorem ua_ {c:Con}:∀ {l:List Con},SrC l->SrC (hz_ c l)
 | [],_=>by grind[SrC,hz_]
 | d::l,h=>by
   unfold SrC at h;rw[yaX_]at h;simp only[hz_]
   split
   . grind[SrC,List.pairwise_cons,cmp_lt]
   . split
     . grind[SrC,List.pairwise_cons]
     . rename_i e k
       unfold SrC;rw[yaX_];refine⟨λz o=>?_,ua_ (l:=l) h.2⟩
       grind[pI_,cmp_anti]
theorem lR_:∀ (l s:List Con),SrC s->SrC (l.foldl (λs c=>hz_ c s) s)/\(∀ z∈l.foldl (λs c=>hz_ c s) s,z∈s\/z∈l)/\(∀ z,z∈s\/z∈l->∃ t∈l.foldl (λs c=>hz_ c s) s,t.core=z.core)
 | [],s,h=>⟨h,λz d=>.inl d,λz d=>⟨z,d.elim id (λq=>by simp at q),rfl⟩⟩
 | x::l,s,h=>by
   obtain⟨k,o,v⟩:=lR_ l (hz_ x s) (ua_ h);refine⟨k,λz d=>?_,λz d=>?_⟩
   . grind[pI_]
   . rcases d with d|d
     . grind[ub_]
     . rcases yar_.1 d with rfl|d
       . obtain⟨t,u,e⟩:=uc_ (c:=z) (l:=s)
         grind
       grind
theorem srtC_srt (l:List Con):SrC (srtC l):=(lR_ l [] List.Pairwise.nil).1
theorem tj_ {l:List Con} {z:Con} (h:z∈srtC l):z∈l:=((lR_ l [] List.Pairwise.nil).2.1 z h).elim (λq=>by simp at q) id
theorem srtC_mem (l:List Con) (z:Con):z∈(srtC l).map core↔z∈l.map core:=by
 constructor
 .grind[tj_]
 intro h;obtain⟨t,k,rfl⟩:=yaM_.1 h;obtain⟨u,d,e⟩:=(lR_ l [] List.Pairwise.nil).2.2 t (.inr k);exact yaM_.2 ⟨u,d,e⟩
theorem srtC_uniq {l m:List Con} (h:SrC m) (hm:∀ z,z∈m.map core↔z∈l.map core):m.map core=(srtC l).map core:=by grind[SrC.ext,srtC_srt,srtC_mem]
def flat1 (c:Con):List Con:=if c.kind=1 then [] else if c.kind=5 then c.parts else [c]
def zeroC:Con:=mk 0 [] 0 0 none 0 []
def meetF (s:List Con):Con×Int :=
  match s.find? λc=>decide (c.kind=2) with
  | some b=>(b,0)
  | none =>
    match s with
    | []=>(mk 1 [] 0 0 none 0 [],0)
    | [x]=>(x,0)
    | _=>if 8<s.length then (zeroC,2) else (mk 5 [] 0 0 none 0 s,0)
def erF:List (Con×Int)->Int
  | []=>0
  | z::l=>if z.2≠0 then z.2 else erF l
def tdy:Con->Con×Int
  | mk k n lo hi a cp ps =>
    if k=6 then (match tdys ps with
      | z::_=>if z.2≠0\/z.1.kind=2 then z else (mk 6 n 0 0 none 0 [z.1],0)
      | []=>(zeroC,0))
    else if k=5 then (if erF (tdys ps)≠0 then (zeroC,erF (tdys ps)) else meetF (srtC ((tdys ps).flatMap λz=>flat1 z.1)))
    else (mk k n lo hi a cp ps,0)
where tdys:List Con->List (Con×Int)
  | []=>[]
  | p::ps=>tdy p::tdys ps
theorem tdys_map:∀ ps:List Con,tdy.tdys ps=ps.map tdy
  | []=>rfl
  | p::ps=>by rw[tdy.tdys,tdys_map ps];rfl
theorem rR_ (c : Con) : c.tdy = if c.kind = 6 then (match c.parts.map tdy with
      | z::_=>if z.2≠0\/z.1.kind=2 then z else (mk 6 c.name 0 0 none 0 [z.1],0)
      | []=>(zeroC,0))
    else if c.kind=5 then (if erF (c.parts.map tdy)≠0 then (zeroC,erF (c.parts.map tdy)) else meetF (srtC ((c.parts.map tdy).flatMap λz=>flat1 z.1)))
    else (c,0):=by
  cases c;rw[tdy,tdys_map];rfl
theorem tdy_some {c p:Con} (e:c.kind=6) (d:c.parts=[p]):c.tdy=if p.tdy.2≠0\/p.tdy.1.kind=2 then p.tdy else (mk 6 c.name 0 0 none 0 [p.tdy.1],0):=by
  grind[rR_]
theorem tdy_and {c:Con} (d:c.kind=5):c.tdy=if erF (c.parts.map tdy)≠0 then (zeroC,erF (c.parts.map tdy)) else meetF (srtC ((c.parts.map tdy).flatMap λz=>flat1 z.1)):=by
  grind[rR_]
theorem tdy_self {c:Con} (d:c.kind≠5) (e:c.kind≠6):c.tdy=(c,0):=by grind[rR_]
theorem wJ_ (c:Con):∀ l:List Con,sz.szs (hz_ c l)<=c.sz+sz.szs l
 | []=>by grind[hz_,sz.szs]
 | d::l=>by
   simp only[hz_]
   split
   . grind[sz.szs]
   . split
     . grind
     . have:=wJ_ c l;grind[sz.szs]
theorem szs_app:∀ xs ys:List Con,sz.szs (xs++ys)=sz.szs xs+sz.szs ys
  | [],ys=>by simp[sz.szs]
  | x::xs,ys=>by rw[yaL_,sz.szs,sz.szs,szs_app xs ys];omega
theorem BE_ (l:List Con):sz.szs (srtC l)<=sz.szs l:=by
  have key:∀ (l s:List Con),sz.szs (l.foldl (λs c=>hz_ c s) s)<=sz.szs s+sz.szs l:=by
    intro l
    induction l<;>grind[sz.szs,wJ_]
  grind[sz.szs,srtC]
theorem flat1_sz (c:Con):sz.szs (flat1 c)<=c.sz:=by
  grind[flat1,sz.szs,sz_eq]
theorem zV_ {s:List Con} (h:(meetF s).2=0):(meetF s).1.sz<=1+sz.szs s:=by
 unfold meetF at h ⊢
 split
 .rename_i b d
  have:=sz_mem (List.mem_of_find?_eq_some d)
  grind
 grind[sz,sz.szs]
theorem oR_:zeroC.sz=1:=rfl
mutual
theorem tdy_sz:∀ c:Con,c.tdy.1.sz<=c.sz
  | mk k n lo hi a cp ps=>by
    have h:=tdys_sz ps;rw[tdy]
    split
    . cases ps with
      | nil=>grind[tdy.tdys,oR_,sz]
      | cons p ps =>
        rw[tdy.tdys];dsimp only;have d:=tdy_sz p
        grind[sz,sz.szs]
    . split
      . split
        . grind[oR_,sz]
        . have d:=BE_ ((tdy.tdys ps).flatMap λz=>flat1 z.1)
          by_cases e:(meetF (srtC ((tdy.tdys ps).flatMap λz=>flat1 z.1))).2=0
          . grind[zV_,sz]
          . have:(meetF (srtC ((tdy.tdys ps).flatMap λz=>flat1 z.1))).1=zeroC:=by
              unfold meetF at e ⊢
              grind
            grind[oR_,sz]
      simp
theorem tdys_sz:∀ ps:List Con,sz.szs ((tdy.tdys ps).flatMap λz=>flat1 z.1)<=sz.szs ps
  | []=>by grind[tdy.tdys]
  | p::ps=>by
    rw[tdy.tdys,yaR_,szs_app];have d:=tdy_sz p;have e:=tdys_sz ps
    grind[flat1_sz,sz.szs]
end
end Con
def Ax.tdyE (x:Ax):Int :=
  if x.check≠0 then x.check
  else if (us x.kind).left=true/\x.left.tdy.2≠0 then x.left.tdy.2
  else if (us x.kind).right=true/\x.right.tdy.2≠0 then x.right.tdy.2
  else 0
def Ax.tdyL (x:Ax):Con:=if (us x.kind).left=true then x.left.tdy.1 else x.left
def Ax.tdyR (x:Ax):Con:=if (us x.kind).right=true then x.right.tdy.1 else x.right
def Ax.swp (x:Ax):Prop:=(x.kind=2\/x.kind=3)/\0<Con.cmp x.tdyL x.tdyR
instance (x:Ax):Decidable x.swp:=by unfold Ax.swp;infer_instance
structure TdyOf (x y:Ax):Prop where
  kind:y.kind=x.kind
  opn:y.opn=x.opn
  roles:y.roles=x.roles
  role:y.role=x.role
  a:y.a=x.a
  b:y.b=x.b
  left:y.left.core=if x.swp then x.tdyR.core else x.tdyL.core
  right:y.right.core=if x.swp then x.tdyL.core else x.tdyR.core
end Go.Vs
namespace Go.Proofs.YtbffkokbdeppaaaGreatDoor
open Go Go.Sx Go.Proofs Tryz
attribute [local irreducible] Code.wp wpList wpAnyH
open Go.Vs
theorem zH_ (l:List Ax) (ad:Ao) (cap:Nat) (d:l.length<=cap/\cap<=2199023255488) (k:∀ x∈l,x.ok) {p:List Pc} {er:Int} (e:aX_ l=(p,er)) :
    Tri prog 66 #[.slice ad l.length cap] [] [bA_ ad l,cy_] (λy:{y:Ao×Nat // p.length<=y.2/\y.2<=maxLen/\(y.1=none->y.2=0)}=>.tuple #[.slice y.1.1 p.length y.1.2,i4_ er]) (λ_=>[]) (λy=>[O_ y.1.1 (p.flatMap Pc.cells)]):=by
  have h:=zI_ l ad cap d k;generalize aX_ l=g at h e
  subst e;exact h
theorem xJ_ {l:List Ax} {p:List Pc} {er:Int} {S:List Str} (h:er≠0):kY_ l p er S=([],er):=yax_ h
theorem va_ {l:List Ax} {p:List Pc} {er:Int} {S:List Str} (h:¬ er≠0) (d:eO_ S=false):kY_ l p er S=([],1):=by unfold kY_;rw[yam_ h,yax_ d]
theorem xI_ {l:List Ax} {p:List Pc} {er:Int} {S:List Str} (h:¬ er≠0) (d:eO_ S=true):kY_ l p er S=(dE_ l p S l.length,0):=by unfold kY_;rw[yam_ h,yam_ (by rw[d];simp)]
theorem wQ_ {er:Int} (h:er=0):¬ er≠0:=λq=>q h
theorem nx_ {G:Prop} (h:G:=by
 obtain⟨rfl,rfl⟩:=ycX_ o;exact gN_ results33 ⟨(none,0),by simp[maxLen]⟩ rfl rfl rfl e_ (λv _ h=>by exact⟨.inl rfl,trivial⟩)):G:=h
theorem xg_ (u:List Ax) (lad:Ao) (lcap:Nat) (G:u.length<=lcap/\lcap<=2199023255488) (O:∀ x∈u,x.ok) (I:u.length<=100000000) (S:List Str) (sad:Ao) (d:Nat) (X:S.length<=100000000) (H:∀ s∈S,s.length<=100000) (p:List Pc) (er:Int) (P:aX_ u=(p,er)) (V:p.length<=100000000) (R:List Int) (e:Int) (Q:kY_ u p er S=(R,e)):Tri prog 33 #[.slice lad u.length lcap,.slice sad S.length d] [] [bA_ lad u,cy_,O_ sad (S.flatMap V_)] (λy:{y:Ao×Nat // R.length<=y.2/\y.2<=maxLen/\(y.1=none->y.2=0)}=>.tuple #[.slice y.1.1 R.length y.1.2,i4_ e]) (λ_=>[]) (λy=>[O_ y.1.1 (R.flatMap cS_)]):=by
 refine l_ func33 rfl rfl ntmps33 rfl λW=>?_;refine Zz 9 ?_;refine d_ (zH_ u lad lcap G O P) rfl e_ zf rfl λ⟨⟨ad,cap⟩,M,L,J⟩=>?_;dsimp only;refine Zi 11 (λk=>?_) λk=>?_
 .refine Zz 9 ?_
  refine U_ (vY_ S sad d H) rfl e_ zf rfl λK A=>c_ (aI_ rfl) rfl (Zz 2 ?_)
  cases K
  .refine Zz 8 ?_
   have o:=Q.symm.trans (va_ (wQ_ k) A);exact nx_
  refine Zz 8 ?_;refine d_ (rg_ u lad lcap p ad cap S sad d) rfl e_ zt rfl λ⟨bp,bs,U⟩=>?_;dsimp only;refine d_ (vJ_ u lad lcap p ad cap S sad d bp bs U V X I) rfl e_ zf rfl λ⟨⟨T,F⟩,E,B,C⟩=>?_;dsimp only;refine Zz 5 ?_;have o:=Q.symm.trans (xI_ (wQ_ k) A);obtain⟨rfl,rfl⟩:=ycX_ o;exact gN_ results33 ⟨(T,F),⟨E,B,C⟩⟩ rfl rfl rfl e_ zf
 refine Zz 11 ?_;have o:=Q.symm.trans (xJ_ k);exact nx_
end Go.Proofs.YtbffkokbdeppaaaGreatDoor
