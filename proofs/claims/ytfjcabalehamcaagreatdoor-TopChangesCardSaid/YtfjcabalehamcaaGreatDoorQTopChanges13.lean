/-
  Lemmas for the law TopChanges (no condition).
-/
import Derived.Test.YtfjcabalehamcaaGreatDoorQTopChanges12
import Derived.Test.YtfjcabalehamcaaGreatDoorProg
set_option linter.unusedVariables false
set_option linter.unusedSimpArgs false
set_option linter.unusedSectionVars false
set_option maxHeartbeats 1000000
namespace Go.Proofs.YtfjcabalehamcaaGreatDoor
open Go Go.Sx Go.Proofs Tryz
attribute [local irreducible] Code.wp wpList wpAnyH
open Go.Vs
theorem xf_ {N:Nf} {B:Vw} {y:Hp} {fr:Fr} {k:Act->World->Prop} {T:TypeId} {A:List Stp} {m F H:Hp} {Γ:List Fct} (E:H.Perm (m++F)) (C:mg_ T A m) (h:Ok N B y k fr F (bY_ A::Γ)):Ok N B y k fr H Γ :=
 kd_ m E (gS_ (λv _ x=>by
   rw[dP_]at x;refine⟨rf_ C λp d=>?_,x.2⟩
   have:∀ (l:Hp),Z_ (l.map λp=>cf_ p.1 p.2) v->∀ p∈l,v.im p.1/\v.w.heap[p.1]? = some p.2:=by
     intro l
     induction l with
     | nil=>intro _ p d;simp at d
     | cons a l ih =>
       intro hl p d;rcases yan_.1 d with rfl|d
       . exact hl.1
       . exact ih hl.2 p d
   exact this _ x.1 p zbg_) h)
theorem pf_asP {H A B C G:Hp} {b c:Nat×Obj} (h:H.Perm ((b::c::(A++(B++C)))++G)):H.Perm ((b::c::A)++B++(C++G)):=by simpa [yap_] using h
theorem pf_D {H B F:Hp} {l D:Nat} {r:Loop} (h:H.Perm (B++(HLp l D r++F))):H.Perm ((D,.deferred (some []))::(B++((l,.loop r)::F))):=by
  refine h.trans ?_;unfold HLp;have:B++([(l,Obj.loop r),(D,.deferred (some []))]++F)=(B++[(l,Obj.loop r)])++((D,.deferred (some []))::F):=by simp
  rw[this];refine ybM_.trans ?_;simp
theorem xl_ (us:List Stp) (m:Ao) (d:Nat):Tri prog 166 #[.slice m us.length d] [] [] (λb:Nat=>.func (.func 218) #[] #[zp_ b 0]) (λb=>[(b,.cells #[.slice m us.length d] 117 (0,0))]) (λ_=>[]):=by
  refine g_ func166 rfl rfl ntmps166 rfl λx=>?_;refine Zz 2 ?_;refine F_ rfl rfl λv=>Zz 5 ?_
  refine e_ (aR_ rfl rfl) rfl (Zz 4 ?_);exact ac_ results166 v rfl d_ zt
theorem zJ_ {us:List Stp} {L:List Int} {n:Nat} (h:NdL us L) (d:∀ (i:Nat) s,us[i]? = some s->∀ q∈s.frm,0<=q/\q<(i:Int)) (E:us.length<=n):L.length<=n:=by
  have v:L.Nodup:=h.dec.imp λB=>by omega
  have y:∀ x∈L,x∈(List.range us.length).map Int.ofNat:=λx C=>by
    obtain⟨m,e,A⟩:=h.nat x C;exact yas_.2 ⟨m,ybY_.2 (oG_ d A),e.symm⟩
  have:=ez_ v y;simp at this;omega
theorem jG_ {G:Prop} (h:G:=by
 refine H_ zs (l_ 12 rfl zk (am_ (news:=List.flatMap aY_ [(hF l A)]) kt_ a1 rfl rfl zp rfl (ba_ 0 rfl) (λu hu=>aG_ iu_ hu) zaB_ zap_ rfl λV Hr_4 hr_6=>?_));have hq_4:ad_ 3 1 V ((List.map (hF l) (d.frm.take j))++[(hF l A)]).length (List.flatMap aY_ ((List.map (hF l) (d.frm.take j))++[(hF l A)])) Hr_4:=by rw[yaj_,yaW_];exact hr_6
 refine Zz 2 ?_;refine H_ zs (s_ 1 [13,14] zk zs (S_ rfl (aE_ E aT_ bv_ rfl rfl zaa_ zaa_) rfl (Zz 2 ?_)));refine l_ 15 rfl zk (t_ (X_ (j_ d_) (X_ (j_ d_) (X_ (j_ d_) (X_ (j_ d_) (be_ (j_ d_)))))) ?_);obtain⟨K,J,hsvn_1⟩:=sp_ hq_4;subst hsvn_1;have hsvn:Value.slice K ((List.map (hF l) (d.frm.take j))++[(hF l A)]).length J=.slice K ((List.map (hF l) (d.frm.take j))++[(hF l A)]).length J:=rfl;refine cv_ (k:=(i:Int).toNat*9+8) E zp AK_ rfl rfl zaa_ rfl rfl λHr_5 hr_7=>?_;have hs_4:=(ek_ Stp.cells 9 Stp.cells_len (List.set C i (Stp.mk d.rule d.fact d.piece a0 a6 (List.map (hF l) (d.frm.take j)))) i 8 (Stp.mk d.rule d.fact d.piece a0 a6 (List.map (hF l) (d.frm.take j))) (Stp.mk d.rule d.fact d.piece K J ((List.map (hF l) (d.frm.take j))++[(hF l A)])) ((.slice K ((List.map (hF l) (d.frm.take j))++[(hF l A)]).length J)) hse zac_ rfl).trans (yah_ _ (List.set_set ..));have hq_5:ad_ 173 9 M (List.set C i (Stp.mk d.rule d.fact d.piece K J ((List.map (hF l) (d.frm.take j))++[(hF l A)]))).length (List.flatMap Stp.cells (List.set C i (Stp.mk d.rule d.fact d.piece K J ((List.map (hF l) (d.frm.take j))++[(hF l A)])))) Hr_5:=by rw[<-hs_4,show List.length (List.set C i (Stp.mk d.rule d.fact d.piece K J ((List.map (hF l) (d.frm.take j))++[(hF l A)])))=List.length (List.set C i (Stp.mk d.rule d.fact d.piece a0 a6 (List.map (hF l) (d.frm.take j)))) from (by rw[yaT_,yaT_])];exact hr_7
 refine Zz 2 ?_;refine H_ zs (Zz 2 ?_);exact bS_ ⟨(a2,(.slice K ((List.map (hF l) (d.frm.take j))++[(hF l A)]).length J),Hr_4,M,Hr_5,K,J),hq_4,hq_5,hsvn⟩ zl zp zf):G:=h
theorem trim_c (l:List Stp) (ad:Ao) (cap:Nat) (hl:l.length<=1000000) (hfl:∀ s∈l,s.frm.length<=1000000):Tri prog 102 #[.agg #[.slice ad l.length cap]] [] [L_ ad (l.flatMap Stp.cells),bY_ l] (λy:{y:List Stp×Ao×Nat×Int // (yA_ l->y.2.2.2=0/\TrimIs l y.1/\y.1.length<=100000000/\y.1.length<=y.2.2.1/\y.2.2.1<=maxLen/\(y.2.1=none->y.2.2.1=0))/\(¬ yA_ l->y.2.2.2=1/\y.1=[]/\y.2.1=none/\y.2.2.1=0)}=>.tuple #[.agg #[.slice y.1.2.1 y.1.1.length y.1.2.2.1],i4_ y.1.2.2.2]) (λ_=>[]) (λy=>[L_ y.1.2.1 (y.1.1.flatMap Stp.cells),bY_ y.1.1]):=by
 refine fA_ func102 rfl rfl ntmps102 rfl λv_1=>?_;refine Zz 2 ?_;refine F_ rfl rfl λb_1=>u_ oe_ rfl λH=>Zz 7 ?_
 refine f_ (vL_ l ad cap hl hfl) rfl i_ zf rfl λ⟨ec,hec,hec_1,hec_2⟩=>?_;dsimp only;refine Zi 6 (λhr_1=>?_) λhr_1=>?_
 .obtain⟨hne,hord⟩:=hec_1 hr_1
  refine Zz 7 ?_;refine aX_ rfl λa8=>Zz 8 ?_
  refine fn_ (n:=l.length) (by':=8) ok_ (z:=(i4_ 0)) zk rfl zac_ rfl rfl zaa_ zaj_ rfl λsvF HrF hrF=>?_;have hqF:ad_ 3 1 svF (fsI l 0).length (List.flatMap aY_ (fsI l 0)) HrF:=by rw[xS_];rw[ycb_,<-gH_ aY_];exact hrF
  refine Zz 3 ?_;refine t_ (X_ (j_ d_) (X_ (j_ d_) (be_ bg_))) (Zz 5 ?_);refine fn_ (n:=l.length) (by':=112) underlying117 (z:=(.agg #[i4_ 0,i4_ 0,str [],str [],str [],i4_ 0,i4_ 0,i4_ 0,.slice none 0 0])) zk rfl zac_ rfl rfl zaa_ zaj_ rfl λsvS HrS hrS=>?_;have hqS:ad_ 173 9 svS (List.replicate l.length Stp.zero).length (List.flatMap Stp.cells (List.replicate l.length Stp.zero)) HrS:=by rw[ycb_,<-gH_ Stp.cells];exact hrS
  refine Zz 4 ?_;refine t_ (X_ (j_ d_) (X_ (j_ d_) (be_ (j_ d_)))) (Zz 9 ?_);refine t_ (H':=([]:Hp)++((a8,.map #[] 0)::((H,.cells #[.slice none 0 0] 119 (0,0))::((b_1,.cells #[.slice ad l.length cap] 119 (0,0))::(HrS++HrF))))) (List.Perm.refl _) ?_;refine I_ (ι:={y:Nat×List Fc×List Int×Array MapEntry×Nat×List Stp×Hp×Value×Hp×Value×Hp // y.1<=List.length l/\IntE Fc.val y.2.2.2.1 y.2.1 y.2.2.1/\KnI l y.1 y.2.1 y.2.2.1/\TsI l y.2.2.2.2.2.1 y.1/\mg_ 3 y.2.2.2.2.2.1 y.2.2.2.2.2.2.1/\ad_ 3 1 y.2.2.2.2.2.2.2.1 (fsI l y.1).length (List.flatMap aY_ (fsI l y.1)) y.2.2.2.2.2.2.2.2.1/\ad_ 173 9 y.2.2.2.2.2.2.2.2.2.1 y.2.2.2.2.2.1.length (y.2.2.2.2.2.1.flatMap Stp.cells) y.2.2.2.2.2.2.2.2.2.2}) (λy=>[(2,zp_ H 0),(3,i4_ 0),(5,.map (some a8)),(6,y.1.2.2.2.2.2.2.2.1),(7,y.1.2.2.2.2.2.2.2.2.2.1),(37,.slice ad l.length cap),(38,i4_ (List.length l:Int)),(39,i4_ y.1.1)]) (λy=>((H,.cells #[.slice none 0 0] 119 (0,0))::((b_1,.cells #[.slice ad l.length cap] 119 (0,0))::((a8,.map y.1.2.2.2.1 y.1.2.2.2.2.1)::(y.1.2.2.2.2.2.2.1++(y.1.2.2.2.2.2.2.2.2.1++y.1.2.2.2.2.2.2.2.2.2.2)))))) (λy=>[L_ ad (l.flatMap Stp.cells),bY_ l]) (λy=>l.length - y.1.1) ⟨((0:Nat),[],[],#[],0,(List.replicate l.length Stp.zero),[],svF,HrF,svS,HrS),by simp,IntE.nil,KnI.nil l,TsI.zero l,oD_ _ _,hqF,hqS⟩ zl zp zh ?_;rintro ⟨⟨i,ks,vs,es,ck,C,HO,Z,H_F,M,H_S⟩,hi_i,hE,hk,ht,ho,Q,E⟩;dsimp only at hi_i hE hk ht ho Q E ⊢;refine Zi 2 (λhr_2=>?_) λhr_2=>?_
  .refine Zz 7 ?_
   have ei:i=l.length:=by omega
   subst ei;have hF_1:ad_ 3 1 Z (fsL l).length (List.flatMap aY_ (fsL l)) H_F:=by have q:=Q;rw[Ah_ l (yae_ _)]at q;exact q
   have hll:=ycj_.2 hne;obtain⟨xl,hxl⟩:∃ xl,l[List.length l - 1]? = some xl:=⟨_,yaa_ zaa_⟩;have hfl_1:=hD_ l;have hflast:(fsL l)[(Int.toNat ((List.length (fsL l):Int) - 1))]? = some (cr_ l xl:Int):=by rw[show (Int.toNat ((List.length (fsL l):Int) - 1))=l.length - 1 by omega];exact mn_ hxl
   refine Zz 3 ?_;refine e_ (bU_ hF_1 J_ rfl) rfl (Zz 1 ?_);refine e_ (aE_ hF_1 J_ K_ rfl rfl zaa_ zaa_) rfl (e_ (bA_ hF_1 zp au_ rfl (y_ bx_ hflast 0 _ rfl)) rfl (Zz 5 ?_));refine u_ cz_ rfl λP=>Zz 4 ?_
   refine aZ_ E (c_ (c_ (c_ (c_ (j_ bg_))))) λI G hsd_1 hcsd_1 hmsd_1 hzsd_1=>?_;subst hsd_1;have hxm:=yac_ hxl;have hla:=mm_ hxm;have htl:=ht.len;refine Zz 3 ?_;refine e_ (aj_ (bf_ rfl rfl rfl (bW_ zaa_ zaa_)) (show i4_ ((cr_ l xl:Int)+1)=i4_ ((cr_ l xl+1:Nat):Int) from yah_ _ zaa_)) rfl (e_ (aj_ (di_ (i:=0) (j:=(cr_ l xl+1:Nat)) (kl:=.i64) (kh:=.i64) aT_ bv_ rfl rfl rfl zaa_ (by have:=hcsd_1;omega)) (show _=Value.slice (sad I G 0 9) (List.length (List.take (cr_ l xl+1:Nat) C)) (G - 0) by rw[yat_,ybn_ zaa_];rfl)) rfl ?_);refine f_ (xl_ (List.take (cr_ l xl+1:Nat) C) (sad I G 0 9) (G - 0)) rfl i_ zt rfl λbN=>Zz 3 ?_
   have hord_1:=ht.ord hord;have hordu:∀ (n:Nat) t,(List.take (cr_ l xl+1) C)[n]? = some t->∀ q∈t.frm,0<=q/\q<(n:Int):=λn t h=>hord_1 n t (qz_ h)
   have hulen:List.length (List.take (cr_ l xl+1) C)=cr_ l xl+1:=by rw[yat_];omega
   have hneu:(List.take (cr_ l xl+1) C)≠[]:=λq=>by rw[q]at hulen;simp at hulen
   have hflu:=ht.fl hfl;refine dO_ (m_ d_ (G_ (c_ (c_ (c_ (c_ x_)))) (m_ d_ d_))) zh ?_;refine bh_ [(2,zp_ H 0),(7,.slice I C.length G),(13,zp_ P 0),(97,.func (.func 218) #[] #[zp_ bN 0])] zl ?_;refine mU_ (σ:={y:Value×Hp×List Int // ad_ 3 1 y.1 y.2.2.length (y.2.2.flatMap aY_) y.2.1}) (α:=Int) (xv:=λx=>i4_ x) (good:=λs _=>s.1.2.2.length<1000000000000) (nx:=λx s s'=>s'.1.2.2=s.1.2.2++[x]) (Rc:=λs=>NdL (List.take (cr_ l xl+1) C) s.1.2.2) (Γi:=[L_ (sad I G 0 9) (List.flatMap Stp.cells (List.take (cr_ l xl+1:Nat) C))]) (Hj:=λy=>(P,.cells #[y.1.1] 44 (0,0))::(H,.cells #[.slice none 0 0] 119 (0,0))::y.1.2.1) (Hc:=(bN,.cells #[.slice (sad I G 0 9) (List.length (List.take (cr_ l xl+1:Nat) C)) (G - 0)] 117 (0,0))::HO) (caps:=[zp_ bN 0]) ⟨(.slice none 0 0,[],[]),ad_.nil _ _⟩ rfl (.refl _) (λv _ h=>by exact⟨(bl_.slice Stp.cells_len h.1 hcsd_1 0 (cr_ l xl+1:Nat)),trivial⟩) ?_ ?_ ?_
   .rintro l_1 D rec hp hst hpe htt hasg hbody ⟨⟨sv,Hq,L⟩,hr⟩ x hx'
    dsimp only at hr hx' ⊢;refine lG_ (ι:=Unit) (Hj:=λy:{y:Value×Hp×List Int // ad_ 3 1 y.1 y.2.2.length (y.2.2.flatMap aY_) y.2.1}=>(P,.cells #[y.1.1] 44 (0,0))::(H,.cells #[.slice none 0 0] 119 (0,0))::y.1.2.1) (s:=⟨(sv,Hq,L),hr⟩) (ok:=λs'=>s'.1.2.2=L++[x]) (Γ:=[]) (λ_=>[(13,zp_ P 0),(14,i4_ x)]) (λ_=>(P,.cells #[sv] 44 (0,0))::(H,.cells #[.slice none 0 0] 119 (0,0))::Hq) hp hst hpe htt rfl ?_ ?_
    .intro n v_1 H_1 HL
     rw[hasg];dsimp only;refine ey_.2 (t_ (H':=(P,.cells #[sv] 44 (0,0))::(H,.cells #[.slice none 0 0] 119 (0,0))::(Hq++HL)) zai_ (ey_.1 ?_));refine bz_ ?_;refine bk_ (bo_ _) (bs_ rfl) rfl rfl ?_;refine cA_ ?_;refine du_ rfl ?_;exact eo_ () zl (F:=[]) zaC_ zh
    intro n v_1 H_1 HL _;rw[hbody];refine ey_.2 (t_ (H':=(P,.cells #[sv] 44 (0,0))::(H,.cells #[.slice none 0 0] 119 (0,0))::(Hq++HL)) zai_ (ey_.1 ?_));refine ht_ ?_;refine bz_ ?_;refine bk_ (bo_ _) (cc_ 0 isAgg44 rfl rfl rfl) rfl rfl ?_;refine bk_ (bo_ _) (aV_ rfl) rfl rfl ?_;refine oF_ (bo_ _) J_ K_ aN_ rfl rfl rfl rfl rfl rfl λa2=>?_;refine lM_ (bo_ _) (news:=List.flatMap aY_ [x]) kt_ hr rfl rfl zp rfl (ba_ 0 rfl) (λu hu=>aG_ iu_ hu) zaj_ zaa_ rfl λV N hr_1=>?_;have X:ad_ 3 1 V (L++[x]).length (List.flatMap aY_ (L++[x])) N:=by rw[yaj_,yaW_];exact hr_1
    refine rj_ (X_ (j_ d_) (X_ (j_ d_) (be_ (j_ d_)))) ?_;refine jf_ (bo_ _) 1 X AK_ rfl rfl rfl rfl ?_;refine cA_ ?_;refine du_ rfl ?_;exact mX_ ⟨(V,N,(L++[x])),X⟩ rfl (pf_asP (m_ (c_ d_) (m_ (c_ d_) (G_ (c_ x_) (G_ E_ d_)))))
   .intro l_1 Gj hY
    exact vp_ (lst:=λy:{y:Value×Hp×List Int // ad_ 3 1 y.1 y.2.2.length (y.2.2.flatMap aY_) y.2.1}=>y.1.2.2) (λs x h=>hY s x h) ⟨(.slice none 0 0,[],[]),ad_.nil _ _⟩ rfl (List.take (cr_ l xl+1) C) C (sad I G 0 9) (G - 0) bN HO hneu hordu (λn s h=>qz_ h) ho zaa_ (λs h=>hflu s (ybs_ h))
   rintro ⟨⟨sv,Hq,L⟩,hr⟩ hL D l_1 r';dsimp only at hL hr ⊢;refine rJ_ (t_ (H':=(bN,.cells #[.slice (sad I G 0 9) (List.length (List.take (cr_ l xl+1:Nat) C)) (G - 0)] 117 (0,0))::(HO++((P,.cells #[sv] 44 (0,0))::(H,.cells #[.slice none 0 0] 119 (0,0))::(Hq++HLp l_1 D r')))) zai_ ?_);have hLl:L.length<=100000000:=zJ_ hL hordu zaa_;refine bp_ rfl (t_ (X_ d_ (X_ (j_ d_) (be_ (j_ d_)))) (Zz 3 ?_));refine f_ (st_ L sv Hq hr zaa_) rfl zp zt rfl λ⟨HQ_1,hrv⟩=>?_;dsimp only;obtain⟨O,hO⟩:∃ O,O=List.reverse L:=⟨_,rfl⟩;rw[<-hO]at hrv;have hOi:O.Pairwise (·<·):=by rw[hO,List.pairwise_reverse];exact hL.dec
   have hOn:∀ x∈O,∃ n:Nat,x=n/\Nd (List.take (cr_ l xl+1) C) n:=λx hx=>hL.nat x (by rw[hO]at hx;simpa using hx)
   have hOa:∀ n,Nd (List.take (cr_ l xl+1) C) n->(n:Int)∈O:=λn hn=>by rw[hO];simpa using hL.all n hn
   have hO_1:∀ x∈O,0<=x:=λx hx=>by obtain⟨n,e,_⟩:=hOn x hx;omega
   have hOl:O.length<=100000000:=by rw[hO,List.length_reverse];exact hLl
   refine t_ (X_ (j_ d_) (X_ (j_ d_) (be_ (j_ d_)))) (Zz 6 ?_);refine fn_ (n:=C.length) (by':=8) ok_ (z:=(i4_ 0)) zk rfl zac_ rfl rfl zaa_ zaj_ rfl λsvP HrP hrP=>?_;have hqP:ad_ 3 1 svP (List.length (List.replicate C.length (0:Int))) (List.flatMap aY_ (List.replicate C.length (0:Int))) HrP:=by rw[ycb_,<-gH_ aY_];exact hrP
   refine Zz 4 ?_;refine t_ (X_ (j_ d_) (X_ (j_ d_) (be_ (j_ d_)))) (Zz 3 ?_);refine e_ (bU_ hrv J_ rfl) rfl (Zz 4 ?_);refine t_ (H':=([]:Hp)++((bN,.cells #[.slice (sad I G 0 9) (List.length (List.take (cr_ l xl+1:Nat) C)) (G - 0)] 117 (0,0))::((P,.cells #[sv] 44 (0,0))::((H,.cells #[.slice none 0 0] 119 (0,0))::(HrP++(HQ_1++(HO++(HLp l_1 D r')))))))) (List.Perm.refl _) ?_;refine I_ (ι:={y:Nat×List Int×List Stp×List Stp×Hp×Value×Hp×Value×Hp // y.1<=List.length O/\PlI C O y.1 y.2.1 y.2.2.1 y.2.2.2.1/\mg_ 3 y.2.2.1 y.2.2.2.2.1/\ad_ 3 1 y.2.2.2.2.2.1 y.2.1.length (y.2.1.flatMap aY_) y.2.2.2.2.2.2.1/\ad_ 173 9 y.2.2.2.2.2.2.2.1 y.2.2.2.1.length (y.2.2.2.1.flatMap Stp.cells) y.2.2.2.2.2.2.2.2}) (λy=>[(2,zp_ H 0),(7,.slice I C.length G),(15,y.1.2.2.2.2.2.1),(108,sv),(109,i4_ (List.length O:Int)),(110,i4_ y.1.1)]) (λy=>((P,.cells #[sv] 44 (0,0))::((H,.cells #[y.1.2.2.2.2.2.2.2.1] 119 (0,0))::(HQ_1++(y.1.2.2.2.2.1++((HLp l_1 D r')++(y.1.2.2.2.2.2.2.1++y.1.2.2.2.2.2.2.2.2))))))) (λy=>[L_ I (C.flatMap Stp.cells),L_ ad (l.flatMap Stp.cells),bY_ l]) (λy=>O.length - y.1.1) ⟨((0:Nat),(List.replicate C.length 0),C,[],HO,svP,HrP,(.slice none 0 0),[]),by simp,PlI.zero C O,by exact ho,hqP,(ad_.nil 173 9)⟩ zl zp zh ?_;rintro ⟨⟨k,pl,tk,Y,HO_k,sv_P,H_P,sv_Y,H_Y⟩,hi_k,hPl,ho_k,hr_P,hr_Y⟩;dsimp only at hi_k hPl ho_k hr_P hr_Y ⊢;refine Zi 2 (λa3=>?_) λa3=>?_
   .refine Zz 7 ?_
    have ek:k=O.length:=by omega
    subst ek;refine aZ_ hr_Y (c_ (c_ (j_ (j_ (j_ bg_))))) λyad ycap hyad hcyad hmyad hzyad=>?_;subst hyad;refine xf_ (c_ (c_ (j_ x_))) ho_k ?_;refine Zz 2 ?_;refine n_ 1 eu_ rfl rfl rfl rfl rfl rfl (Zz 4 ?_);have hT:=hPl.done ht hord hxl hOi hOn hOa;have hYl:=hPl.yl;exact retMF ⟨(Y,yad,ycap,0),(λ_=>⟨rfl,⟨O,hT⟩,by dsimp only;omega,hcyad,hmyad,hzyad⟩),λq=>absurd ⟨hne,hord⟩ q⟩ (λaa v h_1 h_2 _=>dS_ 0 results102 isAgg119 eu_ rfl rfl rfl rfl aa v h_1 h_2) (pf_D (B:=[_]) (m_ (c_ d_) (c_ (j_ x_)))) ⟨_,i_⟩ (λv _ h=>by exact⟨h.2.1,op_ h.1 (hPl.sub (yae_ _)),trivial⟩)
   obtain⟨R,d,W,a7⟩:=zge (show k<O.length by omega);obtain⟨n,e_x1,hnd⟩:=hOn d a7;subst e_x1;have hs1l:n<C.length:=by have q:=oG_ hordu hnd;omega
   have hls_1:n<C.length:=hs1l;obtain⟨m,a4⟩:∃ e_1,C[n]? = some e_1:=⟨_,yaa_ hls_1⟩;have hms_1:m∈C:=yac_ a4;have hU_1:(List.take (cr_ l xl+1) C)[n]? = some m:=by rw[yaM_ (by have q:=oG_ hordu hnd;omega)];exact a4
   have hpll:=hPl.pln;have hlw_1:n<pl.length:=by omega
   obtain⟨w_1,hw_1⟩:∃ e_1,pl[n]? = some e_1:=⟨_,yaa_ hlw_1⟩;have htn:=hPl.at hOi W a4;have hfs_1:=hflu m hms_1;refine Zz 11 ?_;refine e_ (aE_ hrv J_ K_ rfl rfl zaa_ zaa_) rfl (e_ (bA_ hrv zp au_ rfl (y_ bx_ W 0 _ rfl)) rfl (Zz 9 ?_));refine e_ (aE_ hr_P J_ K_ rfl rfl zaa_ zaa_) rfl (cv_ (k:=(n:Int).toNat*1+0) hr_P zp K_ rfl rfl zaa_ rfl rfl λN hr_2=>?_);have hs_2:=(ek_ aY_ 1 bx_ pl n 0 w_1 (k:Int) (i4_ k) hw_1 zac_ rfl).trans (yah_ _ (rfl));have X:ad_ 3 1 sv_P (List.length (List.set pl n (k:Int))) (List.flatMap aY_ (List.set pl n (k:Int))) N:=by rw[<-hs_2,show List.length (List.set pl n (k:Int))=pl.length from (yaT_ ..)];exact hr_2
   refine Zz 2 ?_;refine t_ (X_ (j_ d_) (be_ (j_ d_))) (Zz 6 ?_);refine u_ dV_ rfl λa2=>n_ 0 bv_ rfl rfl rfl rfl rfl rfl (Zz 4 ?_)
   obtain⟨Hs_1,Hr_2,hp_1,hp_2,hp_3⟩:=ho_k.get htn;refine t_ (List.Perm.trans (c_ (c_ (c_ (j_ (j_ x_))))) (hp_1.append_right _)) (t_ (ydz_ (yap_ ..)) ?_);have hW_1:ad_ 3 1 (.slice m.ad m.frm.length m.cap) (eW_ O m.frm 0).length (List.flatMap aY_ (eW_ O m.frm 0)) Hs_1:=by rw[vq_];exact hp_2
   refine t_ (X_ (j_ (j_ d_)) (X_ (j_ (j_ d_)) (be_ (j_ (j_ d_))))) (Zz 3 ?_);refine e_ (bU_ hW_1 J_ rfl) rfl (Zz 4 ?_);refine I_ (ι:={y:Nat×Value×Hp // y.1<=List.length m.frm/\y.2.1=.slice m.ad m.frm.length m.cap/\ad_ 3 1 y.2.1 (eW_ O m.frm y.1).length (List.flatMap aY_ (eW_ O m.frm y.1)) y.2.2}) (λy=>[(2,zp_ H 0),(7,.slice I C.length G),(15,sv_P),(108,sv),(109,i4_ (List.length O:Int)),(110,i4_ k),(18,zp_ a2 0),(124,y.1.2.1),(125,i4_ (List.length (eW_ O m.frm 0):Int)),(126,i4_ y.1.1)]) (λy=>((a2,.cells #[i4_ m.rule,i4_ (Fc.kind m.fact),str (Fc.a m.fact),str (Fc.b m.fact),str (Fc.r m.fact),i4_ (Fc.lo m.fact),i4_ (Fc.hi m.fact),i4_ m.piece,.slice m.ad m.frm.length m.cap] 173 (0,0))::((P,.cells #[sv] 44 (0,0))::((H,.cells #[sv_Y] 119 (0,0))::(Hr_2++(N++(HQ_1++((HLp l_1 D r')++(H_Y++y.1.2.2))))))))) (λy=>[L_ I (C.flatMap Stp.cells),L_ ad (l.flatMap Stp.cells),bY_ l]) (λy=>m.frm.length - y.1.1) ⟨((0:Nat),(.slice m.ad m.frm.length m.cap),Hs_1),by simp,rfl,hW_1⟩ zl zp zh ?_;rintro ⟨⟨j,sv_W,H_W⟩,hi_j,hsw,S⟩;dsimp only at hi_j hsw S ⊢;refine Zi 2 (λhr_4=>?_) λhr_4=>?_
   .refine Zz 6 ?_
    have hmj:=gT_ O m.frm 0;have hYk:=hPl.yl;have hor:ty_ 3 (Stp.mk m.rule m.fact m.piece m.ad m.cap (List.map (pix O) m.frm)) H_W:=by have q:=S;rw[hsw,xq_ O m.frm zaa_]at q;unfold ty_;simp only[yaO_]at q ⊢;exact q
    obtain⟨HO_1,ho_1,hpo⟩:=hp_3 (Stp.mk m.rule m.fact m.piece m.ad m.cap (List.map (pix O) m.frm)) H_W hor;refine t_ (List.Perm.trans (G_ (c_ (c_ (c_ (j_ (j_ (j_ (j_ bg_))))))) (c_ (c_ (c_ x_)))) (hpo.symm.append_right _)) (t_ (X_ (j_ d_) (X_ (j_ d_) (be_ (j_ d_)))) (Zz 4 ?_));refine M_ aT_ bv_ dV_ rfl rfl rfl rfl rfl rfl λb_6=>?_;refine am_ (news:=List.flatMap Stp.cells [m]) uk_ hr_Y rfl rfl zp rfl (ba_ 0 rfl) (λu hu=>aG_ Stp.cells_one hu) zaB_ zap_ rfl λV U a3=>?_;have a5:ad_ 173 9 V (Y++[m]).length (List.flatMap Stp.cells (Y++[m])) U:=by rw[yaj_,yaW_];exact a3
    refine Zz 1 ?_;refine t_ (X_ (j_ d_) (X_ (j_ d_) (X_ (j_ d_) (be_ (j_ d_))))) (dm_ 3 a5 wy_ rfl rfl rfl rfl (Zz 7 ?_));exact C_ ⟨(k+1,(List.set pl n (k:Int)),(List.set tk n (Stp.mk m.rule m.fact m.piece m.ad m.cap (List.map (pix O) m.frm))),(Y++[(Stp.mk m.rule m.fact m.piece m.ad m.cap (List.map (pix O) m.frm))]),HO_1,sv_P,N,V,U),R,hPl.step hOi hO_1 W a4,ho_1,X,(by have q:=a5;rw[show List.flatMap Stp.cells (Y++[m])=List.flatMap Stp.cells (Y++[(Stp.mk m.rule m.fact m.piece m.ad m.cap (List.map (pix O) m.frm))]) by rw[yaW_,yaW_];congr 1;simp[Stp.cells],show (Y++[m]).length=(Y++[(Stp.mk m.rule m.fact m.piece m.ad m.cap (List.map (pix O) m.frm))]).length by simp]at q;exact q)⟩ zab_ ⟨rfl,rfl,rfl,rfl,rfl,rfl,trivial⟩ (m_ (c_ (c_ d_)) (m_ (c_ (c_ d_)) (G_ (c_ (c_ (j_ (j_ (j_ x_))))) (G_ (c_ (c_ (j_ x_))) (G_ (c_ (c_ (j_ bg_))) (G_ (c_ (c_ bg_)) (c_ E_))))))) (λ_ _ h=>h)
   have hjl:j<m.frm.length:=by have q:=gT_ O m.frm 0;omega
   have hlx_2:j<m.frm.length:=hjl;obtain⟨A,T⟩:∃ e_1,m.frm[j]? = some e_1:=⟨_,yaa_ hlx_2⟩;have hmx_2:A∈m.frm:=yac_ T;have hmx:=xp_ (O:=O) T;have hlmx:j<List.length (eW_ O m.frm j):=by rw[gT_];exact hjl
   have hx2b:=hord_1 n m a4 A hmx_2;have ex_1:((Int.toNat A:Nat):Int)=A:=by omega
   have hmO:A∈O:=by have q:=hOa (Int.toNat A) (.step hnd hU_1 (by rw[ex_1];exact hmx_2));rwa [ex_1]at q
   have hpx:=hPl.place hOi W hs1l hmO hx2b.1 hx2b.2;have hlpx:=(yab_.1 hpx).1;refine Zz 11 ?_;refine e_ (aE_ S J_ K_ rfl rfl zaa_ zaa_) rfl (e_ (bA_ S zp au_ rfl (y_ bx_ hmx 0 _ rfl)) rfl (Zz 4 ?_));refine eg_ (ι:={y:Value×Hp // ad_ 3 1 y.1 (eW_ O m.frm (j+1)).length (List.flatMap aY_ (eW_ O m.frm (j+1))) y.2/\y.1=.slice m.ad m.frm.length m.cap}) (λy=>[(2,zp_ H 0),(7,.slice I C.length G),(15,sv_P),(108,sv),(109,i4_ (List.length O:Int)),(110,i4_ k),(18,zp_ a2 0),(124,y.1.1),(125,i4_ (List.length (eW_ O m.frm 0):Int)),(126,i4_ j)]) (λy=>((H,.cells #[sv_Y] 119 (0,0))::((P,.cells #[sv] 44 (0,0))::((a2,.cells #[i4_ m.rule,i4_ (Fc.kind m.fact),str (Fc.a m.fact),str (Fc.b m.fact),str (Fc.r m.fact),i4_ (Fc.lo m.fact),i4_ (Fc.hi m.fact),i4_ m.piece,.slice m.ad m.frm.length m.cap] 173 (0,0))::((HLp l_1 D r')++(N++(HQ_1++(y.1.2++(Hr_2++H_Y))))))))) (λy=>[L_ I (C.flatMap Stp.cells),L_ ad (l.flatMap Stp.cells),bY_ l]) ?_ ?_
   .refine V_ ((a2,.cells #[i4_ m.rule,i4_ (Fc.kind m.fact),str (Fc.a m.fact),str (Fc.b m.fact),str (Fc.r m.fact),i4_ (Fc.lo m.fact),i4_ (Fc.hi m.fact),i4_ m.piece,.slice m.ad m.frm.length m.cap] 173 (0,0))::((P,.cells #[sv] 44 (0,0))::((H,.cells #[sv_Y] 119 (0,0))::(Hr_2++(N++(HQ_1++((HLp l_1 D r')++H_Y))))))) zk ?_
    refine s_ 1 [0,1,2,3,4,5,6,7] zk zs (Zz 1 ?_);refine S_ rfl (aj_ (cc_ 0 isAgg44 rfl rfl rfl) (show _=sv_W from hsw.symm)) rfl (Zz 3 ?_);refine S_ rfl (aE_ X J_ K_ rfl rfl zaa_ zaa_) rfl (S_ rfl (bA_ X zp au_ rfl (y_ bx_ hpx 0 _ rfl)) rfl (S_ rfl (aE_ S J_ K_ rfl rfl zaa_ zaa_) rfl (bt_ (l_ 8 rfl zk (cv_ (k:=(j:Int).toNat*1+0) S zp K_ rfl rfl zaa_ rfl rfl λU hr_4=>?_)))));have hs_3:=(ek_ aY_ 1 bx_ (eW_ O m.frm j) j 0 A (pix O A) (i4_ (pix O A)) hmx zac_ rfl).trans (yah_ _ (xo_ T));have a5:ad_ 3 1 sv_W (eW_ O m.frm (j+1)).length (List.flatMap aY_ (eW_ O m.frm (j+1))) U:=by rw[<-hs_3,show List.length (eW_ O m.frm (j+1))=List.length (eW_ O m.frm j) from (by rw[gT_,gT_])];exact hr_4
    refine Zz 2 ?_;refine H_ zs (Zz 2 ?_);exact bS_ ⟨(sv_W,U),a5,hsw⟩ zl zp zf
   rintro ⟨⟨sv_W,H_W⟩,S,hsw⟩;dsimp only at S hsw ⊢;refine bh_ [(2,zp_ H 0),(7,.slice I C.length G),(15,sv_P),(108,sv),(109,i4_ (List.length O:Int)),(110,i4_ k),(18,zp_ a2 0),(124,sv_W),(125,i4_ (List.length (eW_ O m.frm 0):Int)),(126,i4_ j)] zl ?_;refine Zz 6 ?_;exact C_ ⟨(j+1,sv_W,H_W),hlx_2,hsw,S⟩ zab_ zl zp zh
  obtain⟨R,d,W,a7⟩:=zge (show i<l.length by omega);refine Zz 13 ?_;refine u_ dV_ rfl λP=>Zz 1 ?_
  refine n_ 0 bv_ rfl rfl rfl rfl rfl rfl (Zz 10 ?_);refine f_ (wM_ d.fact (i:Int) ks vs a8 es ck hE) rfl (c_ (c_ (c_ d_))) zt rfl λ⟨⟨⟨rc_1,rn_1⟩,er_1,cr_1⟩,hrc_1,hrm_1,hE_1⟩=>?_;dsimp only;simp only[yav_,ybC_];obtain⟨hk_1,e_rn⟩:=KnI.recR hk hE.len W hrm_1;subst e_rn;have hlw_1:i<List.length (fsI l i):=by rw[mo_ l hi_i];exact R
  obtain⟨w_1,hw_1⟩:∃ e_1,(fsI l i)[i]? = some e_1:=⟨_,yaa_ hlw_1⟩;refine Zz 3 ?_;refine e_ (aE_ Q J_ K_ rfl rfl zaa_ zaa_) rfl (cv_ (k:=(i:Int).toNat*1+0) Q zp K_ rfl rfl zaa_ rfl rfl λN a3=>?_);have a4:=(ek_ aY_ 1 bx_ (fsI l i) i 0 w_1 (cr_ l d:Int) (i4_ (cr_ l d:Int)) hw_1 zac_ rfl).trans (yah_ _ (Ag_ W));have X:ad_ 3 1 Z (fsI l (i+1)).length (List.flatMap aY_ (fsI l (i+1))) N:=by rw[<-a4,show List.length (fsI l (i+1))=List.length (fsI l i) from (by rw[mo_ l R,mo_ l hi_i])];exact a3
  refine Zz 2 ?_;refine t_ (X_ (j_ d_) (X_ (j_ d_) (X_ (j_ d_) (be_ (j_ d_))))) (bb_ ?_);have hlts:i<C.length:=by rw[ht.len];exact R
  obtain⟨t_1,ht_1⟩:∃ t_1,C[i]? = some t_1:=⟨_,yaa_ hlts⟩;refine Zz 4 ?_;refine e_ (aE_ E aT_ bv_ rfl rfl zaa_ zaa_) rfl (sD_ (k:=i*9) (us:=Stp.cells d) E zp bv_ rfl rfl zaa_ (Stp.cells_len _) zac_ (Stp.cells_one _) λHr_2 hr_4=>?_);have hs_2:=ui_ Stp.cells 9 Stp.cells_len C i d zaa_;have a5:ad_ 173 9 M (List.set C i d).length (List.flatMap Stp.cells (List.set C i d)) Hr_2:=by rw[yaT_,<-hs_2];exact hr_4
  refine Zz 2 ?_;refine t_ (X_ (j_ d_) (X_ (j_ d_) (X_ (j_ d_) (be_ (j_ d_))))) (bb_ ?_);have hse:(List.set C i d)[i]? = some d:=ybT_ hlts;have hsl:i<List.length (List.set C i d):=by rw[yaT_];exact hlts
  refine Zz 3 ?_;refine e_ (aE_ a5 aT_ bv_ rfl rfl zaa_ zaa_) rfl (Zz 1 ?_);refine cv_ (k:=(i:Int).toNat*9+8) a5 zp AK_ rfl rfl zaa_ rfl rfl λU hr_5=>?_;have hs_3:=(ek_ Stp.cells 9 Stp.cells_len (List.set C i d) i 8 d (Stp.mk d.rule d.fact d.piece none 0 []) (.slice none 0 0) hse zac_ rfl).trans (yah_ _ (List.set_set ..));have hq_3:ad_ 173 9 M (List.set C i (Stp.mk d.rule d.fact d.piece none 0 [])).length (List.flatMap Stp.cells (List.set C i (Stp.mk d.rule d.fact d.piece none 0 []))) U:=by rw[<-hs_3,show List.length (List.set C i (Stp.mk d.rule d.fact d.piece none 0 []))=List.length (List.set C i d) from (by rw[yaT_,yaT_])];exact hr_5
  refine Zz 2 ?_;refine t_ (X_ (j_ d_) (X_ (j_ d_) (X_ (j_ d_) (be_ (j_ d_))))) (Zz 9 ?_);refine t_ (H':=([]:Hp)++((a8,.map er_1 cr_1)::((P,.cells #[i4_ d.rule,i4_ (Fc.kind d.fact),str (Fc.a d.fact),str (Fc.b d.fact),str (Fc.r d.fact),i4_ (Fc.lo d.fact),i4_ (Fc.hi d.fact),i4_ d.piece,.slice d.ad d.frm.length d.cap] 173 (0,0))::((H,.cells #[.slice none 0 0] 119 (0,0))::((b_1,.cells #[.slice ad l.length cap] 119 (0,0))::(U++(N++HO))))))) (List.Perm.refl _) ?_;have hlx1f:=hfl d a7;refine I_ (ι:={y:Nat×Ao×Nat×Value×Hp×Value×Hp×Value×Hp // y.1<=List.length d.frm/\y.2.2.2.2.2.2.2.1=.slice y.2.1 (List.map (hF l) (d.frm.take y.1)).length y.2.2.1/\ad_ 3 1 y.2.2.2.1 (fsI l (i+1)).length (List.flatMap aY_ (fsI l (i+1))) y.2.2.2.2.1/\ad_ 173 9 y.2.2.2.2.2.1 (List.set C i (Stp.mk d.rule d.fact d.piece y.2.1 y.2.2.1 (List.map (hF l) (d.frm.take y.1)))).length (List.flatMap Stp.cells (List.set C i (Stp.mk d.rule d.fact d.piece y.2.1 y.2.2.1 (List.map (hF l) (d.frm.take y.1))))) y.2.2.2.2.2.2.1/\ad_ 3 1 y.2.2.2.2.2.2.2.1 (List.map (hF l) (d.frm.take y.1)).length (List.flatMap aY_ (List.map (hF l) (d.frm.take y.1))) y.2.2.2.2.2.2.2.2}) (λy=>[(2,zp_ H 0),(3,i4_ 0),(5,.map (some a8)),(6,y.1.2.2.2.1),(7,y.1.2.2.2.2.2.1),(37,.slice ad l.length cap),(38,i4_ (List.length l:Int)),(39,i4_ i),(8,i4_ i),(64,.slice d.ad d.frm.length d.cap),(65,i4_ (List.length d.frm:Int)),(66,i4_ y.1.1)]) (λy=>((a8,.map er_1 cr_1)::((P,.cells #[i4_ d.rule,i4_ (Fc.kind d.fact),str (Fc.a d.fact),str (Fc.b d.fact),str (Fc.r d.fact),i4_ (Fc.lo d.fact),i4_ (Fc.hi d.fact),i4_ d.piece,.slice d.ad d.frm.length d.cap] 173 (0,0))::((H,.cells #[.slice none 0 0] 119 (0,0))::((b_1,.cells #[.slice ad l.length cap] 119 (0,0))::(HO++(y.1.2.2.2.2.1++(y.1.2.2.2.2.2.2.1++y.1.2.2.2.2.2.2.2.2)))))))) (λy=>[L_ ad (l.flatMap Stp.cells),bY_ l]) (λy=>d.frm.length - y.1.1) ⟨((0:Nat),none,0,Z,N,M,U,(.slice none 0 0),[]),by simp,rfl,X,hq_3,(ad_.nil 3 1)⟩ zl zp zh ?_;rintro ⟨⟨j,a0,a6,Z,H_F,M,H_S,sv_R,H_R⟩,hi_j,hsv,Q,E,a1⟩;dsimp only at hi_j hsv Q E a1 ⊢;refine Zi 2 (λa3=>?_) λa3=>?_
  .refine Zz 6 ?_
   have e_2:List.take j d.frm=Stp.frm d:=yad_ zaa_;have hoR:ty_ 3 (Stp.mk d.rule d.fact d.piece a0 a6 (List.map (hF l) d.frm)) H_R:=by have q:=a1;rw[hsv]at q;rw[e_2]at q;exact q
   obtain⟨HO_1,ho_1,hpo⟩:=xa_ ho ht_1 (ht.rest i t_1 (yae_ _) ht_1) hoR;refine t_ (List.Perm.trans (G_ (c_ (c_ (c_ (c_ (j_ (j_ bg_)))))) (c_ (c_ (c_ (c_ x_))))) (hpo.append_right _)) (Zz 5 ?_);exact C_ ⟨(i+1,(if d.fact∈ks then ks else ks++[d.fact]),(if d.fact∈ks then vs else vs++[(i:Int)]),er_1,cr_1,(List.set C i (Stp.mk d.rule d.fact d.piece a0 a6 (List.map (hF l) d.frm))),HO_1,Z,H_F,M,H_S),R,hE_1,hk_1,ht.step W ⟨rfl,rfl,rfl,rfl⟩,ho_1,Q,(by have e_2:List.take j d.frm=Stp.frm d:=yad_ zaa_;rw[e_2]at E;exact E)⟩ zab_ zl (m_ (j_ (c_ (c_ d_))) (m_ (j_ (c_ (c_ d_))) (m_ (j_ d_) (G_ x_ (G_ (c_ x_) E_))))) zh
  obtain⟨hlx_2,A,T,hmx_2⟩:=zge (show j<d.frm.length by omega);refine Zz 10 ?_;refine e_ (Y_ J_ K_ rfl rfl (λv _ h=>az_ (n:=1) bx_ zac_ (by exact (h.2.1 d a7)) T) zaa_ zak_) rfl ?_;refine e_ (bN_ (ad:=d.ad) au_ rfl (λv _ h=>by exact (h.2.1 d a7)) (y_ bx_ T 0 _ rfl)) rfl (Zz 3 ?_);have hse:(List.set C i (Stp.mk d.rule d.fact d.piece a0 a6 (List.map (hF l) (d.frm.take j))))[i]? = some (Stp.mk d.rule d.fact d.piece a0 a6 (List.map (hF l) (d.frm.take j))):=ybT_ hlts;have hsl:i<List.length (List.set C i (Stp.mk d.rule d.fact d.piece a0 a6 (List.map (hF l) (d.frm.take j)))):=by rw[yaT_];exact hlts
  have hx2b:=hord i d W A hmx_2;have hx2n:Int.toNat A<i+1:=by omega
  have hw_2:=fsI_hF (l:=l) hx2n R;have hlw_2:Int.toNat A<List.length (fsI l (i+1)):=(yab_.1 hw_2).1;refine eg_ (ι:={y:Nat×Value×Hp×Value×Hp×Ao×Nat // ad_ 3 1 y.2.1 ((List.map (hF l) (d.frm.take j))++[(hF l A)]).length (List.flatMap aY_ ((List.map (hF l) (d.frm.take j))++[(hF l A)])) y.2.2.1/\ad_ 173 9 y.2.2.2.1 (List.set C i (Stp.mk d.rule d.fact d.piece y.2.2.2.2.2.1 y.2.2.2.2.2.2 ((List.map (hF l) (d.frm.take j))++[(hF l A)]))).length (List.flatMap Stp.cells (List.set C i (Stp.mk d.rule d.fact d.piece y.2.2.2.2.2.1 y.2.2.2.2.2.2 ((List.map (hF l) (d.frm.take j))++[(hF l A)])))) y.2.2.2.2.1/\y.2.1=.slice y.2.2.2.2.2.1 ((List.map (hF l) (d.frm.take j))++[hF l A]).length y.2.2.2.2.2.2}) (λy=>[(2,zp_ H 0),(3,i4_ 0),(5,.map (some a8)),(6,Z),(7,y.1.2.2.2.1),(37,.slice ad l.length cap),(38,i4_ (List.length l:Int)),(39,i4_ i),(8,i4_ i),(64,.slice d.ad d.frm.length d.cap),(65,i4_ (List.length d.frm:Int)),(66,i4_ j)]) (λy=>((b_1,.cells #[.slice ad l.length cap] 119 (0,0))::((H,.cells #[.slice none 0 0] 119 (0,0))::((a8,.map er_1 cr_1)::((P,.cells #[i4_ d.rule,i4_ (Fc.kind d.fact),str (Fc.a d.fact),str (Fc.b d.fact),str (Fc.r d.fact),i4_ (Fc.lo d.fact),i4_ (Fc.hi d.fact),i4_ d.piece,.slice d.ad d.frm.length d.cap] 173 (0,0))::((y.1.1,.cells #[i4_ (hF l A)] 3 (0,0))::(H_F++(HO++(y.1.2.2.1++y.1.2.2.2.2.1))))))))) (λy=>[L_ ad (l.flatMap Stp.cells),bY_ l]) ?_ ?_
  .refine V_ ((a8,.map er_1 cr_1)::((P,.cells #[i4_ d.rule,i4_ (Fc.kind d.fact),str (Fc.a d.fact),str (Fc.b d.fact),str (Fc.r d.fact),i4_ (Fc.lo d.fact),i4_ (Fc.hi d.fact),i4_ d.piece,.slice d.ad d.frm.length d.cap] 173 (0,0))::((H,.cells #[.slice none 0 0] 119 (0,0))::((b_1,.cells #[.slice ad l.length cap] 119 (0,0))::(HO++H_F))))) zk ?_
   refine s_ 6 [0,1,2,3,4,5,7,8,9,10] zk zs (Zz 4 ?_);refine S_ rfl (aE_ E aT_ bv_ rfl rfl zaa_ zaa_) rfl (Zz 3 ?_);refine S_ rfl (aE_ Q J_ K_ rfl rfl zaa_ zaa_) rfl (S_ rfl (bA_ Q zp au_ rfl (y_ bx_ hw_2 0 _ rfl)) rfl (bt_ ?_));refine do_ 6 11 rfl rfl zk ?_ ?_
   .refine e_ (aj_ (bA_ E zp isAgg44 rfl (y_ Stp.cells_len hse 8 _ rfl)) (show _=sv_R from hsv.symm)) rfl (Zz 3 ?_)
    refine l_ 11 rfl zk (M_ J_ K_ aN_ rfl rfl rfl rfl rfl rfl λa2=>Zz 2 ?_);exact jG_
   refine M_ J_ K_ aN_ rfl rfl rfl rfl rfl rfl λa2=>Zz 2 ?_
   refine H_ zs (l_ 6 rfl zk (e_ (aj_ (bA_ E zp isAgg44 rfl (y_ Stp.cells_len hse 8 _ rfl)) (show _=sv_R from hsv.symm)) rfl (Zz 2 ?_)));exact jG_
  rintro ⟨⟨z16_11,sv_R,H_R,M,H_S,K,J⟩,a1,E,hsvn⟩;dsimp only at a1 E hsvn ⊢;refine bh_ [(2,zp_ H 0),(3,i4_ 0),(5,.map (some a8)),(6,Z),(7,M),(37,.slice ad l.length cap),(38,i4_ (List.length l:Int)),(39,i4_ i),(8,i4_ i),(64,.slice d.ad d.frm.length d.cap),(65,i4_ (List.length d.frm:Int)),(66,i4_ j)] zl ?_;refine Zz 6 ?_;exact C_ ⟨(j+1,K,J,Z,H_F,M,H_S,sv_R,H_R),hlx_2,(by rw[dr_ T];exact hsvn),Q,(by rw[dr_ T];exact E),(by rw[dr_ T];exact a1)⟩ zab_ zl zp zh
 refine Zz 5 ?_;refine e_ (w_ tM_ rfl rfl) rfl (Zz 1 ?_);refine n_ 0 eu_ rfl rfl rfl rfl rfl rfl (Zz 4 ?_);exact retM ⟨([],none,0,ec),(λq=>absurd (hec_2 q) hr_1),λ_=>⟨hec.resolve_left hr_1,rfl,rfl,rfl⟩⟩ (λaa v h_1 h_2 _=>dS_ 0 results102 isAgg119 eu_ rfl rfl rfl rfl aa v h_1 h_2) i_ (λv _ h=>by exact⟨.inl rfl,kF_,trivial⟩)
theorem xj_ {v:Vw} {m:Hp} (h:Z_ (m.reverse.map λp=>cf_ p.1 p.2) v):∀ p∈m,v.im p.1/\v.w.heap[p.1]? = some p.2:=by
 have:∀ (l:Hp),Z_ (l.map λp=>cf_ p.1 p.2) v->∀ p∈l,v.im p.1/\v.w.heap[p.1]? = some p.2:=by
   intro l
   induction l with
   | nil=>intro _ p d;simp at d
   | cons a l ih =>
     intro hl p d;rcases yan_.1 d with rfl|d
     . exact hl.1
     . exact ih hl.2 p d
 exact λp d=>this _ h p zbg_
theorem zX_ (f:Fc) (y:f=Q_ f.a f.b) (B:f.a≠[]) (F:f.b≠[]):Fn0 prog 98 #[Fc.val f] (.bool true):=by
 refine g_ func98 rfl rfl ntmps98 rfl λA=>?_;refine Zz 2 ?_;refine F_ rfl rfl λC=>Zi 8 (λx=>?_) λx=>?_
 .refine Zi 15 (λd=>?_) λd=>?_
  .exfalso;rw[y]at d;simp[Q_]at d
  refine Zz 6 ?_;refine s_ 9 [0,1,2,3] zk zs (Zi 2 (λv=>?_) λv=>?_)
  .exact absurd zae_ F
  refine Zz 2 ?_;refine s_ 4 [4,5,6,7,8] zk zs (Zz 6 ?_);refine l_ 9 rfl zk (aP_ rfl rfl (f_ (mN_ f.a f.b) rfl i_ zt rfl λ_=>Zz 3 ?_));refine s_ 0 [10,11,12] zk zs (dq_ rfl rfl rfl (cL_ (p:=f) (q:=(Q_ f.a f.b)) rfl rfl) rfl λE m=>Zz 6 ?_);exact ac_ results98 () (p_ rfl (by rw[<-m];exact yaE_ y)) i_ zt
 exact absurd zae_ B
theorem Ak_ (p:List Pc) (pad:Ao) (pcap:Nat) (f:Fc) (bu:Int) (hsm:∀ x∈p,x.sm) (h14:p.length<=14) (Q:∀ z∈p,z.kind=1) (hc1:∀ x∈p,x.c∈atS p) (hf:f=Q_ f.a f.b) (ha:f.a≠[]) (hb:f.b≠[]) (hA0:∀ c e,cC_ p bu c e->e=0/\ob_ c.facts f=true) (hch:∀ S:Fc->Prop,(∀ a∈atS p,S (Q_ a a))->(∀ x∈p,∀ a,S (Q_ a x.a)->S (Q_ a x.c))->S f):Tri prog 47 #[.slice pad p.length pcap,Fc.val f,i4_ bu] [] [L_ pad (p.flatMap Pc.cells),dA_] (λy:{y:List Stp×Ao×Nat // PrfL p (atS p) f y.1/\y.1.length<=65536/\y.1.length<=y.2.2/\y.2.2<=maxLen/\(y.2.1=none->y.2.2=0)}=>.tuple #[.agg #[.slice y.1.2.1 y.1.1.length y.1.2.2],i4_ 0]) (λ_=>[]) (λy=>[L_ y.1.2.1 (y.1.1.flatMap Stp.cells),bY_ y.1.1]):=by
 refine g_ func47 rfl rfl ntmps47 rfl λv_1=>?_;refine Zz 2 ?_;refine F_ rfl rfl λb_1=>u_ oe_ rfl λb_2=>Zz 7 ?_
 refine f_ (zX_ f hf ha hb) rfl i_ zt rfl λ_=>e_ (aH_ rfl) rfl (Zz 9 ?_)
 refine f_ (us_ p pad pcap bu hsm zaa_) rfl i_ zf rfl λ⟨⟨d,e_1⟩,m⟩=>?_;dsimp only;dsimp only at m;have hcl_1:=m.len;obtain⟨E,W⟩:=hA0 d e_1 m;have A:Cl.atoms d=atS p:=(E▸m).good.2.2.2.2.1;refine Zz 3 ?_;refine u_ gk_ rfl λb_3=>n_ 0 aW_ rfl rfl rfl rfl rfl rfl (Zi 7 (λC=>?_) λC=>?_)
 .have hB:∀ l,Eng p d.atoms l->l.length<=65536:=λl hl=>hl.len (by rw[A];exact hc1) (by rw[A];have:=qf_ p;omega)
  refine Zz 10 ?_;refine aa_ (AS_ d f zaa_) rfl i_ zf rfl λr_1 G=>e_ (aH_ rfl) rfl (Zz 2 ?_)
  cases r_1
  .rw[W]at G;cases G
  refine Zz 6 ?_;refine f_ (py_ p Q pad pcap zaa_) rfl i_ zf rfl λ⟨⟨B,fm,Hpm⟩,⟨N,R⟩,K,U⟩=>?_;dsimp only;dsimp only at N R K U;subst K;subst U;dsimp only[PNew.own];obtain⟨J,I⟩:=cs_.lent (P:=prog) (kt:=245) is_ R;refine kd_ Hpm (c_ (c_ (c_ (c_ (c_ (c_ (c_ (c_ x_)))))))) (gS_ (Γ':=mlF prog 245 Ky.val aY_ B.pb fm J::[L_ d.aad (d.atoms.flatMap ar_),L_ d.fad (d.facts.flatMap Fc.cells),L_ B.pad (p.flatMap Pc.cells),dA_]) (λv _ hv=>?_) ?_)
  .rw[dP_]at hv
   exact⟨I v (xj_ hv.1),hv.2⟩
  refine Zz 7 ?_;refine e_ (cc_ 8 isAgg34 rfl rfl rfl) rfl (f_ (vA_ B p d.atoms d.aad d.acap fm J Q N zaa_ ⟨.slice none 0 0,#[],0,[]⟩ ⟨ad_.nil _ _,IntE.nil⟩ hB zaa_ [(B.ab,.map #[] 0)] (cs_.nil _ _)) rfl zp (λv _ h=>by exact⟨kF_,h.2.2.2.1,h.1,h.2.1,trivial⟩) rfl λ⟨⟨l,z,hz⟩,hS,hL⟩=>?_);dsimp only;simp only[yav_,yap_,ybC_];dsimp only at hS hL;have T:f∈fcs l:=hL.done (by rw[A];exact hch);refine Zz 2 ?_;refine t_ (X_ d_ (X_ d_ (X_ (j_ (j_ d_)) (X_ (j_ (j_ d_)) (X_ (j_ (j_ d_)) (X_ (j_ (j_ d_)) (X_ (j_ (j_ d_)) (X_ (j_ (j_ d_)) (X_ (j_ (j_ d_)) (be_ (j_ bg_))))))))))) (Zz 3 ?_);refine e_ (cZ_ 9 cp_ N_ rfl rfl rfl) rfl (f_ (rT_ B p d.atoms f l z.sv z.es z.c z.h hS.1 hS.2 hL.eng hB T) rfl zp zf rfl λ⟨⟨L,lad,lcap⟩,H,hLl,hLc,hLm,hLz⟩=>?_);dsimp only;dsimp only at H hLl hLc hLm hLz;rw[A]at H;have hl_1:=hB l hL.eng;have hLo:yA_ L:=⟨zu_ H,qV_ H⟩;refine e_ (w_ tM_ rfl rfl) rfl ?_;refine f_ (trim_c L lad lcap zaa_ (λs hs=>by obtain⟨i,hi⟩:=yaU_ hs;exact ybv_ (H.cor i s hi).two zac_)) rfl i_ zf rfl λ⟨⟨Y,yad,M,yE⟩,F,Z⟩=>?_;dsimp only;dsimp only at F Z;obtain⟨X,⟨O,V⟩,hYl,hYc,hYm,hYz⟩:=F hLo;have hYL:=wi_ V;subst X;refine Zz 2 ?_;refine n_ 6 eu_ rfl rfl rfl rfl rfl rfl (Zz 4 ?_);exact retG ⟨(Y,yad,M),uE_ H V,by dsimp only;omega,hYc,hYm,hYz⟩ (λaa v h_1 h_2 _=>dS_ 6 results47 isAgg119 eu_ rfl rfl rfl rfl aa v h_1 h_2) i_ zf
 exact absurd E C
theorem known_at {p:List Pc} {s:Str} (h:dU_ p s=true):s∈atS p:=by
 unfold dU_ at h;simp only[ybK_,ybo_]at h;rcases h with rfl|rfl|h
 .exact AB_ p
 .exact AC_ p
 obtain⟨x,d,h⟩:=ycl_.1 h;simp only[yaS_,ybK_,ybo_]at h;exact at_of d (by rcases h.2 with q|q|q;exact .inl q.symm;exact .inr (.inl q.symm);exact .inr (.inr q.symm)) h.1
theorem fcs_at {l:List Stp} {j k:Nat} {s:Stp} (d:k<j) (m:l[k]? = some s):(fcs (l.take j)).getD k zfc=s.fact:=by
  have e:(fcs (l.take j))[k]? = some s.fact:=by
    unfold fcs;rw[yaH_,yaM_ d,m];rfl
  simp[List.getD,e]
theorem goal_z (x:Ax) (v:x.ok) {p:List Pc} {m:List Fc} {er:Int} (e:x.goalP=(p,m,er)) :
    Tri prog 46 #[x.val] [] [x.memF,bB_] (λy:{y:Ao×Nat×Ao×Nat // p.length<=y.2.1/\y.2.1<=maxLen/\m.length<=y.2.2.2/\y.2.2.2<=maxLen/\(y.1=none->y.2.1=0)}=>.tuple #[.slice y.1.1 p.length y.1.2.1,.slice y.1.2.2.1 m.length y.1.2.2.2,i4_ er])
    (λ_=>[]) (λy=>[L_ y.1.1 (p.flatMap Pc.cells),L_ y.1.2.2.1 (m.flatMap Fc.cells)]):=by
  have h:=goal_c x v;generalize x.goalP=g at h e
  subst e;exact h
theorem Ad_ {x:Ax} (C:x.ok) {q:List Pc} {F:List Fc} {I:Int} (B:x.goalP=(q,F,I)):q.length<=2000/\(∀ z∈q,z.sm)/\(I=0->x.check=0/\1<=F.length):=by
 by_cases A:x.check=0
 .have S:=uM_ C A
  have m:=S.len;have v:=S.sm;rw[B]at m v;refine⟨m,v,λG=>⟨A,?_⟩⟩
  by_cases E:x.kind=5\/x.kind=6\/x.kind=7
  .have e:=S.role E
   rw[B,ybD_,ybD_]at e;omega
  have y:=(S.rest E).2.2.1;rw[B]at y;exact y
 have e:=xQ_ A;rw[B,ybD_,ybD_]at e;obtain⟨rfl,rfl,rfl⟩:=e;exact⟨by simp,by simp,λG=>absurd G A⟩
section
variable {P:Program} {N:Nf} {v0:Vw} {H0:Hp} {R:Exit->Act->World->Prop} {K:List Kt} {fr:Fr} {H F:Hp} {Γ:List Fct} {ops:Array Oper} {l:List Oper} {d:Nat} {ty:TypeId} {ps:String} {af:Array Edge} {e:TypeId} {sz n:Nat}
theorem pt_ {t:TypeId} {x y:Operand} {by':Nat} {z:Value} {m:Int} (J:P.underlying t=some (.slice e)) (hi:(P.info? e).map (λi=>(i.zero,i.size,i.bytes))=some (some z,sz,by')) (A:z.cells.toList.length=sz) (Q:0<sz) (L:Fr.ev fr x=some (i4_ 0)) (I:Fr.ev fr y=some (i4_ m)) (hm:m=(n:Int))
    (S:by'*n<=281474976710656) (C:n<=maxLen) (O:Nat.blt d N.n=true)
    (M:∀ sv Hr,ad_ e sz sv 0 [] Hr->Ops P R N v0 H0 ops l K ((d,sv)::fr) (Hr++H) Γ):Ops P R N v0 H0 ops (⟨some d,.makeSlice t x y,ty,ps,af,none⟩::l) K fr H Γ:=by
  subst hm;refine fd_ (x:=λb=>.slice (some ⟨b,0,none⟩) 0 n) (o:=.cells (hi_ z.cells.toList n).toArray e (0,0)) O (λa v B _ _=>?_) (λb=>M _ [(b,.cells (hi_ z.cells.toList n).toArray e (0,0))] ⟨by simp,.inr ⟨b,n,(hi_ z.cells.toList n).toArray,rfl,rfl,ycg_ _,C,?_,by simp⟩⟩)
  . cases h:P.info? e with
    | none=>rw[h]at hi;cases hi
    | some i =>
      rw[h]at hi;simp only[yaX_,yam_,ybD_]at hi
      have E:(i.bytes:Int)*(n:Int)<=281474976710656:=by
        rw[hi.2.2];have h:((by'*n:Nat):Int)<=281474976710656:=by omega
        rwa [ydy_]at h
      have G:=run_make (P:=P) v.w t e i z J h hi.1 .i64 .i64 (0:Int) (n:Int) zaa_ zaa_ E (by simp only[maxLen]at C;omega);have hm:=rs_ z.cells.toList zaa_ n;rw[A,ycG_]at hm;rw[hi.2.1,ybw_,hm]at G;simp only[execOp,B.ev L,B.ev I];simp[G]
  . simp only[ybF_];rw[gI_,A]
end
end Go.Proofs.YtfjcabalehamcaaGreatDoor
namespace Go.Proofs.YtfjcabalehamcaaGreatDoor
open Go Go.Sx Go.Proofs Tryz
attribute [local irreducible] Code.wp wpList wpAnyH
open Go.Vs
theorem rP_ (p:List Pc) (pad:Ao) (pcap:Nat) (d:List Fc) (sv:Value) (y:Hp) (I:ad_ 87 6 sv d.length (d.flatMap Fc.cells) y) (vb ab:Nat) (s:Stp) (q:List Str) (A:∀ s,dU_ p s=true↔s∈q) (es:Array MapEntry) (ec:Nat) (hE:SetE str es q) (E:p.length<=10000000) (C:d.length<=10000000) (B:s.frm.length<=1000000) (G:∀ x∈d,x.sml) (F:s.fact.sml) (K:Acc p d s):Tri prog 105 #[zp_ vb 0,s.val] ((vb,.cells (gC_ (.slice pad p.length pcap) ab sv).toArray 181 (0,0))::(ab,.map es ec)::y) [L_ pad (p.flatMap Pc.cells),L_ s.ad (s.frm.flatMap aY_)] (λ_:Unit=>.bool true) (λ_=>(vb,.cells (gC_ (.slice pad p.length pcap) ab sv).toArray 181 (0,0))::(ab,.map es ec)::y) (λ_=>[]):=by
  obtain⟨fad,fcap,rfl,m⟩:=oq_ I;have T:=jN_ (Γ0:=[L_ pad (p.flatMap Pc.cells),L_ s.ad (s.frm.flatMap aY_)]) ((vb,.cells (gC_ (.slice pad p.length pcap) ab (.slice fad d.length fcap)).toArray 181 (0,0))::(ab,.map es ec)::y) (tf_ p pad pcap d fad fcap vb ab s q A es ec hE E C B G F K) (λv hB H=>⟨hB _ yau_,hB _ (yaA_ _ yau_),H.1,m v (λx J=>hB x (yaA_ _ (yaA_ _ J))),H.2.1,trivial⟩);simpa using T
theorem lk_ {G:Prop} (h:G:=by
 refine Zz 2 ?_;refine H_ (λ_ a b=>⟨Vw.sat.sub (a.perm (m_ (c_ d_) (m_ (c_ d_) (m_ (c_ d_) (c_ d_))))),b.2⟩) (s_ 1 [9,10] zk (λ_ a b=>⟨Vw.sat.sub (a.perm (m_ (c_ d_) (m_ (c_ d_) (m_ (c_ d_) (c_ d_))))),b.2⟩) (Zz 3 ?_));refine l_ 11 rfl zk ?_;obtain⟨F,M,m,_⟩:=oq_ A;refine zE_ (ad:=F) (n:=List.length ((fcs (l.take i))++[d.fact])) (c:=M) pn_ rfl (by rw[<-m];rfl) d_ (by rw[<-m];exact (dX_ A).2) ?_;rw[<-m];refine Zz 2 ?_;refine H_ zs (Zz 7 ?_);exact C_ ⟨(i+1,G,J),H,(by have z:=A;rw[<-xX_ I]at z;exact z)⟩ zab_ zl (m_ (c_ (c_ (c_ d_))) (m_ (c_ (c_ (c_ d_))) (m_ d_ (m_ d_ E_)))) (λ_ _ h=>h.2)):G:=h
theorem ym_ (p:List Pc) (pad:Ao) (pcap:Nat) (f:Fc) (l:List Stp) (ad:Ao) (cap:Nat) (hpl:p.length<=10000000) (a3:∀ x∈p,x.sm) (hl6:l.length<=65536) (hfr:∀ s∈l,s.frm.length<=1000000) (W:∀ s∈l,s.fact.sml) (hc:bq_ p=0) (hSt:∀ (j:Nat) (s:Stp),l[j]? = some s->Acc p (fcs (l.take j)) s) (X:∃ t,l[l.length - 1]? = some t/\t.fact=f):Tri prog 48 #[.slice pad p.length pcap,Fc.val f,.agg #[.slice ad l.length cap]] [] [L_ pad (p.flatMap Pc.cells),L_ ad (l.flatMap Stp.cells),bY_ l,dA_] (λ_:Unit=>i4_ 0) (λ_=>[]) (λ_=>[]):=by
 refine g_ func48 rfl rfl ntmps48 rfl λv_1=>?_;refine Zz 2 ?_;refine F_ rfl rfl λP=>F_ rfl rfl λO=>Zz 7 ?_
 refine f_ (qb_ p pad pcap zaa_ a3) rfl i_ zf rfl λ_=>Zi 6 (λK=>?_) λK=>?_
 .refine Zi 11 (λL=>?_) λL=>?_
  .refine Zz 8 ?_
   refine f_ (xk_ p pad pcap (by have:=(vK_ hc).1;omega)) rfl i_ zf rfl λ⟨⟨vb,ab,es,ec,q⟩,hVk⟩=>?_;dsimp only;obtain⟨hE,S⟩:=hVk;dsimp only at hE S;refine Zz 13 ?_;let Pu:Nat×Obj:=(P,.cells #[i4_ f.kind,str f.a,str f.b,str f.r,i4_ f.lo,i4_ f.hi] 87 (0,0));let Qu:Nat×Obj:=(O,.cells #[.slice ad l.length cap] 119 (0,0));refine I_ (ι:={y:Nat×Value×Hp // y.1<=List.length l/\zR 87 6 Fc.cells y.2.1 (fcs (l.take y.1)) y.2.2}) (λy=>[(4,zp_ P 0),(5,zp_ O 0),(8,zp_ vb 0),(24,.slice ad l.length cap),(25,i4_ (List.length l:Int)),(26,i4_ y.1.1)]) (λy=>(Pu::(Qu::((vb,.cells (gC_ (.slice pad p.length pcap) ab y.1.2.1).toArray 181 (0,0))::((ab,.map es ec)::y.1.2.2))))) (λy=>[L_ pad (p.flatMap Pc.cells),L_ ad (l.flatMap Stp.cells),bY_ l,dA_]) (λy=>l.length - y.1.1) ⟨((0:Nat),(.slice none 0 0),[]),by simp,(ad_.nil 87 6)⟩ zl zp zh ?_;rintro ⟨⟨i,T,H_F⟩,hi,E⟩;dsimp only at hi E ⊢;refine Zi 2 (λU=>?_) λU=>?_
   .refine Zz 17 ?_
    refine s_ 10 [0,1,2] zk zs (Zi 1 (λV=>?_) λV=>?_)
    .have a1:l.length - 1<l.length:=by omega
     obtain⟨R,Q⟩:∃ Y,l[List.length l - 1]? = some Y:=⟨_,yaa_ a1⟩;have Z:R.fact=f:=by obtain⟨t_1,N,a2⟩:=X;rw[Q]at N;obtain rfl:=ybk_ N;exact a2
     refine Zz 2 ?_;refine s_ 0 [3,4,5,6,7,8,9,10,11,12] zk zs (Zz 4 ?_);refine cY_ rfl rfl rfl (Y_ aT_ bv_ rfl rfl (λv _ h=>az_ (n:=9) Stp.cells_len zac_ (by exact h.2.1) (show l[((List.length l:Int) - 1).toNat]? = some R by rw[show ((List.length l:Int) - 1).toNat=l.length - 1 by omega];exact Q)) zaa_ zak_) rfl ?_;refine Zz 1 ?_;refine cY_ rfl rfl rfl (ah_ (ad:=ad) (us:=Fc.cells R.fact) cp_ N_ rfl zf rfl (oo_ 1 (y_ Stp.cells_len (show l[((List.length l:Int) - 1).toNat]? = some R by rw[show ((List.length l:Int) - 1).toNat=l.length - 1 by omega];exact Q)) R.fact_cells)) rfl ?_;refine Zz 1 ?_;refine dq_ rfl rfl rfl (fI_ (p:=R.fact) (q:=f) rfl rfl) rfl λr_1 B=>Zz 4 ?_
     cases r_1
     .replace B:=zdf B
      refine Zz 9 ?_;exact ac_ results48 () rfl i_ zt
     replace B:=zdt B;exact absurd Z B
    exfalso;obtain⟨t_1,N,_⟩:=X;have:=(yab_.1 N).1;omega
   obtain⟨H,d,I,C⟩:=zge (show i<l.length by omega);refine Zz 12 ?_;refine u_ dV_ rfl λb_3=>n_ 0 bv_ rfl rfl rfl rfl rfl rfl (Zz 7 ?_)
   refine f_ (rP_ p pad pcap (fcs (l.take i)) T H_F E vb ab d q S es ec hE zaa_ (by rw[dn_,yat_];omega) (hfr d C) (Am_ W) (W d C) (hSt i d I)) rfl (m_ (c_ (c_ (c_ d_))) (m_ (c_ (c_ (c_ d_))) (c_ (c_ E_)))) (λv _ h=>by exact⟨h.1,(h.2.2.1 d C),trivial⟩) rfl λ_=>?_;simp only[yav_,yap_,yaL_];refine e_ (aH_ rfl) rfl (Zz 5 ?_);refine t_ (X_ d_ (X_ d_ (X_ (j_ d_) (X_ (j_ d_) (be_ bg_))))) ?_;refine V_ ((ab,.map es ec)::((b_3,.cells #[i4_ d.rule,i4_ (Fc.kind d.fact),str (Fc.a d.fact),str (Fc.b d.fact),str (Fc.r d.fact),i4_ (Fc.lo d.fact),i4_ (Fc.hi d.fact),i4_ d.piece,.slice d.ad d.frm.length d.cap] 173 (0,0))::(Pu::(Qu::[])))) zk ?_;refine s_ 6 [0,1,2,3,5,6] zk zs (Zz 7 ?_);refine do_ 4 7 rfl rfl zk ?_ ?_
   .refine Zz 3 ?_
    refine H_ zs (l_ 7 rfl zk (M_ ai_ N_ W_ rfl rfl rfl rfl rfl rfl λa0=>?_));refine aL_ (List.flatMap Fc.cells [d.fact]) d_ rfl ?_;refine Zz 2 ?_;refine H_ zs (l_ 8 rfl zk (cS_ (news:=List.flatMap Fc.cells [d.fact]) jB_ E rfl rfl (λq=>by cases q) zai_ zp zbf_ zf (λu hu=>aG_ Fc.cells_one hu) zaS_ zaX_ rfl λG J K=>?_));refine t_ yax_ ?_;have A:=zsa K;exact lk_
   refine M_ ai_ N_ W_ rfl rfl rfl rfl rfl rfl λa0=>?_;refine aL_ (List.flatMap Fc.cells [d.fact]) d_ rfl ?_;refine Zz 2 ?_;refine H_ zs (l_ 4 rfl zk (Zz 3 ?_));refine H_ zs (l_ 8 rfl zk (cS_ (news:=List.flatMap Fc.cells [d.fact]) jB_ E rfl rfl (λq=>by cases q) zai_ zp zbf_ zf (λu hu=>aG_ Fc.cells_one hu) zaS_ zaX_ rfl λG J L=>?_));refine t_ yax_ ?_;have A:=zsa L;exact lk_
  exfalso;omega
 exfalso;omega
structure PfOk (p:List Pc) (f:Fc) (y:Pf):Prop where
  len:y.l.length<=65536
  fr:∀ s∈y.l,s.frm.length<=1000000
  sml:∀ s∈y.l,s.fact.sml
  acc:∀ (j:Nat) (s:Stp),y.l[j]? = some s->Acc p (fcs (y.l.take j)) s
  lst:∃ t,y.l[y.l.length - 1]? = some t/\t.fact=f
theorem kN_ (l:List Ax) (ad:Ao) (cap:Nat) (m:l.length<=12) (d:∀ x∈l,x.ok) (A:∀ x∈l,x.check=0) {p:List Pc} (v:bE_ 0 l=p) :
    Tri prog 6 #[.slice ad l.length cap] [] [cI_ ad l,bB_] (λy:{y:Ao×Nat // p.length<=y.2/\y.2<=maxLen/\(y.1=none->y.2=0)}=>.tuple #[.slice y.1.1 p.length y.1.2,i4_ 0]) (λ_=>[]) (λy=>[L_ y.1.1 (p.flatMap Pc.cells)]):=by
  have h:=kO_ l ad cap zaa_ d;rw[jt_ m A,v]at h;exact h
set_option maxHeartbeats 1000000 in
theorem uK_ (l:List Ax) (ad:Ao) (cap:Nat) (S:∀ x∈l,x.ok) (hC:∀ x∈l,x.check=0) (hl:l.length<=12) (x:Ax) (hx:x.ok) (X:List Pf) (J:Ao) (L:Nat) {p:List Pc} (hp:bE_ 0 l=p) {q:List Pc} {F:List Fc} (hG:x.goalP=(q,F,0)) (hpl:p.length+q.length<=16384) (hXl:X.length=F.length) (hck:bq_ (p++q)=0) (E:∀ (i:Nat) f y,F[i]? = some f->X[i]? = some y->PfOk (p++q) f y):Tri prog 16 #[.slice ad l.length cap,Ax.val x,.slice J X.length L] [] [cI_ ad l,Ax.memF x,L_ J (X.flatMap Pf.cells),sC_ X,dA_,bB_] (λ_:Unit=>i4_ 0) (λ_=>[]) (λ_=>[]):=by
 refine g_ func16 rfl rfl ntmps16 rfl λv_1=>?_;obtain⟨hql,hqs,hgz⟩:=Ad_ hx hG;have Z:∀ z∈p++q,z.sm:=λz hz=>(yag_.1 hz).elim (λhz=>(ix_ l 0 zaa_ S hC z (hp▸hz)).2.2.1) (hqs z)
 refine Zz 2 ?_;refine F_ rfl rfl λb_1=>Zz 6 ?_
 refine f_ (kN_ l ad cap hl S hC hp) rfl i_ zf rfl λ⟨⟨pad,pcap⟩,Q,hpm,O⟩=>?_;dsimp only;dsimp only at Q hpm O;refine Zz 11 ?_;refine e_ (aj_ (aM_ rfl rfl) (show _=Value.bool false from yah_ Value.bool zac_)) rfl (Zz 8 ?_);refine f_ (goal_z x hx hG) rfl i_ zf rfl λ⟨⟨qad,qcap,fad,fcap⟩,a0,hqm,R,N,P⟩=>?_;dsimp only;dsimp only at a0 hqm R N P;have hFl:F.length<=9223372036854775807:=ybv_ R N;refine Zz 13 ?_;refine e_ (aj_ (aM_ rfl rfl) (show _=Value.bool false from yah_ Value.bool zac_)) rfl (Zi 13 (λH=>?_) λH=>?_)
 .refine Zi 12 (λI=>?_) λI=>?_
  .refine Zz 12 ?_
   refine pt_ (n:=p.length+q.length) (by':=128) ol_ (z:=.agg (List.toArray zpc.cells)) zk rfl zac_ rfl rfl zaa_ zaa_ zaj_ rfl λsvZ HrZ hrZ=>?_;have a6:ad_ 32 10 svZ (List.length ([]:List Pc)) (List.flatMap Pc.cells ([]:List Pc)) HrZ:=hrZ;refine Zz 3 ?_;refine t_ (be_ bg_) (Zz 4 ?_);refine cS_ (news:=List.flatMap Pc.cells p) iA_ a6 rfl rfl O Q E_ zaD_ zf (λu hu=>aG_ Pc.cells_one hu) zbc_ zbs_ rfl λsv_1 Hr_1 H=>?_;refine t_ yax_ ?_;have Y:=zsa H;refine Zz 1 ?_;refine cS_ (news:=List.flatMap Pc.cells q) iA_ Y rfl rfl P a0 E_ zaD_ zf (λu hu=>aG_ Pc.cells_one hu) zbc_ zbs_ rfl λT a3 I=>?_;refine t_ yax_ ?_;have V:=zsa I;refine Zz 5 ?_;have W:ad_ 32 10 T (p++q).length (List.flatMap Pc.cells (p++q)) a3:=by have q:=V;simpa only[ybC_] using q
   refine aZ_ W E_ λM K a2 hczad hmzad hzzad=>?_;subst a2;refine Zz 7 ?_;refine I_ (ι:={y:Nat // y<=List.length F}) (λy=>[(2,.slice J X.length L),(6,i4_ 0),(10,.slice M (p++q).length K),(53,.slice fad F.length fcap),(54,i4_ (List.length F:Int)),(55,i4_ y.1)]) (λy=>([])) (λy=>[L_ M (List.flatMap Pc.cells (p++q)),L_ qad (q.flatMap Pc.cells),L_ fad (F.flatMap Fc.cells),L_ pad (p.flatMap Pc.cells),cI_ ad l,Ax.memF x,L_ J (X.flatMap Pf.cells),sC_ X,dA_,bB_]) (λy=>F.length - y.1) ⟨(0:Nat),by simp⟩ zl i_ zh ?_;rintro ⟨i,a1⟩;dsimp only at a1 ⊢;refine Zi 2 (λU=>?_) λU=>?_
   .refine Zz 12 ?_
    exact ac_ results16 () rfl i_ zt
   have C:i<F.length:=by omega
   obtain⟨B,A⟩:∃ a4,F[i]? = some a4:=⟨_,yaa_ C⟩;obtain⟨a5,d,m,G⟩:=zge (show i<X.length by omega);refine Zz 13 ?_;refine u_ W_ rfl λb_2=>Zz 1 ?_
   refine n_ 0 N_ rfl rfl rfl rfl rfl rfl (Zz 4 ?_);refine s_ 2 [0,1,2,3,4,5] zk zs (Zz 7 ?_);refine l_ 6 rfl zk (f_ (ym_ (p++q) M K B (Pf.l d) (Pf.ad d) (Pf.cap d) zbt_ Z (by have:=(E i B d A m).len;omega) (E i B d A m).fr (E i B d A m).sml hck (E i B d A m).acc (E i B d A m).lst) rfl i_ (λv _ h=>by exact⟨h.1,((h.2.2.2.2.2.2.2.1 d G).1),((h.2.2.2.2.2.2.2.1 d G).2),h.2.2.2.2.2.2.2.2.1,trivial⟩) rfl λ_=>?_);refine Zz 2 ?_;refine H_ zs (s_ 0 [7] zk zs (Zz 7 ?_));refine e_ (aj_ (aM_ rfl rfl) (show _=Value.bool false from yah_ Value.bool zac_)) rfl (Zz 10 ?_);exact C_ ⟨i+1,C⟩ zab_ zl i_ zh
  exfalso;omega
 exfalso;omega
theorem pf_as3 {H A B C G:Hp} {b:Nat×Obj} (h:H.Perm ((b::(A++(B++C)))++G)):H.Perm ((b::A)++B++(C++G)):=by simpa [yap_] using h
def si_ (S:List Str):Bool:=decide (S.length<=16384)&&S.all aD_
end Go.Proofs.YtfjcabalehamcaaGreatDoor
namespace Go.Vs
open Go Go.Sx Go.Proofs.YtfjcabalehamcaaGreatDoor
theorem tP_:∀ {l m:List Str},SrS l->SrS m->(∀ x,x∈l↔x∈m)->l=m
 | [],[],_,_,_=>rfl
 | [],y::m,_,_,h=>absurd ((h y).2 yau_) zai_
 | x::l,[],_,_,h=>absurd ((h x).1 yau_) zai_
 | x::l,y::m,h1,h2,h=>by
   unfold SrS at h1 h2;rw[ycr_]at h1 h2
   have e:x=y:=by
     rcases yan_.1 ((h x).1 yau_) with e|e
     . exact e
     . rcases yan_.1 ((h y).2 yau_) with v|v
       . exact v.symm
       . exact absurd (ycq_ (h2.1 x e) (h1.1 y v)) (jR_ _)
   subst e;rw[tP_ h1.2 h2.2 λz=>?_];constructor
   . intro d
     rcases yan_.1 ((h z).1 (yaA_ _ d)) with e|e
     . subst e;exact absurd (h1.1 _ d) (jR_ _)
     . exact e
   . intro d
     rcases yan_.1 ((h z).2 (yaA_ _ d)) with e|e
     . subst e;exact absurd (h2.1 _ d) (jR_ _)
     . exact e
abbrev eH_ (l:List Str):List Str:=l.mergeSort λx y=>decide (x<=y)
inductive Tre where
  | mk (con:Con) (size:Int) (ad:Ao) (cap:Nat) (parts:List Tre)
namespace Tre
def con:Tre->Con|mk c _ _ _ _=>c
def size:Tre->Int|mk _ n _ _ _=>n
def ad:Tre->Ao|mk _ _ a _ _=>a
def cap:Tre->Nat|mk _ _ _ c _=>c
def parts:Tre->List Tre|mk _ _ _ _ p=>p
def cells (t:Tre):List Value:=t.con.cells++[.int .i64 t.size,.slice t.ad t.parts.length t.cap]
def val (t:Tre):Value:=.agg t.cells.toArray
theorem cells_len (t:Tre):t.cells.length=7:=rfl
theorem cells_one (t:Tre):t.cells.all Value.oneCell'=true:=by simp[cells,Con.cells,Value.oneCell',str]
def tz:Tre->Nat
  | mk _ _ _ _ ps=>1+tzs ps
where tzs:List Tre->Nat
  | []=>0
  | p::ps=>tz p+tzs ps
theorem tz_pos (t:Tre):0<t.tz:=by cases t;simp[tz];omega
theorem wh_ {p:Tre}:∀ {ps:List Tre},p∈ps->p.tz<=tz.tzs ps
 | q::ps,h=>by
   rcases yan_.1 h with rfl|h
   . simp[tz.tzs]
   . have:=wh_ h;simp[tz.tzs];omega
theorem yO_ {t p:Tre} (h:p∈t.parts):p.tz<t.tz:=by
  cases t with
  | mk c n a cp ps=>have:=wh_ (ps:=ps) h;simp only[tz];omega
def mem:Tre->Vw->Prop
  | mk c _ a _ ps,v=>c.mem v/\bl_ v a (ps.flatMap cells)/\mems ps v
where mems:List Tre->Vw->Prop
  | [],_=>True
  | p::ps,v=>mem p v/\mems ps v
theorem mems_iff {v:Vw}:∀ {ps:List Tre},mem.mems ps v↔∀ p∈ps,p.mem v
  | []=>by simp[mem.mems]
  | p::ps=>by simp[mem.mems,mems_iff (ps:=ps)]
theorem mem_iff (t:Tre) (v:Vw):t.mem v↔t.con.mem v/\bl_ v t.ad (t.parts.flatMap cells)/\∀ p∈t.parts,p.mem v:=by
  cases t with
  | mk c n a cp ps=>simp only[mem,mems_iff,con,ad,parts]
theorem mem_mono:∀ (n:Nat) (t:Tre),t.tz<=n->∀ v d,v.le d->t.mem v->t.mem d
  | 0,t,h=>by have:=t.tz_pos;omega
  | n+1,t,h=>λv d hl hm=>by
    rw[mem_iff]at hm ⊢;exact⟨t.con.memF.mono v d hl hm.1,(L_ t.ad (t.parts.flatMap cells)).mono v d hl hm.2.1,λp m=>mem_mono n p (by have:=yO_ m;omega) v d hl (hm.2.2 p m)⟩
def memF (t:Tre):Fct:=⟨t.mem,mem_mono t.tz t (yae_ _)⟩
def wf:Tre->Prop
  | mk c n _ _ ps=>n=(c.sz:Int)/\c.parts=cons ps/\wfs ps
where
  wfs:List Tre->Prop
  | []=>True
  | p::ps=>wf p/\wfs ps
  cons:List Tre->List Con
  | []=>[]
  | p::ps=>p.con::cons ps
theorem rS_:∀ ps:List Tre,wf.cons ps=ps.map con
  | []=>rfl
  | p::ps=>by rw[wf.cons,rS_ ps];rfl
theorem tE_:∀ {ps:List Tre},wf.wfs ps↔∀ p∈ps,p.wf
  | []=>by simp[wf.wfs]
  | p::ps=>by simp[wf.wfs,tE_ (ps:=ps)]
theorem wf_iff (t:Tre):t.wf↔t.size=(t.con.sz:Int)/\t.con.parts=t.parts.map con/\∀ p∈t.parts,p.wf:=by
  cases t with
  | mk c n a cp ps=>simp only[wf,tE_,rS_,con,size,parts]
theorem wf_part {t p:Tre} (h:t.wf) (d:p∈t.parts):p.wf/\p.con.sz<t.con.sz:=by
  obtain⟨_,v,m⟩:=(wf_iff t).1 h;exact⟨m p d,Con.sz_part (by rw[v];exact yaI_ d)⟩
end Tre
def lI_ (l:List Tre):Fct:=⟨λv=>∀ t∈l,t.mem v,λv v' hl h t ht=>t.memF.mono v v' hl (h t ht)⟩
theorem sl_ {l:List Tre} {t:Tre} {v:Vw} (h:(lI_ l).p v) (m:t.memF.p v):(lI_ (l++[t])).p v:=λx d=>by
 rcases yag_.1 d with d|d
 .exact h x d
 rw[yak_]at d;subst d;exact m
theorem szs_step {l:List Con} {i:Nat} {x:Con} (h:l[i]? = some x):Con.sz.szs (l.take (i+1))=Con.sz.szs (l.take i)+x.sz:=by
  have d:∀ (a b:List Con),Con.sz.szs (a++b)=Con.sz.szs a+Con.sz.szs b:=λa b=>by
    induction a with
    | nil=>simp[Con.sz.szs]
    | cons c a ih=>simp[Con.sz.szs,ih];omega
  rw[yao_,h,yaC_,d];simp[Con.sz.szs]
theorem szs_take_le {l:List Con} (i:Nat):Con.sz.szs (l.take i)<=Con.sz.szs l:=by
  induction l generalizing i with
  | nil=>simp
  | cons c l ih =>
    cases i with
    | zero=>simp[Con.sz.szs]
    | succ i=>have:=ih i;simp[Con.sz.szs];omega
theorem szs_len:∀ l:List Con,l.length<=Con.sz.szs l
  | []=>yae_ _
  | c::l=>by have:=szs_len l;have:=c.sz_pos;simp only[yai_,Con.sz.szs];omega
theorem Con.parts_lt (c:Con):c.parts.length<c.sz:=by have:=szs_len c.parts;rw[Con.sz_eq];omega
theorem um_ {a b:List Con} {i:Nat} {x y:Con} (C:a[i]? = some x) (m:b[i]? = some y):Con.cmp.cmps (a.drop i) (b.drop i)=if Con.cmp x y=0 then Con.cmp.cmps (a.drop (i+1)) (b.drop (i+1)) else Con.cmp x y:=by
  obtain⟨A,d⟩:=yab_.1 C;obtain⟨v,B⟩:=yab_.1 m;rw[yaZ_ A,yaZ_ v,Con.cmp.cmps,d,B]
theorem vG_ {a b:List Con} {i:Nat} (d:i<a.length) (m:b.length<=i):Con.cmp.cmps (a.drop i) (b.drop i)=1:=by
  rw[yaZ_ d,yaP_ m,Con.cmp.cmps]
theorem tj_ {a b:List Con} {i:Nat} (d:a.length<=i) (m:i<b.length):Con.cmp.cmps (a.drop i) (b.drop i)=-1:=by
  rw[yaZ_ m,yaP_ d,Con.cmp.cmps]
theorem ye_ {a b:List Con} {i:Nat} (d:a.length<=i) (m:b.length<=i):Con.cmp.cmps (a.drop i) (b.drop i)=0:=by
  rw[yaP_ d,yaP_ m,Con.cmp.cmps]
theorem un_ {a b:List Str} {i:Nat} {x y:Str} (C:a[i]? = some x) (m:b[i]? = some y):fx_ (a.drop i) (b.drop i)=if Lib.compareBytes x y=0 then fx_ (a.drop (i+1)) (b.drop (i+1)) else Lib.compareBytes x y:=by
  obtain⟨A,d⟩:=yab_.1 C;obtain⟨v,B⟩:=yab_.1 m;rw[yaZ_ A,yaZ_ v,fx_,d,B]
theorem vI_ {a b:List Str} {i:Nat} (d:i<a.length) (m:b.length<=i):fx_ (a.drop i) (b.drop i)=1:=by
  rw[yaZ_ d,yaP_ m,fx_]
theorem tk_ {a b:List Str} {i:Nat} (d:a.length<=i) (m:i<b.length):fx_ (a.drop i) (b.drop i)=-1:=by
  rw[yaZ_ m,yaP_ d,fx_]
theorem yg_ {a b:List Str} {i:Nat} (d:a.length<=i) (m:b.length<=i):fx_ (a.drop i) (b.drop i)=0:=by
  rw[yaP_ d,yaP_ m,fx_]
def wgL:List Con->Int
  | []=>0
  | c::l=>(if c.kind=0 then 0 else (c.sz:Int))+wgL l
def wgS:List Str->Int
  | []=>0
  | s::l=>(if s=[] then 0 else 1)+wgS l
theorem yL_ (a b:List Con):wgL (a++b)=wgL a+wgL b:=by
  induction a with
  | nil=>simp[wgL]
  | cons c a ih=>simp only[yav_,wgL,ih];omega
theorem yK_ (a b:List Str):wgS (a++b)=wgS a+wgS b:=by
  induction a with
  | nil=>simp[wgS]
  | cons c a ih=>simp only[yav_,wgS,ih];omega
theorem qt_ {l:List Con} {i:Nat} {x:Con} (h:l[i]? = some x):wgL (l.take (i+1))=wgL (l.take i)+(if x.kind=0 then 0 else (x.sz:Int)):=by
  rw[yao_,h,yL_];simp[wgL]
theorem qs_ {l:List Str} {i:Nat} {x:Str} (h:l[i]? = some x):wgS (l.take (i+1))=wgS (l.take i)+(if x=[] then 0 else 1):=by
  rw[yao_,h,yK_];simp[wgS]
theorem wgL_bd {l:List Con} (h:∀ c∈l,c.sz<=1000000):0<=wgL l/\wgL l<=1000000*l.length:=by
  induction l with
  | nil=>simp[wgL]
  | cons c l ih =>
    have v:=h c zai_;have x:=ih λd m=>h d zbn_
    simp only[wgL,yai_]
    split<;>omega
theorem wgS_bd (l:List Str):0<=wgS l/\wgS l<=l.length:=by
  induction l with
  | nil=>simp[wgS]
  | cons c l ih=>simp only[wgS,yai_];split<;>omega
theorem Ax.wgt_eq (x:Ax):x.wgt=wgL [x.left,x.right]+(x.roles.length:Int)+wgS [x.role,x.a,x.b]:=by
  unfold Ax.wgt;simp only[wgL,wgS];omega
theorem yo_ {x:Ax} {v:Vw} (h:x.memF.p v) {c:Con} (d:c∈[x.left,x.right]):c.memF.p v:=by
 simp only[yan_,yaJ_,ybG_]at d;rcases d with rfl|rfl
 .exact h.1
 exact h.2.1
theorem ky_ {x:Ax} (d:x.ok) (v:x.left.sz<=1000000) (y:x.right.sz<=1000000) {c:Con} (m:c∈[x.left,x.right]):c.ok/\c.sz<=1000000:=by
 simp only[yan_,yaJ_,ybG_]at m;rcases m with rfl|rfl
 .exact⟨d.left,v⟩
 exact⟨d.right,y⟩
theorem oY_ (c d:Con):Con.cmp c d=if orF [Lib.compareInt (c.sz:Int) (d.sz:Int),Lib.compareInt c.kind d.kind,Lib.compareBytes c.name d.name,Lib.compareInt c.lo d.lo,Lib.compareInt c.hi d.hi]=0 then Con.cmp.cmps c.parts d.parts else orF [Lib.compareInt (c.sz:Int) (d.sz:Int),Lib.compareInt c.kind d.kind,Lib.compareBytes c.name d.name,Lib.compareInt c.lo d.lo,Lib.compareInt c.hi d.hi]:=by
  rw[Con.cmp_eq];simp only[orF]
  (repeat' split)<;>first|rfl|omega|(simp_all;done)
namespace Con
def sX_ (c:Con):List Con->List Con
  | []=>[c]
  | d::l=>if cmp c d<0 then c::d::l else if cmp c d=0 then d::l else d::sX_ c l
def ws_ (l:List Con):List Con:=l.foldl (λs c=>sX_ c s) []
def flat1 (c:Con):List Con:=if c.kind=1 then [] else if c.kind=5 then c.parts else [c]
def of_:Con:=mk 0 [] 0 0 none 0 []
def ns_ (s:List Con):Con×Int :=
  match s.find? λc=>decide (c.kind=2) with
  | some b=>(b,0)
  | none =>
    match s with
    | []=>(mk 1 [] 0 0 none 0 [],0)
    | [x]=>(x,0)
    | _=>if 8<s.length then (of_,2) else (mk 5 [] 0 0 none 0 s,0)
def erF:List (Con×Int)->Int
  | []=>0
  | z::l=>if z.2≠0 then z.2 else erF l
def tdy:Con->Con×Int
  | mk k n lo hi a cp ps =>
    if k=6 then (match tdys ps with
      | z::_=>if z.2≠0\/z.1.kind=2 then z else (mk 6 n 0 0 none 0 [z.1],0)
      | []=>(of_,0))
    else if k=5 then (if erF (tdys ps)≠0 then (of_,erF (tdys ps)) else ns_ (ws_ ((tdys ps).flatMap λz=>flat1 z.1)))
    else (mk k n lo hi a cp ps,0)
where tdys:List Con->List (Con×Int)
  | []=>[]
  | p::ps=>tdy p::tdys ps
theorem tdys_map:∀ ps:List Con,tdy.tdys ps=ps.map tdy
  | []=>rfl
  | p::ps=>by rw[tdy.tdys,tdys_map ps];rfl
theorem uf_ (c:Con):∀ l:List Con,sz.szs (sX_ c l)<=c.sz+sz.szs l
 | []=>by simp[sX_,sz.szs]
 | d::l=>by
   simp only[sX_]
   split
   . simp[sz.szs]
   . split
     . simp only[sz.szs];omega
     . have:=uf_ c l;simp only[sz.szs];omega
theorem tJ_:∀ xs ys:List Con,sz.szs (xs++ys)=sz.szs xs+sz.szs ys
  | [],ys=>by simp[sz.szs]
  | x::xs,ys=>by rw[yav_,sz.szs,sz.szs,tJ_ xs ys];omega
theorem zd_ (l:List Con):sz.szs (ws_ l)<=sz.szs l:=by
  have d:∀ (l s:List Con),sz.szs (l.foldl (λs c=>sX_ c s) s)<=sz.szs s+sz.szs l:=by
    intro l
    induction l with
    | nil=>intro s;simp[sz.szs]
    | cons x l ih =>
      intro s;have m:=ih (sX_ x s);have v:=uf_ x s;rw[ycw_,sz.szs];omega
  have:=d l [];simp only[sz.szs]at this;unfold ws_;omega
theorem xV_ (c:Con):sz.szs (flat1 c)<=c.sz:=by
 unfold flat1
 split
 .simp[sz.szs]
 split
 .rw[sz_eq];omega
 simp[sz.szs]
theorem xr_ {s:List Con} (h:(ns_ s).2=0):(ns_ s).1.sz<=1+sz.szs s:=by
 unfold ns_ at h ⊢
 split
 .rename_i b d
  have:=sm_ (List.mem_of_find?_eq_some d);dsimp only;omega
 rename_i d
 rw[d]at h;dsimp only at h
 split
 .simp[sz,sz.szs]
 .simp[sz.szs]
 split
 .rename_i m;simp[sz,sz.szs,of_]
 simp only[sz];omega
theorem my_:of_.sz=1:=rfl
mutual
theorem wk_:∀ c:Con,c.tdy.1.sz<=c.sz
  | mk k n lo hi a cp ps=>by
    have y:=tdys_sz ps;rw[tdy]
    split
    . cases ps with
      | nil=>rw[tdy.tdys];dsimp only;rw[my_];simp[sz]
      | cons p ps =>
        rw[tdy.tdys];dsimp only;have v:=wk_ p
        split
        . simp only[sz,sz.szs];omega
        . simp only[sz,sz.szs];omega
    . split
      . split
        . dsimp only;rw[my_];simp[sz]
        . have v:=zd_ ((tdy.tdys ps).flatMap λz=>flat1 z.1)
          by_cases d:(ns_ (ws_ ((tdy.tdys ps).flatMap λz=>flat1 z.1))).2=0
          . have:=xr_ d
            simp only[sz];omega
          . have:(ns_ (ws_ ((tdy.tdys ps).flatMap λz=>flat1 z.1))).1=of_:=by
              unfold ns_ at d ⊢
              split
              . rename_i b m;rw[m]at d;simp at d
              . rename_i m
                rw[m]at d;dsimp only at d ⊢
                split
                . rename_i e;rw[e]at d;simp at d
                . rename_i e;rw[e]at d;simp at d
                . split
                  . rfl
                  . rename_i x;rw[yaf_ x]at d;simp at d
            rw[this,my_];simp[sz]
      . exact yae_ _
theorem tdys_sz:∀ ps:List Con,sz.szs ((tdy.tdys ps).flatMap λz=>flat1 z.1)<=sz.szs ps
  | []=>by simp[tdy.tdys,sz.szs]
  | p::ps=>by
    rw[tdy.tdys,yaV_,tJ_];have v:=wk_ p;have d:=tdys_sz ps;have x:=xV_ (tdy p).1;simp only[sz.szs];omega
end
end Con
def Ax.tdyE (x:Ax):Int :=
  if x.check≠0 then x.check
  else if (us x.kind).left=true/\x.left.tdy.2≠0 then x.left.tdy.2
  else if (us x.kind).right=true/\x.right.tdy.2≠0 then x.right.tdy.2
  else 0
def Ax.tdyL (x:Ax):Con:=if (us x.kind).left=true then x.left.tdy.1 else x.left
def Ax.tdyR (x:Ax):Con:=if (us x.kind).right=true then x.right.tdy.1 else x.right
def Ax.swp (x:Ax):Prop:=(x.kind=2\/x.kind=3)/\0<Con.cmp x.tdyL x.tdyR
instance (x:Ax):Decidable x.swp:=by unfold Ax.swp;infer_instance
end Go.Vs
namespace Go.Proofs.YtfjcabalehamcaaGreatDoor
open Go Go.Sx Go.Proofs Tryz
attribute [local irreducible] Code.wp wpList wpAnyH
open Go.Vs
theorem pV_:Elt prog 22 51 16 216:=gA_ underlying22 (z:=.agg #[i4_ 0,.bool false,i4_ 0,str [],i4_ 0,i4_ 0,.slice none 0 0,i4_ 0,str [],i4_ 0,i4_ 0,.slice none 0 0,.slice none 0 0,str [],str [],str []]) zad_ rfl zac_
theorem Ax.cells_one (x:Ax):x.cells.all Value.oneCell'=true:=by simp[Ax.cells,Con.cells,Value.oneCell',str]
theorem yX_:fH_ prog 217 [(0,5),(5,1),(6,1)] [i4_ 0,str [],i4_ 0,i4_ 0,.slice none 0 0,i4_ 0,.slice none 0 0]:=⟨_,ie_,runUnderlying217,λw=>by simp[K_,D_,sizeOf215]⟩
theorem Ar_:Elt prog 215 217 7 96:=gA_ underlying215 (z:=.agg #[i4_ 0,str [],i4_ 0,i4_ 0,.slice none 0 0,i4_ 0,.slice none 0 0]) zad_ rfl zac_
theorem Tre.cells_one (t:Tre):t.cells.all Value.oneCell'=true:=Go.Vs.Tre.cells_one t
theorem xP_:∀ (m:Nat) (c:Con),c.sz<=m->c.sz<=1000000->Tri prog 138 #[Con.val c] [] [Con.memF c] (λy:{t:Tre // t.con=c/\t.wf}=>y.1.val) (λ_=>[]) (λy=>[y.1.memF]):=by
 intro m
 induction m with
 | zero=>intro c h;have:=Con.sz_pos c;omega
 | succ m ih =>
   intro c h hz;refine g_ func138 rfl rfl ntmps138 rfl λv_1=>?_;refine Zz 2 ?_;refine F_ rfl rfl λb_1=>u_ ie_ rfl λL=>Zz 5 ?_
   refine e_ (w_ yX_ rfl rfl) rfl (n_ 0 fV_ rfl rfl rfl rfl rfl rfl (Zz 12 ?_));refine I_ (ι:={y:Nat×List Tre×Int×Value×Hp // y.1<=List.length c.parts/\List.map Tre.con y.2.1=List.take y.1 c.parts/\y.2.2.1=((1+Con.sz.szs (c.parts.take y.1):Nat):Int)/\(∀ t∈y.2.1,t.wf)/\zR 217 7 Tre.cells y.2.2.2.1 y.2.1 y.2.2.2.2}) (λy=>[(2,zp_ L 0),(9,.slice c.ad c.parts.length c.cap),(10,i4_ (List.length c.parts:Int)),(11,i4_ y.1.1)]) (λy=>((L,.cells #[i4_ c.kind,str c.name,i4_ c.lo,i4_ c.hi,.slice c.ad c.parts.length c.cap,i4_ y.1.2.2.1,y.1.2.2.2.1] 217 (0,0))::y.1.2.2.2.2)) (λy=>[lI_ y.1.2.1,Con.memF c]) (λy=>c.parts.length - y.1.1) ⟨((0:Nat),([]:List Tre),1,(.slice none 0 0),[]),by simp,by simp,(by simp[Con.sz.szs]),by simp,(ad_.nil _ _)⟩ zl d_ (λv _ h=>by exact⟨(show (lI_ ([]:List Tre)).p v from λt F=>by simp at F),h.1,trivial⟩) ?_;rintro ⟨⟨i,ts,T,sv_T,H_T⟩,Q,B,E,I,A⟩;dsimp only at Q B E I A ⊢;have hzb:=szs_take_le (l:=Con.parts c) i;have hzc:=Con.sz_eq c;have hpl:=Con.parts_lt c;refine Zi 2 (λC=>?_) λC=>?_
   . refine Zz 9 ?_;refine n_ 0 fV_ rfl rfl rfl rfl rfl (by have q:=(dX_ A).2;simp only[Value.cells,List.all_cons,List.all_nil,q,Bool.and_true];rfl) ?_;refine Zz 3 ?_;refine aZ_ A E_ λO H M Z hmtad Y=>?_;subst M;have V:List.take i c.parts=Con.parts c:=yad_ zaa_;rw[V]at B E;exact dI_ ⟨Tre.mk c T O H ts,rfl,(Tre.wf_iff _).2 ⟨by dsimp only[Tre.size,Tre.con];rw[E,Con.sz_eq],B.symm,I⟩⟩ (λaa v X U=>cu_ (us:=Tre.cells (Tre.mk c T O H ts)) 0 results138 isAgg217 fV_ rfl rfl rfl aa v X U) i_ (λv _ h=>by exact⟨(Tre.mem_iff _ v).2 ⟨h.2.2.1,h.1,h.2.1⟩,trivial⟩)
   . obtain⟨J,K,x,d⟩:=zge (show i<c.parts.length by omega);refine Zz 10 ?_;refine e_ (Y_ al_ D_ rfl rfl (λv _ h=>az_ (n:=5) Con.cells_len zac_ (by exact ((Con.mem_iff c v).1 h.2.1).1) x) zaa_ zak_) rfl ?_;refine e_ (ah_ (ad:=c.ad) (us:=Con.cells K) aq_ D_ rfl (λv _ h=>by exact ((Con.mem_iff c v).1 h.2.1).1) (Con.cells_len _) (y_ Con.cells_len x)) rfl (u_ bP_ rfl λb_3=>n_ 0 D_ rfl rfl rfl rfl rfl rfl (Zz 5 ?_));refine f_ (ih K (by have:=Con.sz_part d;omega) (by have:=Con.sz_part d;omega)) rfl i_ (λv _ h=>by exact⟨(Con.mem_part (c:=c) h.2.1 d),trivial⟩) rfl λ⟨q,P,R⟩=>?_;dsimp only;have W:Tre.size q=(Con.sz K:Int):=by rw[((Tre.wf_iff q).1 R).1,P]
     have hxs:=Con.sz_part d;refine u_ ie_ rfl λb_4=>n_ 0 fV_ rfl rfl rfl rfl rfl rfl (Zz 10 ?_)
     refine n_ 2 K_ rfl rfl rfl rfl rfl rfl (Zz 6 ?_);refine M_ runUnderlying215 fV_ ie_ rfl rfl rfl rfl rfl rfl λb_5=>?_;refine am_ (news:=List.flatMap Tre.cells [q]) Ar_ A rfl rfl (c_ (c_ (c_ E_))) rfl (ba_ 0 rfl) (λu hu=>aG_ Tre.cells_one hu) (by simp only[maxLen];((try simp only[yaj_,yai_,yaB_]);have:=yah_ List.length B;rw[yaO_,yat_]at this;have:=Con.parts_lt c;omega)) (by ((try simp only[yaj_,yai_,yaB_]);have:=yah_ List.length B;rw[yaO_,yat_]at this;have:=Con.parts_lt c;omega)) rfl λN S C=>?_;refine t_ yax_ ?_;have G:=zsa C;refine Zz 1 ?_;refine dm_ 3 G sizeOf215 rfl rfl rfl rfl (Zz 7 ?_);exact C_ ⟨(i+1,(ts++[q]),(T+Tre.size q),N,S),J,(by rw[take_snoc x,yaw_,B];simp[P]),(by show T+Tre.size q=_;rw[szs_step x,E,W];omega),(λt F=>by rcases yag_.1 F with F|F;exact I t F;rw[yak_]at F;subst F;exact R),G⟩ zab_ zl (m_ (c_ (c_ (c_ d_))) (c_ (c_ E_))) (λv _ h=>by exact⟨sl_ h.2.1 h.1,h.2.2.1,trivial⟩)
theorem vJ_ (d us:List Tre) (ad N:Ao) (cap J:Nat) (S:d.length<=1000000) (U:us.length<=1000000) (Q:(∀ t∈d,∀ u∈us,Tri prog 139 #[t.val,u.val] [] [t.memF,u.memF] (λ_:Unit=>i4_ (Con.cmp t.con u.con)) (λ_=>[]) (λ_=>[]))):Tri prog 204 #[.slice ad d.length cap,.slice N us.length J,.func (.func 139) #[] #[]] [] [L_ ad (d.flatMap Tre.cells),L_ N (us.flatMap Tre.cells),lI_ d,lI_ us] (λ_:Unit=>i4_ (Con.cmp.cmps (d.map Tre.con) (us.map Tre.con))) (λ_=>[]) (λ_=>[]):=by
 refine g_ func204 rfl rfl ntmps204 rfl λP=>?_;refine Zz 14 ?_;refine I_ (ι:={y:Nat // y<=List.length d/\Con.cmp.cmps (d.map Tre.con) (us.map Tre.con)=Con.cmp.cmps (List.drop y (d.map Tre.con)) (List.drop y (us.map Tre.con))}) (λy=>[(0,.slice ad d.length cap),(1,.slice N us.length J),(2,.func (.func 139) #[] #[]),(6,i4_ 0),(11,.slice ad d.length cap),(12,i4_ (List.length d:Int)),(13,i4_ y.1)]) (λy=>([])) (λy=>[L_ ad (d.flatMap Tre.cells),L_ N (us.flatMap Tre.cells),lI_ d,lI_ us]) (λy=>d.length - y.1) ⟨(0:Nat),by simp,rfl⟩ zl i_ zh ?_;rintro ⟨i,M,m⟩;dsimp only at M m ⊢;refine Zi 2 (λL=>?_) λL=>?_
 .refine Zi 13 (λE=>?_) λE=>?_
  .refine Zz 11 ?_
   exact ac_ results204 () (bd_ rfl (by rw[m];symm;exact ye_ zaJ_ zaJ_)) i_ zt
  refine Zz 9 ?_;exact ac_ results204 () (bd_ rfl (by rw[m];symm;exact tj_ zaJ_ zaJ_)) i_ zt
 obtain⟨H,K,F,B⟩:=zge (show i<d.length by omega);refine Zz 13 ?_;refine u_ ie_ rfl λT=>Zz 1 ?_
 refine n_ 0 fV_ rfl rfl rfl rfl rfl rfl (Zi 8 (λE=>?_) λE=>?_)
 .have G:i<us.length:=by omega
  obtain⟨I,A⟩:∃ O,us[i]? = some O:=⟨_,yaa_ G⟩;have x:I∈us:=yac_ A;refine Zz 11 ?_;refine u_ ie_ rfl λR=>n_ 0 fV_ rfl rfl rfl rfl rfl rfl (Zz 7 ?_)
  refine T_ (Q K B I x) rfl rfl i_ (λv _ h=>by exact⟨(h.2.2.1 K B),(h.2.2.2.1 I x),trivial⟩) rfl λ_=>Zi 6 (λC=>?_) λC=>?_
  .refine Zz 10 ?_
   exact C_ ⟨i+1,H,(by rw[m,um_ (by rw[yaH_,F];rfl) (by rw[yaH_,A];rfl),yaq_ C])⟩ zab_ zl i_ zh
  refine Zz 10 ?_;exact ac_ results204 () (bd_ rfl (by rw[m,um_ (by rw[yaH_,F];rfl) (by rw[yaH_,A];rfl),yaf_ C])) i_ zt
 refine Zz 9 ?_;exact ac_ results204 () (bd_ rfl (by rw[m];symm;exact vG_ zaJ_ zaJ_)) i_ zt
theorem vE_:∀ (m:Nat) (t u:Tre),t.con.sz<=m->t.wf->u.wf->t.con.sz<=1000000->u.con.sz<=1000000->Tri prog 139 #[Tre.val t,Tre.val u] [] [Tre.memF t,Tre.memF u] (λ_:Unit=>i4_ (Con.cmp t.con u.con)) (λ_=>[]) (λ_=>[]):=by
 intro m
 induction m with
 | zero=>intro t u h;have:=Con.sz_pos t.con;omega
 | succ m ih =>
   intro t u h A G L P;obtain⟨F,C,O⟩:=(Tre.wf_iff t).1 A;obtain⟨E,B,N⟩:=(Tre.wf_iff u).1 G;have H:(Tre.parts t).length<=1000000:=by have q:=yah_ List.length C;rw[yaO_]at q;have:=Con.parts_lt t.con;omega
   have I:(Tre.parts u).length<=1000000:=by have q:=yah_ List.length B;rw[yaO_]at q;have:=Con.parts_lt u.con;omega
   refine g_ func139 rfl rfl ntmps139 rfl λQ=>?_;refine Zz 2 ?_;refine F_ rfl rfl λS=>F_ rfl rfl λR=>Zz 5 ?_
   refine s_ 8 [0,1,2,3,5,6,7,8,9,10,12,13,14,15,16,17,19,20,21,22,23,24,26,27,28,29,30,31] zk zs (Zz 29 ?_);refine l_ 4 rfl zk (f_ (eD_ (Tre.size t) (Tre.size u)) rfl i_ zt rfl λ_=>Zz 3 ?_);refine l_ 11 rfl zk (f_ (eD_ (Con.kind (Tre.con t)) (Con.kind (Tre.con u))) rfl i_ zt rfl λ_=>Zz 3 ?_);refine l_ 18 rfl zk (f_ (gf_ (Con.name (Tre.con t)) (Con.name (Tre.con u))) rfl i_ zt rfl λ_=>Zz 3 ?_);refine l_ 25 rfl zk (f_ (eD_ (Con.lo (Tre.con t)) (Con.lo (Tre.con u))) rfl i_ zt rfl λ_=>Zz 3 ?_);refine l_ 32 rfl zk (f_ (eD_ (Con.hi (Tre.con t)) (Con.hi (Tre.con u))) rfl i_ zt rfl λ_=>Zz 3 ?_);refine l_ 33 rfl zk (M_ J_ K_ aN_ rfl rfl rfl rfl rfl rfl λK=>?_);refine aL_ (List.flatMap aY_ [(Lib.compareInt (Tre.size t) (Tre.size u)),(Lib.compareInt (Con.kind (Tre.con t)) (Con.kind (Tre.con u))),(Lib.compareBytes (Con.name (Tre.con t)) (Con.name (Tre.con u))),(Lib.compareInt (Con.lo (Tre.con t)) (Con.lo (Tre.con u))),(Lib.compareInt (Con.hi (Tre.con t)) (Con.hi (Tre.con u)))]) d_ rfl ?_;refine Zz 3 ?_;refine l_ 34 rfl zk (f_ (tW_ [(Lib.compareInt (Tre.size t) (Tre.size u)),(Lib.compareInt (Con.kind (Tre.con t)) (Con.kind (Tre.con u))),(Lib.compareBytes (Con.name (Tre.con t)) (Con.name (Tre.con u))),(Lib.compareInt (Con.lo (Tre.con t)) (Con.lo (Tre.con u))),(Lib.compareInt (Con.hi (Tre.con t)) (Con.hi (Tre.con u)))] (some ⟨K,0,none⟩) 5 zai_) rfl i_ zf rfl λ_=>Zz 3 ?_);refine s_ 0 [35] zk zs (Zi 8 (λd=>?_) λd=>?_)
   . refine Zz 11 ?_;refine f_ (vJ_ (Tre.parts t) (Tre.parts u) (Tre.ad t) (Tre.ad u) (Tre.cap t) (Tre.cap u) H I (λx J y M=>ih x y (by have:=(Tre.wf_part A J).2;omega) (Tre.wf_part A J).1 (Tre.wf_part G M).1 (by have:=(Tre.wf_part A J).2;omega) (by have:=(Tre.wf_part G M).2;omega))) rfl i_ (λv _ h=>by exact⟨((Tre.mem_iff t v).1 h.2.1).2.1,((Tre.mem_iff u v).1 h.2.2.1).2.1,((Tre.mem_iff t v).1 h.2.1).2.2,((Tre.mem_iff u v).1 h.2.2.1).2.2,trivial⟩) rfl λ_=>?_;refine Zz 4 ?_;exact ac_ results139 () (bd_ rfl (by rw[oY_,<-F,<-E,yaq_ d,C,B])) i_ zt
   . refine Zz 10 ?_;exact ac_ results139 () (bd_ rfl (by rw[oY_,<-F,<-E,yaf_ d])) i_ zt
theorem rU_ (c d:Con) (B:c.sz<=1000000) (x:d.sz<=1000000):Tri prog 87 #[Con.val c,Con.val d] [] [Con.memF c,Con.memF d] (λ_:Unit=>i4_ (Con.cmp c d)) (λ_=>[]) (λ_=>[]):=by
  refine g_ func87 rfl rfl ntmps87 rfl λF=>?_;refine Zz 2 ?_;refine F_ rfl rfl λG=>F_ rfl rfl λH=>Zz 5 ?_
  refine s_ 4 [0,2] zk zs (Zz 3 ?_);refine l_ 1 rfl zk (f_ (xP_ _ c (yae_ _) B) rfl i_ zf rfl λ⟨E,v,A⟩=>?_);dsimp only;refine Zz 3 ?_;refine l_ 3 rfl zk (f_ (xP_ _ d (yae_ _) x) rfl i_ zf rfl λ⟨C,m,y⟩=>?_);dsimp only;refine Zz 3 ?_;refine l_ 4 rfl zk (f_ (vE_ _ E C (yae_ _) A y (by rw[v];exact B) (by rw[m];exact x)) rfl i_ zf rfl λ_=>?_);refine Zz 3 ?_;refine s_ 0 [5] zk zs (Zz 5 ?_);exact ac_ results87 () (bd_ rfl (by rw[v,m])) i_ zt
theorem vV_ {P:Program} {N:Nf} {fr:Fr} {H:Hp} {Γ:List Fct} {t B ty:TypeId} {x y:Operand} {m n:List UInt8} (C:Fr.ev fr x=some (str m)) (A:Fr.ev fr y=some (str n)):Yld P N fr H Γ (.binOp .gtr t x y B) ty (.bool (decide (n<m))) :=
  λa v d _ _ _ _ _=>by
    have e:decide (n<m)=!decide (m<=n):=by rw[ybJ_];simp[List.not_le]
    rw[e,<-Ax_];simp[execOp,d.ev C,d.ev A,str,eqGuard,binOp,Op.stringOp]
theorem ue_ (s:Str):Fn0 prog 206 #[str s] (.bool false):=by
  refine g_ func206 rfl rfl ntmps206 rfl λd=>?_;refine Zz 9 ?_;refine e_ (aj_ (dD_ rfl rfl) (show _=Value.bool false from yah_ Value.bool zai_)) rfl (Zz 4 ?_);exact ac_ results206 () rfl i_ zt
theorem vH_ (x y:Str):Fn0 prog 143 #[str x,str y] (i4_ (Lib.compareBytes x y)):=by
 refine g_ func143 rfl rfl ntmps143 rfl λA=>?_;refine Zz 8 ?_;refine f_ (ue_ x) rfl i_ zt rfl λ_=>Zz 6 ?_
 refine f_ (ue_ y) rfl i_ zt rfl λ_=>Zi 26 (λm=>?_) λm=>?_
 .refine Zz 10 ?_
  refine P_ (vV_ rfl rfl) rfl λv d=>Zz 2 ?_
  cases v
  .replace d:=zdf d
   refine Zz 9 ?_;exact ac_ results143 () (bd_ rfl (by rw[qd_,yaf_ m,yaf_ d])) i_ zt
  replace d:=zdt d;refine Zz 7 ?_;exact ac_ results143 () (bd_ rfl (by rw[qd_,yaf_ m,yaq_ d])) i_ zt
 refine Zz 9 ?_;exact ac_ results143 () (bd_ rfl (by rw[qd_,yaq_ m])) i_ zt
theorem As_ (d B:List Str) (ad K:Ao) (cap H:Nat) (hl:d.length<=140737488351232) (hm:B.length<=140737488351232):Tri prog 90 #[.slice ad d.length cap,.slice K B.length H] [] [L_ ad (d.flatMap ar_),L_ K (B.flatMap ar_)] (λ_:Unit=>i4_ (fx_ d B)) (λ_=>[]) (λ_=>[]):=by
 refine g_ func90 rfl rfl ntmps90 rfl λN=>?_;refine Zz 14 ?_;refine I_ (ι:={y:Nat // y<=List.length d/\fx_ d B=fx_ (d.drop y) (B.drop y)}) (λy=>[(0,.slice ad d.length cap),(1,.slice K B.length H),(4,i4_ 0),(9,.slice ad d.length cap),(10,i4_ (List.length d:Int)),(11,i4_ y.1)]) (λy=>([])) (λy=>[L_ ad (d.flatMap ar_),L_ K (B.flatMap ar_)]) (λy=>d.length - y.1) ⟨(0:Nat),by simp,rfl⟩ zl i_ zh ?_;rintro ⟨i,J,m⟩;dsimp only at J m ⊢;refine Zi 2 (λI=>?_) λI=>?_
 .refine Zi 13 (λA=>?_) λA=>?_
  .refine Zz 11 ?_
   exact ac_ results90 () (bd_ rfl (by rw[m];symm;exact yg_ zaa_ zaa_)) i_ zt
  refine Zz 9 ?_;exact ac_ results90 () (bd_ rfl (by rw[m];symm;exact tk_ zaa_ zaa_)) i_ zt
 have x:i<d.length:=by omega
 obtain⟨L,C⟩:∃ F,d[i]? = some F:=⟨_,yaa_ x⟩;refine Zi 23 (λA=>?_) λA=>?_
 .have G:i<B.length:=by omega
  obtain⟨M,E⟩:∃ F,B[i]? = some F:=⟨_,yaa_ G⟩;refine Zz 18 ?_;refine f_ (vH_ L M) rfl i_ zt rfl λ_=>Zi 6 (λv=>?_) λv=>?_
  .refine Zz 10 ?_
   exact C_ ⟨i+1,x,(by rw[m,un_ C E,yaq_ v])⟩ zab_ zl i_ zh
  refine Zz 10 ?_;exact ac_ results90 () (bd_ rfl (by rw[m,un_ C E,yaf_ v])) i_ zt
 refine Zz 9 ?_;exact ac_ results90 () (bd_ rfl (by rw[m];symm;exact vI_ zaa_ zaa_)) i_ zt
theorem qu_ (x:Ax) (H:x.ok) (J:x.left.sz<=1000000) (K:x.right.sz<=1000000):Tri prog 89 #[Ax.val x] [] [Ax.memF x] (λ_:Unit=>i4_ x.wgt) (λ_=>[]) (λ_=>[]):=by
 refine g_ func89 rfl rfl ntmps89 rfl λY=>?_;have V:=H.cap;refine Zz 2 ?_;refine F_ rfl rfl λL=>Zz 10 ?_
 refine M_ al_ D_ bP_ rfl rfl rfl rfl rfl rfl λE=>?_;refine aL_ (List.flatMap Con.cells [x.left,x.right]) d_ rfl ?_;refine Zz 5 ?_;let Pu:Hp:=((L,.cells (Ax.cells x).toArray 51 (0,0))::[]);refine I_ (ι:={y:Nat×Int // y.1<=List.length [x.left,x.right]/\y.2=wgL (List.take y.1 [x.left,x.right])}) (λy=>[(1,zp_ L 0),(2,i4_ y.1.2),(11,.slice (some ⟨E,0,none⟩) (List.length [x.left,x.right]) 2),(12,i4_ 2),(13,i4_ y.1.1)]) (λy=>Pu) (λy=>[L_ (some ⟨E,0,none⟩) (List.flatMap Con.cells [x.left,x.right]),Ax.memF x]) (λy=>List.length [x.left,x.right] - y.1.1) ⟨((0:Nat),0),by simp,(by simp[wgL])⟩ zl d_ zh ?_;rintro ⟨⟨i,O⟩,Q,S⟩;dsimp only at Q S ⊢;have a0:=wgL_bd (l:=List.take i [x.left,x.right]) (λc hc=>(ky_ H J K (ybs_ hc)).2);have X:(List.take i [x.left,x.right]).length<=2:=by rw[yat_];exact Nat.min_le_right _ _
 refine Zi 2 (λT=>?_) λT=>?_
 .refine Zz 12 ?_
  refine e_ (bf_ rfl rfl rfl (bW_ zag_ zag_)) rfl ?_;refine Zz 12 ?_;refine M_ B_ U_ at_ rfl rfl rfl rfl rfl rfl λM=>?_;refine aL_ (List.flatMap ar_ [x.role,x.a,x.b]) d_ rfl ?_;refine Zz 5 ?_;have hB:O=wgL [x.left,x.right]:=by rw[S,yad_ zbz_]
  refine I_ (ι:={y:Nat×Int // y.1<=List.length [x.role,x.a,x.b]/\y.2=wgL [x.left,x.right]+(List.length x.roles:Int)+wgS (List.take y.1 [x.role,x.a,x.b])}) (λy=>[(1,zp_ L 0),(2,i4_ y.1.2),(11,.slice (some ⟨E,0,none⟩) (List.length [x.left,x.right]) 2),(12,i4_ 2),(13,i4_ i),(36,.slice (some ⟨M,0,none⟩) (List.length [x.role,x.a,x.b]) 3),(37,i4_ 3),(38,i4_ y.1.1)]) (λy=>Pu) (λy=>[L_ (some ⟨M,0,none⟩) (List.flatMap ar_ [x.role,x.a,x.b]),L_ (some ⟨E,0,none⟩) (List.flatMap Con.cells [x.left,x.right]),Ax.memF x]) (λy=>List.length [x.role,x.a,x.b] - y.1.1) ⟨((0:Nat),(O+(List.length x.roles:Int))),by simp,(by show (O+(List.length x.roles:Int))=_;rw[hB];simp[wgS])⟩ zl d_ zh ?_;rintro ⟨⟨j,yy⟩,R,P⟩;dsimp only at R P ⊢;have U:=wgS_bd (List.take j [x.role,x.a,x.b]);have Z:(List.take j [x.role,x.a,x.b]).length<=3:=by rw[yat_];exact Nat.min_le_right _ _
  refine Zi 2 (λm=>?_) λm=>?_
  .refine Zz 13 ?_
   exact ac_ results89 () (bd_ rfl (by rw[P,Ax.wgt_eq,yad_ zbz_])) i_ zt
  have B:j<List.length [x.role,x.a,x.b]:=by simp only[yai_,yaB_]at *;omega
  obtain⟨W,F⟩:∃ N,[x.role,x.a,x.b][j]? = some N:=⟨_,yaa_ B⟩;refine Zz 11 ?_;refine e_ (bN_ (ad:=(some ⟨M,0,none⟩)) ae_ rfl zf (y_ aO_ F 0 _ rfl)) rfl (Zi 6 (λI=>?_) λI=>?_)
  .refine Zz 6 ?_
   refine e_ (bf_ rfl rfl rfl (bW_ zag_ zag_)) rfl ?_;refine Zz 3 ?_;exact C_ ⟨(j+1,yy),B,(by show yy=_;rw[qs_ F,yaq_ I];omega)⟩ zab_ zl d_ zh
  refine Zz 5 ?_;refine e_ (bf_ rfl rfl rfl (bW_ zag_ zag_)) rfl ?_;refine Zz 4 ?_;refine e_ (bf_ rfl rfl rfl (bW_ zag_ zag_)) rfl ?_;refine Zz 3 ?_;exact C_ ⟨(j+1,(yy+1)),B,(by show (yy+1)=_;rw[qs_ F,yaf_ I];omega)⟩ zab_ zl d_ zh
 have A:i<List.length [x.left,x.right]:=by simp only[yai_,yaB_]at *;omega
 obtain⟨G,C⟩:∃ N,[x.left,x.right][i]? = some N:=⟨_,yaa_ A⟩;have d:G∈[x.left,x.right]:=yac_ C;have hcz:=(ky_ H J K d).2;refine Zz 11 ?_;refine e_ (ah_ (ad:=(some ⟨E,0,none⟩)) (us:=Con.cells G) aq_ D_ rfl zf (Con.cells_len _) (y_ Con.cells_len C)) rfl (u_ bP_ rfl λM=>n_ 0 D_ rfl rfl rfl rfl rfl rfl (Zi 6 (λm=>?_) λm=>?_))
 .refine Zz 6 ?_
  refine e_ (bf_ rfl rfl rfl (bW_ zag_ zag_)) rfl ?_;refine Zz 3 ?_;exact C_ ⟨(i+1,O),A,(by show O=_;rw[qt_ C,yaq_ m];omega)⟩ zab_ zl (c_ d_) zh
 refine Zz 6 ?_;refine f_ (size_c G (ky_ H J K d).1 (ky_ H J K d).2) rfl i_ (λv _ h=>by exact⟨(yo_ h.2.1 d),trivial⟩) rfl λ_=>?_;refine e_ (bf_ rfl rfl rfl (bW_ zag_ zag_)) rfl ?_;refine Zz 4 ?_;refine e_ (bf_ rfl rfl rfl (bW_ zag_ zag_)) rfl ?_;refine Zz 3 ?_;exact C_ ⟨(i+1,(O+(Con.sz G:Int))),A,(by show (O+(Con.sz G:Int))=_;rw[qt_ C,yaf_ m];omega)⟩ zab_ zl (c_ d_) zh
theorem lC_ {G:Prop} (h:G:=by
 refine Zz 8 ?_;refine f_ (rU_ x.right y.right F C) rfl i_ (λv _ h=>by exact⟨h.2.1.2.1,h.2.2.1.2.1,trivial⟩) rfl λ_=>Zi 7 (λA=>?_) λA=>?_
 .exact ic_
 refine Zz 10 ?_;exact gq_):G:=h
theorem gq_ {G:Prop} (h:G:=by
 exact ac_ results40 () (bd_ rfl (by unfold Ax.cmp;simp only[orF]at *;(repeat' split)<;>simp_all)) i_ zt):G:=h
theorem ic_ {G:Prop} (h:G:=by
 refine Zz 7 ?_;refine s_ 7 [0,1,2,3,5,6,7,8,10,11,12,13,15,16,17,18] zk zs (Zz 17 ?_);refine l_ 4 rfl zk (f_ (As_ x.roles y.roles x.ad y.ad x.cap y.cap (by have:=m.len;have:=m.cap;omega) (by have:=d.len;have:=d.cap;omega)) rfl i_ (λv _ h=>by exact⟨h.2.1.2.2,h.2.2.1.2.2,trivial⟩) rfl λ_=>?_);refine Zz 3 ?_;refine l_ 9 rfl zk (f_ (gf_ x.role y.role) rfl i_ zt rfl λ_=>Zz 3 ?_);refine l_ 14 rfl zk (f_ (gf_ x.a y.a) rfl i_ zt rfl λ_=>Zz 3 ?_);refine l_ 19 rfl zk (f_ (gf_ x.b y.b) rfl i_ zt rfl λ_=>Zz 3 ?_);refine l_ 20 rfl zk (M_ J_ K_ aN_ rfl rfl rfl rfl rfl rfl λB=>?_);refine aL_ (List.flatMap aY_ [(fx_ x.roles y.roles),(Lib.compareBytes x.role y.role),(Lib.compareBytes x.a y.a),(Lib.compareBytes x.b y.b)]) d_ rfl ?_;refine Zz 3 ?_;refine l_ 21 rfl zk (f_ (tW_ [(fx_ x.roles y.roles),(Lib.compareBytes x.role y.role),(Lib.compareBytes x.a y.a),(Lib.compareBytes x.b y.b)] (some ⟨B,0,none⟩) 4 zai_) rfl i_ zf rfl λ_=>Zz 3 ?_);refine s_ 0 [22] zk zs (Zz 5 ?_);exact gq_):G:=h
theorem qa_ (x y:Ax) (m:x.ok) (d:y.ok) (G:x.left.sz<=1000000) (F:x.right.sz<=1000000) (H:y.left.sz<=1000000) (C:y.right.sz<=1000000):Tri prog 40 #[Ax.val x,Ax.val y] [] [Ax.memF x,Ax.memF y] (λ_:Unit=>i4_ (Ax.cmp x y)) (λ_=>[]) (λ_=>[]):=by
 refine g_ func40 rfl rfl ntmps40 rfl λK=>?_;refine Zz 2 ?_;refine F_ rfl rfl λM=>F_ rfl rfl λL=>Zz 5 ?_
 refine s_ 7 [0,2,5,6,7,8] zk zs (Zz 7 ?_);refine l_ 1 rfl zk (f_ (qu_ x m G F) rfl i_ zf rfl λ_=>Zz 3 ?_);refine l_ 3 rfl zk (f_ (qu_ y d H C) rfl i_ zf rfl λ_=>Zz 3 ?_);refine l_ 4 rfl zk (f_ (eD_ (Ax.wgt x) (Ax.wgt y)) rfl i_ zt rfl λ_=>Zz 3 ?_);refine l_ 9 rfl zk (f_ (eD_ x.kind y.kind) rfl i_ zt rfl λ_=>Zz 3 ?_);refine l_ 10 rfl zk (M_ J_ K_ aN_ rfl rfl rfl rfl rfl rfl λJ=>?_);refine aL_ (List.flatMap aY_ [(Lib.compareInt (Ax.wgt x) (Ax.wgt y)),(Lib.compareInt x.kind y.kind)]) d_ rfl ?_;refine Zz 3 ?_;refine l_ 11 rfl zk (f_ (tW_ [(Lib.compareInt (Ax.wgt x) (Ax.wgt y)),(Lib.compareInt x.kind y.kind)] (some ⟨J,0,none⟩) 2 zai_) rfl i_ zf rfl λ_=>Zz 3 ?_);refine s_ 0 [12] zk zs (Zi 8 (λI=>?_) λI=>?_)
 .refine Zi 9 (λE=>?_) λE=>?_
  .refine Zi 9 (λA=>?_) λA=>?_
   .exact ic_
   refine Zz 10 ?_;exact gq_
  exact lC_
 refine Zz 8 ?_;refine f_ (rU_ x.left y.left G H) rfl i_ (λv _ h=>by exact⟨h.2.1.1,h.2.2.1.1,trivial⟩) rfl λ_=>Zi 7 (λE=>?_) λE=>?_
 .refine Zi 9 (λA=>?_) λA=>?_
  .exact ic_
  refine Zz 10 ?_;exact gq_
 exact lC_
end Go.Proofs.YtfjcabalehamcaaGreatDoor
