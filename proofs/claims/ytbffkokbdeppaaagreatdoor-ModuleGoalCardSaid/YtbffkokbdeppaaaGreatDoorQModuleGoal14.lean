/-
  Lemmas for the law ModuleGoal (no condition).
-/
import Derived.Test.YtbffkokbdeppaaaGreatDoorQModuleGoal13
set_option linter.unusedVariables false
set_option linter.unusedSimpArgs false
set_option linter.unusedSectionVars false
set_option maxHeartbeats 1000000
namespace Go.Proofs.YtbffkokbdeppaaaGreatDoor
open Go Go.Sx Go.Proofs Tryz
attribute [local irreducible] Code.wp wpList wpAnyH
open Go.Vs
theorem CZ_:Elt prog 26 28 5 64:=fT_ underlying26 (z:=.agg #[i4_ 0,str [],i4_ 0,i4_ 0,.slice none 0 0]) zad_ rfl zae_
theorem Con.cells_one (c:Con):c.cells.all Value.oneCell'=true:=rfl
def pC_ (l:List Con):Fct:=⟨λv=>∀ c∈l,c.mem v,λv v' hl h c hc=>c.memF.mono v v' hl (h c hc)⟩
theorem ic_ {S d:List Tre} {v:Vw} (h:(cV_ d).p v) (e:S.Perm d):(cV_ S).p v:=λt k=>h t (e.mem_iff.1 k)
theorem oy_ {S:List Tre} {v:Vw} (h:(cV_ S).p v):(cV_ (cpL qT S)).p v:=λt d=>h t (sg_ d)
theorem xn_ {a b:List Tre} {v:Vw} (h:(cV_ a).p v) (k:(cV_ b).p v):(cV_ (a++b)).p v:=λt d=>(yai_.1 d).elim (h t) (k t)
theorem yC_ {l:List Tre} {v:Vw} (h:(cV_ l).p v):(pC_ (l.map Tre.con)).p v:=λc e=>by
  obtain⟨t,d,rfl⟩:=yan_.1 e;exact ((Tre.mem_iff t v).1 (h t d)).1
theorem tdR_sz {p q:Con} {e:Int} (h:TdR p (q,e)) (d:e=0):q.sz<=p.sz/\q.ok:=by
  obtain⟨k,m⟩:=h.2 d
  grind[Con.sz_core,Con.tdy_sz]
theorem yt_ {q:Con} (h:q.kind=1):(([]:List Tre).map Tre.con).map Con.core=(Con.flat1 q).map Con.core:=by grind[Con.flat1]
theorem yv_ {q:Con} {us:List Tre} (h:q.kind=5) (d:us.map Tre.con=q.parts):(us.map Tre.con).map Con.core=(Con.flat1 q).map Con.core:=by grind[Con.flat1]
theorem yu_ {q:Con} {t:Tre} (d:¬ q.kind=1) (e:¬ q.kind=5) (h:t.con=q):([t].map Tre.con).map Con.core=(Con.flat1 q).map Con.core:=by grind[Con.flat1]
theorem Bv_ {c p q:Con} {e:Int} {ad:Ao} (k:c.ok) (h:c.tdy=if p.tdy.2≠0\/p.tdy.1.kind=2 then p.tdy else (Con.mk 6 c.name 0 0 none 0 [p.tdy.1],0)) (y:TdR p (q,e)) (B:e=0) (hk:q.kind≠2):TdR c (.mk 6 c.name 0 0 ad 1 [q],0):=by
 obtain⟨m,d⟩:=y;dsimp only at m d;obtain⟨v,x⟩:=d B;have A:=Con.core_kind v;rw[yag_ zak_]at h;unfold TdR;rw[h];refine⟨rfl,λ_=>⟨?_,?_⟩⟩
 .grind[Con.core_eq,Con.kind,Con.name,Con.lo,Con.hi,Con.parts]
 exact⟨by decide,by decide,Con.ok_name k,by decide,by decide,by decide,by decide,by simp,by simp,Con.oks_iff.2 λp C=>by grind⟩
theorem zC_ {c:Con} (h:c.check=0) (hk:c.kind=6):c.parts.length=1:=by
  have f:=Con.fields (Con.check_zero h).1;have d:=f.le;have e:=f.mo
  grind[nd,ei_]
theorem Cy_ (ps:List Con) (O:Ao) (Z:Nat) (hsz:Con.sz.szs ps<=64) (hT:(∀ p∈ps,Tri prog 54 #[Con.val p] [] [Con.memF p] (λy:{y:Con×Int // TdR p y}=>.tuple #[Con.val y.1.1,i4_ y.1.2]) (λ_=>[]) (λy=>[Con.memF y.1.1]))):Tri prog 117 #[.slice O ps.length Z] [] [X_ O (ps.flatMap Con.cells),pC_ ps] (λy:{y:Con×Int // MtR ps y}=>.tuple #[Con.val y.1.1,i4_ y.1.2]) (λ_=>[]) (λy=>[Con.memF y.1.1]):=by
 refine j_ func117 rfl rfl ntmps117 rfl λv_1=>?_;have hpl:=szs_len ps;refine Zz 2 ?_;refine C_ ba_ rfl λa0=>Zz 17 ?_
 let Pu:Nat×Obj:=(a0,.cells (Con.cells (Con.mk 0 [] 0 0 none 0 [])).toArray 28 (0,0));refine J_ (ι:={y:Nat×List Tre×Value×Hp // y.1<=List.length ps/\McI ps y.1 y.2.1/\zR 171 7 Tre.cells y.2.2.1 y.2.1 y.2.2.2}) (λy=>[(2,zp_ a0 0),(3,i4_ 0),(4,y.1.2.2.1),(15,.slice O ps.length Z),(16,i4_ (List.length ps:Int)),(17,i4_ y.1.1)]) (λy=>(Pu::y.1.2.2.2)) (λy=>[cV_ y.1.2.1,X_ O (ps.flatMap Con.cells),pC_ ps]) (λy=>ps.length - y.1.1) ⟨((0:Nat),([]:List Tre),(.slice none 0 0),[]),zai_,McI.nil,(at_.nil _ _)⟩ zl e_ (λv _ h=>by exact⟨(show (cV_ ([]:List Tre)).p v from λt B=>by simp at B),h.1,h.2.1,trivial⟩) ?_;rintro ⟨⟨i,ts,P,b0⟩,hi_i,hM,I⟩;dsimp only at hi_i hM I ⊢;have hMl:=hM.len;have hMs:=szs_take_le (l:=ps) i;refine Zi 2 (λb4=>?_) λb4=>?_
 .refine Zz 9 ?_
  refine f_ (Ca_ I zaa_ (λt B=>(hM.good t B).1)) rfl E_ zf rfl λ⟨⟨Hs_1,S⟩,hs_1,F,hs_3⟩=>?_;dsimp only;dsimp only at hs_1 F hs_3;refine Zz 2 ?_;refine u_ (aW_ aJ_) (Zz 3 ?_);refine f_ (yD_ S P Hs_1 hs_1 (λt B=>(hM.good t (F.mem_iff.1 B)).1) (by have:=F.length_eq;omega)) rfl E_ (λv _ h=>by exact⟨(ic_ h.1 F),trivial⟩) rfl λ⟨⟨a8,Hc_1⟩,L⟩=>?_;dsimp only;dsimp only at L;obtain⟨E,a7⟩:∃ E,E=cpL qT S:=⟨_,rfl⟩;rw[<-a7]at L;have d:=McI.done (by have e:=hM;rw[show i=ps.length from zaa_]at e;exact e) F hs_3;rw[<-a7]at d;have hDg:∀ t∈E,kg_ t/\t.con.ok:=λt B=>by rw[a7]at B;exact hM.good t (F.mem_iff.1 (sg_ B))
  have hDn:E.length<=64:=by have e:=Dd_ (q:=qT) S;rw[<-a7]at e;have q_2:=F.length_eq;omega
  refine Zz 4 ?_;refine u_ (aW_ aJ_) (au_ (bQ_ L E_ λa5 a2 hdad hcdad hmdad hzdad=>?_));subst hdad;refine Zz 7 ?_;refine J_ (ι:={y:Nat // y<=List.length E/\(∀ t∈List.take y E,t.con.kind≠2)}) (λy=>[(2,zp_ a0 0),(3,i4_ 0),(4,.slice a5 E.length a2),(15,.slice O ps.length Z),(16,i4_ (List.length ps:Int)),(17,i4_ i),(59,.slice a5 E.length a2),(60,i4_ (List.length E:Int)),(61,i4_ y.1)]) (λy=>(Pu::[])) (λy=>[X_ a5 (E.flatMap Tre.cells),cV_ ts,X_ O (ps.flatMap Con.cells),pC_ ps]) (λy=>E.length - y.1) ⟨(0:Nat),by simp,zai_⟩ zl e_ zh ?_;rintro ⟨k,hi_k,A⟩;dsimp only at hi_k A ⊢;refine Zi 2 (λQ=>?_) λQ=>?_
  .refine Zi 12 (λJ=>?_) λJ=>?_
   .refine Zi 8 (λa4=>?_) λa4=>?_
    .refine Zi 8 (λa3=>?_) λa3=>?_
     .refine Zz 9 ?_
      refine p_ 0 R_ rfl rfl rfl rfl rfl rfl (Zz 11 ?_);refine J_ (ι:={y:Nat×Value×Hp // y.1<=List.length E/\zR 28 5 Con.cells y.2.1 (List.map Tre.con (E.take y.1)) y.2.2}) (λy=>[(2,zp_ a0 0),(3,i4_ 0),(4,.slice a5 E.length a2),(15,.slice O ps.length Z),(16,i4_ (List.length ps:Int)),(17,i4_ i),(59,.slice a5 E.length a2),(60,i4_ (List.length E:Int)),(61,i4_ k),(91,.slice a5 E.length a2),(92,i4_ (List.length E:Int)),(93,i4_ y.1.1)]) (λy=>((a0,.cells #[i4_ 5,str [],i4_ 0,i4_ 0,y.1.2.1] 28 (0,0))::y.1.2.2)) (λy=>[X_ a5 (E.flatMap Tre.cells),cV_ ts,X_ O (ps.flatMap Con.cells),pC_ ps]) (λy=>E.length - y.1.1) ⟨((0:Nat),(.slice none 0 0),[]),by simp,(at_.nil _ _)⟩ zl e_ zh ?_;rintro ⟨⟨m,sv_P,H_P⟩,hi_m,Y⟩;dsimp only at hi_m Y ⊢;refine Zi 2 (λb5=>?_) λb5=>?_
      .refine Zz 9 ?_
       refine p_ 0 t_ rfl rfl rfl rfl rfl (by have q:=(fQ_ Y).2;simp only[Value.cells,ycj_,ycy_,q,ycr_];rfl) ?_;refine Zz 4 ?_;have hml:List.take m E=E:=yac_ zaa_;rw[hml]at Y;refine bQ_ Y E_ λqad b8 hqad hcqad hmqad hzqad=>?_;subst hqad;have U:=yh_ (jP_ λc hc=>by obtain⟨t,B,rfl⟩:=yan_.1 hc;exact A t (by rw[yac_ zaa_];exact B)) zap_ zap_ zap_;rw[U]at d;exact dk_ ⟨((Con.mk 5 [] 0 0 qad b8 (E.map Tre.con)),0),⟨d.1,λ_=>⟨by rw[<-d.2,Con.core_eq,Con.core_eq];rfl,(by refine⟨by decide,by decide,by simp,by decide,by decide,by decide,by decide,hcqad,by rw[yaC_];omega,Con.oks_iff.2 λp hp=>?_⟩;obtain⟨t,B,rfl⟩:=yan_.1 hp;exact (hDg t B).2)⟩⟩⟩ (λaa v M A=>cf_ (us:=Con.cells (Con.mk 5 [] 0 0 qad b8 (E.map Tre.con))) 0 lN_ ae_ t_ rfl rfl rfl rfl aa v M A) i_ (λv _ h=>by exact⟨(Con.mem_iff (Con.mk 5 [] 0 0 qad b8 (E.map Tre.con)) v).2 ⟨h.1,yC_ (show (cV_ E).p v from a7▸oy_ (ic_ h.2.2.1 F))⟩,trivial⟩)
      have G:m<E.length:=by omega
      obtain⟨C,H⟩:∃ T,E[m]? = some T:=⟨_,yaa_ G⟩;refine Zz 12 ?_;refine C_ cF_ rfl λb_2=>p_ 0 aL_ rfl rfl rfl rfl rfl rfl (Zz 7 ?_)
      refine B_ af_ t_ ba_ rfl rfl rfl rfl rfl rfl λb_3=>?_;refine aH_ (news:=List.flatMap Con.cells [(Tre.con C)]) CZ_ Y rfl rfl (c_ (c_ E_)) rfl (bz_ 0 rfl) (λu hu=>aF_ Con.cells_one hu) zay_ zaA_ rfl λsv_2 a1 b4=>?_;refine u_ yaE_ ?_;have K:=zsa b4;refine Zz 1 ?_;refine bT_ 2 K sizeOf26 rfl rfl rfl rfl (Zz 7 ?_);exact w_ ⟨(m+1,sv_2,a1),G,(by rw[take_snoc H,yaz_];exact K)⟩ zab_ zl (l_ (c_ (c_ e_)) (c_ E_)) zh
     refine Zz 6 ?_;refine d_ (y_ iX_ rfl rfl) rfl (p_ 0 t_ rfl rfl rfl rfl rfl rfl (Zz 4 ?_));have U:=yg_ (jP_ λc hc=>by obtain⟨t,B,rfl⟩:=yan_.1 hc;exact A t (by rw[yac_ zaa_];exact B)) zap_ zap_ zap_;rw[U]at d;exact dk_ ⟨(Con.zeroC,2),⟨d.1,λq=>by cases q⟩⟩ (λaa v M A=>cf_ (us:=Con.cells Con.zeroC) 0 lN_ ae_ t_ rfl rfl rfl rfl aa v M A) i_ (λv _ h=>by exact⟨(show Con.mem Con.zeroC v from ⟨.inl rfl,trivial⟩),trivial⟩)
    refine Zz 5 ?_;have G:0<E.length:=by omega
    obtain⟨C,H⟩:∃ T,E[0]? = some T:=⟨_,yaa_ G⟩;have N:C∈E:=yab_ H;refine Zz 4 ?_;refine d_ (ak_ (ad:=a5) (us:=Con.cells (Tre.con C)) ae_ t_ rfl zf rfl (xq_ 0 (A_ Tre.cells_len H) (Tre.con_cells C))) rfl (p_ 0 t_ rfl rfl rfl rfl rfl rfl (Zz 4 ?_));have U:=yd_ (jP_ λc hc=>by obtain⟨t,B,rfl⟩:=yan_.1 hc;exact A t (by rw[yac_ zaa_];exact B)) zap_ (x:=Tre.con C) (by rw[yaM_,H];rfl);rw[U]at d;exact dk_ ⟨((Tre.con C),0),⟨d.1,λ_=>⟨d.2,(hDg C N).2⟩⟩⟩ (λaa v M A=>cf_ (us:=Con.cells (Tre.con C)) 0 lN_ ae_ t_ rfl rfl rfl rfl aa v M A) i_ (λv _ h=>by exact⟨((Tre.mem_iff C v).1 ((show (cV_ E).p v from a7▸oy_ (ic_ h.2.1 F)) C N)).1,trivial⟩)
   refine Zz 6 ?_;refine d_ (y_ iX_ rfl rfl) rfl (p_ 0 t_ rfl rfl rfl rfl rfl rfl (Zz 4 ?_));have U:=ye_ (jP_ λc hc=>by obtain⟨t,B,rfl⟩:=yan_.1 hc;exact A t (by rw[yac_ zaa_];exact B)) zap_;rw[U]at d;exact dk_ ⟨((Con.mk 1 [] 0 0 none 0 []),0),⟨d.1,λ_=>⟨d.2,by simp[Con.ok,Con.ok.oks]⟩⟩⟩ (λaa v M A=>cf_ (us:=Con.cells (Con.mk 1 [] 0 0 none 0 [])) 0 lN_ ae_ t_ rfl rfl rfl rfl aa v M A) i_ (λv _ h=>by exact⟨(show Con.mem (Con.mk 1 [] 0 0 none 0 []) v from ⟨.inl rfl,trivial⟩),trivial⟩)
  have G:k<E.length:=by omega
  obtain⟨C,H⟩:∃ T,E[k]? = some T:=⟨_,yaa_ G⟩;have N:C∈E:=yab_ H;refine Zz 12 ?_;refine C_ cF_ rfl λb_2=>p_ 0 aL_ rfl rfl rfl rfl rfl rfl (Zi 7 (λJ=>?_) λJ=>?_)
  .refine Zz 10 ?_
   exact w_ ⟨k+1,G,(λt B=>by rw[take_snoc H,yai_,yam_]at B;rcases B with B|rfl;exact A t B;exact J)⟩ zab_ zl (c_ e_) zh
  refine Zz 7 ?_;refine p_ 1 t_ rfl rfl rfl rfl rfl rfl (Zz 4 ?_);have U:=yf_ (CS_ (k:=k) (λc hc=>by rw[<-ycE_]at hc;obtain⟨t,B,rfl⟩:=yan_.1 hc;exact A t B) (by rw[yaM_,H];rfl) J);rw[U]at d;exact dk_ ⟨((Tre.con C),0),⟨d.1,λ_=>⟨d.2,(hDg C N).2⟩⟩⟩ (λaa v M A=>cf_ (us:=Con.cells (Tre.con C)) 1 lN_ ae_ t_ rfl rfl rfl rfl aa v M A) i_ (λv _ h=>by exact⟨((Tre.mem_iff C v).1 ((show (cV_ E).p v from a7▸oy_ (ic_ h.2.1 F)) C N)).1,trivial⟩)
 have W:i<ps.length:=by omega
 obtain⟨p_1,X⟩:∃ T,ps[i]? = some T:=⟨_,yaa_ W⟩;have a6:p_1∈ps:=yab_ X;have hps_1:=Con.sz_mem a6;refine Zz 12 ?_;refine C_ ba_ rfl λb_2=>p_ 0 t_ rfl rfl rfl rfl rfl rfl (Zz 5 ?_)
 refine f_ (hT p_1 a6) rfl i_ (λv _ h=>by exact⟨(h.2.2.1 p_1 a6),trivial⟩) rfl λ⟨⟨e,e_2⟩,K⟩=>?_;dsimp only;try dsimp only at K
 refine Zz 3 ?_;refine C_ ba_ rfl λb_3=>p_ 0 t_ rfl rfl rfl rfl rfl rfl (Zi 7 (λQ=>?_) λQ=>?_)
 .have a9:e_2=0:=by simpa using Q
  have hqz:=tdR_sz K a9;refine Zi 14 (λJ=>?_) λJ=>?_
  .refine Zi 6 (λa4=>?_) λa4=>?_
   .refine Zz 7 ?_
    refine f_ (rV_ _ e (yad_ _) zaa_) rfl i_ zf rfl λ⟨b7,b3,hgw⟩=>?_;dsimp only;refine B_ aX_ aL_ cF_ rfl rfl rfl rfl rfl rfl λb_4=>?_;refine aH_ (news:=List.flatMap Tre.cells [b7]) sf_ I rfl rfl (c_ (c_ (c_ E_))) rfl (bz_ 0 rfl) (λu hu=>aF_ Tre.cells_one hu) zay_ zaA_ rfl λa8 a1 a3=>?_;refine u_ yaE_ ?_;have b6:=zsa a3;refine Zz 8 ?_;exact w_ ⟨(i+1,(ts++[b7]),a8,a1),W,(hM.add X K a9 (yu_ J a4 b3) (λt B=>by rw[yam_]at B;subst B;rw[kg_,b3];exact⟨⟨hgw,by omega⟩,hqz.2⟩)),b6⟩ zab_ zl (l_ (c_ (c_ (c_ e_))) (c_ (c_ E_))) (λv _ h=>by exact⟨ko_ h.2.2.1 h.1,h.2.2.2.1,h.2.2.2.2.1,trivial⟩)
   refine Zz 13 ?_;have hw_1:at_ 171 7 P (List.length (ts++([]:List Tre))) (List.flatMap Tre.cells (ts++([]:List Tre))) b0:=by have q:=I;rw[yas_];exact q
   refine J_ (ι:={y:Nat×List Tre×Value×Hp // y.1<=List.length e.parts/\List.map Tre.con y.2.1=List.take y.1 e.parts/\(∀ t∈y.2.1,kg_ t/\t.con.ok)/\zR 171 7 Tre.cells y.2.2.1 (ts++y.2.1) y.2.2.2}) (λy=>[(2,zp_ a0 0),(3,i4_ 0),(4,y.1.2.2.1),(15,.slice O ps.length Z),(16,i4_ (List.length ps:Int)),(17,i4_ i),(42,.slice e.ad e.parts.length e.cap),(43,i4_ (List.length e.parts:Int)),(44,i4_ y.1.1)]) (λy=>((b_3,.cells (Con.cells e).toArray 28 (0,0))::((b_2,.cells (Con.cells p_1).toArray 28 (0,0))::(Pu::y.1.2.2.2)))) (λy=>[cV_ y.1.2.1,cV_ ts,X_ O (ps.flatMap Con.cells),pC_ ps,Con.memF e]) (λy=>e.parts.length - y.1.1) ⟨((0:Nat),([]:List Tre),P,b0),zai_,zai_,zai_,hw_1⟩ zl zp (λv _ h=>by exact⟨(show (cV_ ([]:List Tre)).p v from λt B=>by simp at B),h.2.1,h.2.2.1,h.2.2.2.1,h.1,trivial⟩) ?_;rintro ⟨⟨j,us,P,b0⟩,hj,hus,hug,I⟩;dsimp only at hj hus hug I ⊢;have hql:=Con.parts_lt e;have hul:=yae_ List.length hus;rw[yaC_,yaI_]at hul;refine Zi 2 (λa3=>?_) λa3=>?_
   .refine Zz 11 ?_
    exact w_ ⟨(i+1,(ts++us),P,b0),W,(hM.add X K a9 (yv_ a4 (by rw[hus,yac_ zaa_])) hug),I⟩ zab_ zl zp (λv _ h=>by exact⟨xn_ h.2.1 h.1,h.2.2.1,h.2.2.2.1,trivial⟩)
   have b9:j<e.parts.length:=by omega
   obtain⟨c_1,L⟩:∃ T,e.parts[j]? = some T:=⟨_,yaa_ b9⟩;have V:c_1∈e.parts:=yab_ L;refine Zz 10 ?_;refine d_ (P_ af_ t_ rfl rfl (λv _ h=>av_ (n:=5) Con.cells_len zae_ (by exact ((Con.mem_iff e v).1 h.2.2.2.2.1).1) L) zaa_ zag_) rfl ?_;refine d_ (ak_ (ad:=e.ad) (us:=Con.cells c_1) ae_ t_ rfl (λv _ h=>by exact ((Con.mem_iff e v).1 h.2.2.2.2.1).1) (Con.cells_len _) (A_ Con.cells_len L)) rfl (C_ ba_ rfl λb_4=>p_ 0 t_ rfl rfl rfl rfl rfl rfl (Zz 5 ?_));refine f_ (rV_ _ c_1 (yad_ _) (by have:=Con.sz_part V;omega)) rfl i_ (λv _ h=>by exact⟨(Con.mem_part (c:=e) h.2.2.2.2.1 V),trivial⟩) rfl λ⟨b7,b3,hgw⟩=>?_;dsimp only;refine B_ aX_ aL_ cF_ rfl rfl rfl rfl rfl rfl λb_5=>?_;refine aH_ (news:=List.flatMap Tre.cells [b7]) sf_ I rfl rfl (c_ (c_ (c_ (c_ E_)))) rfl (bz_ 0 rfl) (λu hu=>aF_ Tre.cells_one hu) zay_ zaA_ rfl λa8 a1 b5=>?_;refine u_ yaE_ ?_;have b6:=zsa b5;refine Zz 8 ?_;exact w_ ⟨(j+1,(us++[b7]),a8,a1),b9,(by rw[take_snoc L,yaz_,hus];simp[b3]),(λt B=>by rcases yai_.1 B with B|B;exact hug t B;rw[yam_]at B;subst B;rw[kg_,b3];exact⟨⟨hgw,by have:=Con.sz_part V;omega⟩,Con.ok_part hqz.2 V⟩),(by rw[<-yap_];exact b6)⟩ zab_ zl (l_ (c_ (c_ e_)) (l_ (c_ (c_ e_)) (l_ (c_ (c_ e_)) (c_ E_)))) (λv _ h=>by exact⟨ko_ h.2.1 h.1,h.2.2.1,h.2.2.2.1,h.2.2.2.2.1,h.2.2.2.2.2.1,trivial⟩)
  refine Zz 11 ?_;exact w_ ⟨(i+1,(ts++[]),P,b0),W,(hM.add X K a9 (yt_ J) zai_),(by rw[yas_];exact I)⟩ zab_ zl (l_ (c_ (c_ e_)) (c_ E_)) (λv _ h=>by exact⟨(show (cV_ (ts++[])).p v from by rw[yas_];exact h.2.1),h.2.2.1,h.2.2.2.1,trivial⟩)
 refine Zz 5 ?_;refine d_ (y_ iX_ rfl rfl) rfl (Zz 1 ?_);refine p_ 2 t_ rfl rfl rfl rfl rfl rfl (Zz 4 ?_);exact dk_ ⟨(Con.zeroC,e_2),⟨MtE_er hM X K Q,λq=>absurd q Q⟩⟩ (λaa v A M=>cf_ (us:=Con.cells Con.zeroC) 2 lN_ ae_ t_ rfl rfl rfl rfl aa v A M) i_ (λv _ h=>by exact⟨(show Con.mem Con.zeroC v from ⟨.inl rfl,trivial⟩),trivial⟩)
theorem mp_ {G:Prop} (h:G:=by
 refine p_ 1 t_ rfl rfl rfl rfl rfl rfl (Zz 4 ?_);exact dk_ ⟨(B,A),(by rw[yaq_ (by first|exact .inl (by rw[<-d.1];assumption)|(by_cases J:A=0<;>first|exact .inl (by rw[<-d.1];exact J)|exact .inr (by rw[<-Con.core_kind (d.2 J).1];assumption)))]at F;unfold TdR;rw[F];exact d)⟩ (λH v x m=>cf_ (us:=Con.cells B) 1 results54 ae_ t_ rfl rfl rfl rfl H v x m) i_ zf):G:=h
theorem BI_ (c:Con) (N:c.ok) (S:c.check=0) (U:(∀ p∈c.parts,Tri prog 54 #[Con.val p] [] [Con.memF p] (λy:{y:Con×Int // TdR p y}=>.tuple #[Con.val y.1.1,i4_ y.1.2]) (λ_=>[]) (λy=>[Con.memF y.1.1]))) (Q:c.kind=5->Tri prog 117 #[.slice c.ad c.parts.length c.cap] [] [X_ c.ad (c.parts.flatMap Con.cells),pC_ c.parts] (λy:{y:Con×Int // MtR c.parts y}=>.tuple #[Con.val y.1.1,i4_ y.1.2]) (λ_=>[]) (λy=>[Con.memF y.1.1])):Tri prog 54 #[Con.val c] [] [Con.memF c] (λy:{y:Con×Int // TdR c y}=>.tuple #[Con.val y.1.1,i4_ y.1.2]) (λ_=>[]) (λy=>[Con.memF y.1.1]):=by
 refine j_ func54 rfl rfl ntmps54 rfl λV=>?_;refine Zz 2 ?_;refine L_ rfl rfl λW=>C_ ba_ rfl λT=>Zi 13 (λC=>?_) λC=>?_
 .refine Zi 6 (λk=>?_) λk=>?_
  .refine Zz 9 ?_
   refine p_ 0 t_ rfl rfl rfl rfl rfl rfl (Zz 4 ?_);exact dk_ ⟨(c,0),(by unfold TdR;rw[Con.tdy_self k C];exact⟨rfl,λ_=>⟨rfl,N⟩⟩)⟩ (λH v x m=>cf_ (us:=Con.cells c) 0 results54 ae_ t_ rfl rfl rfl rfl H v x m) i_ zf
  refine Zz 8 ?_;refine f_ (Q k) rfl i_ (λv _ h=>by exact⟨((Con.mem_iff c v).1 h.1).1,((Con.mem_iff c v).1 h.1).2,trivial⟩) rfl λ⟨⟨G,A⟩,d⟩=>?_;dsimp only;try dsimp only at d
  refine Zz 2 ?_;refine p_ 0 t_ rfl rfl rfl rfl rfl rfl (Zz 4 ?_);exact dk_ ⟨(G,A),(by unfold TdR;rw[Con.tdy_and k];exact d)⟩ (λH v x m=>cf_ (us:=Con.cells G) 0 results54 ae_ t_ rfl rfl rfl rfl H v x m) i_ zf
 have M:=zC_ S C;have K:0<c.parts.length:=by omega
 obtain⟨I,e⟩:∃ A,c.parts[0]? = some A:=⟨_,yaa_ K⟩;have E:I∈c.parts:=yab_ e;have P:Con.parts c=[I]:=by have G:=yce_.1 M;obtain⟨z,J⟩:=G;rw[J]at e;simp at e;rw[J,e]
 have F:=Con.tdy_some C P;refine Zz 8 ?_;refine d_ (P_ af_ t_ rfl rfl (λv _ h=>av_ (n:=5) Con.cells_len zae_ zaU_ e) zaa_ zag_) rfl ?_;refine d_ (ak_ (ad:=c.ad) (us:=Con.cells I) ae_ t_ rfl (λv _ h=>by exact ((Con.mem_iff c v).1 h.1).1) (Con.cells_len _) (A_ Con.cells_len e)) rfl (f_ (U I E) rfl i_ (λv _ h=>by exact⟨(Con.mem_part (c:=c) h.1 E),trivial⟩) rfl λ⟨⟨B,A⟩,d⟩=>?_);dsimp only;try dsimp only at d
 refine Zz 3 ?_;refine C_ ba_ rfl λX=>p_ 0 t_ rfl rfl rfl rfl rfl rfl (Zi 7 (λk=>?_) λk=>?_)
 .refine Zi 6 (λO=>?_) λO=>?_
  .refine Zz 11 ?_
   refine B_ af_ t_ ba_ rfl rfl rfl rfl rfl rfl λL=>?_;refine U_ (List.flatMap Con.cells [B]) e_ rfl ?_;refine d_ (y_ iX_ rfl rfl) rfl (p_ 1 t_ rfl rfl rfl rfl rfl rfl (Zz 4 ?_));exact dk_ ⟨((Con.mk 6 c.name 0 0 (some ⟨L,0,none⟩) 1 [B]),0),(Bv_ N F d (by first|assumption|simp_all) (by first|assumption|simp_all))⟩ (λH v x m=>cf_ (us:=Con.cells (Con.mk 6 c.name 0 0 (some ⟨L,0,none⟩) 1 [B])) 1 results54 ae_ t_ rfl rfl rfl rfl H v x m) i_ (λv _ h=>by exact⟨⟨h.1,⟨h.2.1,trivial⟩⟩,trivial⟩)
  refine Zz 8 ?_;exact mp_
 refine Zz 12 ?_;exact mp_
theorem uH_ (c:Con) (d:c.ok) (k:c.check=0):Tri prog 54 #[c.val] [] [c.memF] (λy:{y:Con×Int // TdR c y}=>.tuple #[Con.val y.1.1,i4_ y.1.2]) (λ_=>[]) (λy=>[Con.memF y.1.1]):=by
  have m:∀ n (c:Con),c.sz<=n->c.ok->c.check=0->Tri prog 54 #[c.val] [] [c.memF] (λy:{y:Con×Int // TdR c y}=>.tuple #[Con.val y.1.1,i4_ y.1.2]) (λ_=>[]) (λy=>[Con.memF y.1.1]):=by
    intro n
    induction n with
    | zero=>grind[Con.sz_pos]
    | succ n ih =>
      intro c h d k;have e:∀ p∈c.parts,Tri prog 54 #[Con.val p] [] [Con.memF p] (λy:{y:Con×Int // TdR p y}=>.tuple #[Con.val y.1.1,i4_ y.1.2]) (λ_=>[]) (λy=>[Con.memF y.1.1]):=λp e=>ih p (by have:=Con.sz_part e;omega) (Con.ok_part d e) (Con.check_part k e)
      refine BI_ c d k e λ_=>Cy_ c.parts c.ad c.cap ?_ e
      have:=(Con.check_zero k).2
      grind[Con.sz_eq]
  exact m c.sz c (yad_ _) d k
def TyR (x:Ax) (y:Ax×Int):Prop:=y.2=x.tdyE/\(y.2=0->TdyOf x y.1/\y.1.ok)
def SdF (u:Bool) (c q:Con):Prop:=(u=true->TdR c (q,0))/\(u=false->q=c)
theorem SdF.core {u:Bool} {c q:Con} (h:SdF u c q):q.core=(if u=true then c.tdy.1 else c).core:=by
  cases u with
  | true=>rw[yaq_ rfl];exact ((h.1 rfl).2 rfl).1
  | false=>rw[yag_ zai_,h.2 rfl]
theorem SdF.ok {u:Bool} {c q:Con} (h:SdF u c q) (d:c.ok):q.ok:=by
  cases u with
  | true=>exact ((h.1 rfl).2 rfl).2
  | false=>rw[h.2 rfl];exact d
theorem SdF.er {u:Bool} {c q:Con} (h:SdF u c q):¬ (u=true/\c.tdy.2≠0):=λk=>k.2 (h.1 k.1).1.symm
theorem SdF.yes {u:Bool} {c q:Con} {e:Int} (m:u=true) (h:TdR c (q,e)) (d:e=0):SdF u c q:=⟨λ_=>by grind,λk=>by grind⟩
theorem SdF.no {u:Bool} {c:Con} (d:¬ u=true):SdF u c c:=⟨λk=>absurd k d,λ_=>rfl⟩
theorem SdF.sz {u:Bool} {c q:Con} (h:SdF u c q):q.sz<=c.sz:=by
  cases u with
  | true =>
    rw[Con.sz_core _ _ ((h.1 rfl).2 rfl).1]
    grind[Con.tdy_sz]
  | false=>rw[h.2 rfl];simp
theorem TyE1 {x y:Ax} (h:x.check≠0):TyR x (y,x.check):=⟨by grind[Ax.tdyE],λk=>absurd k h⟩
theorem TyE2 {x y:Ax} {q:Con} {e:Int} (h:x.check=0) (A:(us x.kind).left=true) (d:TdR x.left (q,e)) (m:e≠0):TyR x (y,e):=by
  have v:e=x.left.tdy.2:=d.1;refine⟨?_,λk=>absurd k m⟩
  grind[Ax.tdyE]
theorem TyE3 {x y:Ax} {l q:Con} {e:Int} (h:x.check=0) (hl:SdF (us x.kind).left x.left l) (A:(us x.kind).right=true) (d:TdR x.right (q,e)) (m:e≠0):TyR x (y,e):=by
  have v:e=x.right.tdy.2:=d.1;refine⟨?_,λk=>absurd k m⟩
  grind[Ax.tdyE,SdF.er]
theorem Ty_e {x:Ax} {l r:Con} (h:x.check=0) (hl:SdF (us x.kind).left x.left l) (d:SdF (us x.kind).right x.right r):x.tdyE=0:=by
  grind[Ax.tdyE,SdF.er]
theorem Bu_ {x:Ax} {l r:Con} (hl:SdF (us x.kind).left x.left l) (d:SdF (us x.kind).right x.right r):Con.cmp x.tdyL x.tdyR=Con.cmp l r:=Con.cmp_of hl.core.symm d.core.symm
theorem Dx_ {x:Ax} {l r:Con} (d:x.ok) (h:x.check=0) (hl:SdF (us x.kind).left x.left l) (k:SdF (us x.kind).right x.right r) (m:¬ ((x.kind=2\/x.kind=3)/\0<Con.cmp l r)):TyR x (.mk x.kind x.opn l r x.ad x.cap x.roles x.role x.a x.b,0):=by
 have e:¬ x.swp:=by grind[Ax.swp,Bu_]
 refine⟨(Ty_e h hl k).symm,λ_=>⟨⟨rfl,rfl,rfl,rfl,rfl,rfl,?_,?_⟩,?_⟩⟩
 .rw[yag_ e];exact hl.core
 .rw[yag_ e];exact k.core
 exact⟨d.lo,d.hi,hl.ok d.left,k.ok d.right,d.len,d.cap,d.roles,d.role,d.a,d.b⟩
theorem Dw_ {x:Ax} {l r:Con} (d:x.ok) (h:x.check=0) (hl:SdF (us x.kind).left x.left l) (k:SdF (us x.kind).right x.right r) (hk:x.kind=2\/x.kind=3) (m:0<Con.cmp l r):TyR x (.mk x.kind x.opn r l x.ad x.cap x.roles x.role x.a x.b,0):=by
 have e:x.swp:=by grind[Ax.swp,Bu_]
 refine⟨(Ty_e h hl k).symm,λ_=>⟨⟨rfl,rfl,rfl,rfl,rfl,rfl,?_,?_⟩,?_⟩⟩
 .rw[yaq_ e];exact k.core
 .rw[yaq_ e];exact hl.core
 exact⟨d.lo,d.hi,k.ok d.right,hl.ok d.left,d.len,d.cap,d.roles,d.role,d.a,d.b⟩
theorem pL_ {x:Ax} (h:x.check=0):x.shaped=true:=by
  grind[Ax.check]
theorem wX_ {x:Ax} (h:x.check=0):1<=x.kind/\x.kind<=9:=by
  have d:=pL_ h
  grind[Ax.shaped]
theorem us_ {x:Ax} (h:x.check=0):x.namedU (us x.kind)=true:=by
  grind[Ax.check_20,pL_]
theorem nU_ {x:Ax} (h:x.check=0) (d:(us x.kind).left=true):x.left.check=0:=by
  grind[Ax.check_left,pL_,us_]
theorem lC_ {x:Ax} (h:x.check=0) (d:(us x.kind).right=true):x.right.check=0:=by
  grind[Ax.check_right,pL_,us_,nU_]
theorem us_get {x:Ax} (h:1<=x.kind/\x.kind<=9):uE_[x.kind.toNat]? = some (us x.kind):=by
  have hl:x.kind.toNat<uE_.length:=by show x.kind.toNat<10;omega
  grind[us]
theorem us_two {k:Int} (h:k=2\/k=3):(us k).left=true/\(us k).right=true:=by rcases h with rfl|rfl<;>exact⟨rfl,rfl⟩
theorem mX_ {x:Ax} {l:Con} (h:x.check=0) (hl:SdF (us x.kind).left x.left l) (d:(us x.kind).left=true):l.sz<=1000000:=by
  have e:=hl.sz;have k:=(Con.check_zero (nU_ h d)).2;omega
theorem iW_ {x:Ax} {l:Con} (h:x.check=0) (hl:SdF (us x.kind).right x.right l) (d:(us x.kind).right=true):l.sz<=1000000:=by
  have e:=hl.sz;have k:=(Con.check_zero (lC_ h d)).2;omega
theorem strt30:gr_ prog 30 [(0,1),(1,1),(2,5),(7,5),(12,1),(13,1),(14,1),(15,1)] [i4_ 0,.bool false,i4_ 0,str [],i4_ 0,i4_ 0,.slice none 0 0,i4_ 0,str [],i4_ 0,i4_ 0,.slice none 0 0,.slice none 0 0,str [],str [],str []]:=⟨_,aA_,gK_,λw=>by simp[R_,bn_,D_,dG_,t_]⟩
theorem iF_ {G:Prop} (h:G:=by
 refine p_ 1 I_ rfl rfl rfl rfl rfl rfl (Zz 4 ?_);exact dk_ ⟨(x,0),Dx_ F H (SdF.no zaZ_) (SdF.no zbg_) zaa_⟩ (λG v e d=>cf_ (us:=Ax.cells x) 1 de_ bA_ I_ rfl rfl rfl rfl G v e d) i_ zf):G:=h
theorem mq_ {G:Prop} (h:G:=by
 refine Zz 10 ?_;refine p_ 1 t_ rfl rfl rfl rfl rfl rfl (Zz 1 ?_);refine p_ 1 t_ rfl rfl rfl rfl rfl rfl (Zz 5 ?_);refine p_ 1 I_ rfl rfl rfl rfl rfl rfl (Zz 4 ?_);exact dk_ ⟨((Ax.mk x.kind x.opn K A x.ad x.cap x.roles x.role x.a x.b),0),Dw_ F H (SdF.yes B m zaC_) (SdF.yes C J zbc_) zaa_ zaa_⟩ (λG v e d=>cf_ (us:=Ax.cells (Ax.mk x.kind x.opn K A x.ad x.cap x.roles x.role x.a x.b)) 1 de_ bA_ I_ rfl rfl rfl rfl G v e d) i_ (λv _ h=>by exact⟨⟨h.1,h.2.1,h.2.2.1.2.2⟩,trivial⟩)):G:=h
theorem mr_ {G:Prop} (h:G:=by
 refine Zz 10 ?_;refine p_ 1 t_ rfl rfl rfl rfl rfl rfl (Zz 1 ?_);refine p_ 1 t_ rfl rfl rfl rfl rfl rfl (Zz 5 ?_);refine p_ 1 I_ rfl rfl rfl rfl rfl rfl (Zz 4 ?_);exact dk_ ⟨((Ax.mk x.kind x.opn A x.left x.ad x.cap x.roles x.role x.a x.b),0),Dw_ F H (SdF.no zaZ_) (SdF.yes C m zaC_) zaa_ zaa_⟩ (λG v e d=>cf_ (us:=Ax.cells (Ax.mk x.kind x.opn A x.left x.ad x.cap x.roles x.role x.a x.b)) 1 de_ bA_ I_ rfl rfl rfl rfl G v e d) i_ (λv _ h=>by exact⟨⟨h.1,h.2.1.1,h.2.1.2.2⟩,trivial⟩)):G:=h
theorem ms_ {G:Prop} (h:G:=by
 refine Zz 10 ?_;refine p_ 1 t_ rfl rfl rfl rfl rfl rfl (Zz 1 ?_);refine p_ 1 t_ rfl rfl rfl rfl rfl rfl (Zz 5 ?_);refine p_ 1 I_ rfl rfl rfl rfl rfl rfl (Zz 4 ?_);exact dk_ ⟨((Ax.mk x.kind x.opn x.right A x.ad x.cap x.roles x.role x.a x.b),0),Dw_ F H (SdF.yes B m zaC_) (SdF.no zbg_) zaa_ zaa_⟩ (λG v e d=>cf_ (us:=Ax.cells (Ax.mk x.kind x.opn x.right A x.ad x.cap x.roles x.role x.a x.b)) 1 de_ bA_ I_ rfl rfl rfl rfl G v e d) i_ (λv _ h=>by exact⟨⟨h.2.1.2.1,h.1,h.2.1.2.2⟩,trivial⟩)):G:=h
theorem mt_ {G:Prop} (h:G:=by
 refine Zz 10 ?_;refine p_ 1 t_ rfl rfl rfl rfl rfl rfl (Zz 1 ?_);refine p_ 1 t_ rfl rfl rfl rfl rfl rfl (Zz 5 ?_);refine p_ 1 I_ rfl rfl rfl rfl rfl rfl (Zz 4 ?_);exact dk_ ⟨((Ax.mk x.kind x.opn x.right x.left x.ad x.cap x.roles x.role x.a x.b),0),Dw_ F H (SdF.no zaZ_) (SdF.no zbg_) zaa_ zaa_⟩ (λG v e d=>cf_ (us:=Ax.cells (Ax.mk x.kind x.opn x.right x.left x.ad x.cap x.roles x.role x.a x.b)) 1 de_ bA_ I_ rfl rfl rfl rfl G v e d) i_ (λv _ h=>by exact⟨⟨h.1.2.1,h.1.1,h.1.2.2⟩,trivial⟩)):G:=h
theorem iG_ {G:Prop} (h:G:=by
 refine p_ 1 I_ rfl rfl rfl rfl rfl rfl (Zz 4 ?_);exact dk_ ⟨((Ax.mk x.kind x.opn A K x.ad x.cap x.roles x.role x.a x.b),0),Dx_ F H (SdF.yes B m zaC_) (SdF.yes C J zbc_) zaa_⟩ (λG v e d=>cf_ (us:=Ax.cells (Ax.mk x.kind x.opn A K x.ad x.cap x.roles x.role x.a x.b)) 1 de_ bA_ I_ rfl rfl rfl rfl G v e d) i_ (λv _ h=>by exact⟨⟨h.2.1,h.1,h.2.2.1.2.2⟩,trivial⟩)):G:=h
theorem iH_ {G:Prop} (h:G:=by
 refine p_ 1 I_ rfl rfl rfl rfl rfl rfl (Zz 4 ?_);exact dk_ ⟨((Ax.mk x.kind x.opn x.left A x.ad x.cap x.roles x.role x.a x.b),0),Dx_ F H (SdF.no zaZ_) (SdF.yes C m zaC_) zaa_⟩ (λG v e d=>cf_ (us:=Ax.cells (Ax.mk x.kind x.opn x.left A x.ad x.cap x.roles x.role x.a x.b)) 1 de_ bA_ I_ rfl rfl rfl rfl G v e d) i_ (λv _ h=>by exact⟨⟨h.2.1.1,h.1,h.2.1.2.2⟩,trivial⟩)):G:=h
theorem iI_ {G:Prop} (h:G:=by
 refine p_ 1 I_ rfl rfl rfl rfl rfl rfl (Zz 4 ?_);exact dk_ ⟨((Ax.mk x.kind x.opn A x.right x.ad x.cap x.roles x.role x.a x.b),0),Dx_ F H (SdF.yes B m zaC_) (SdF.no zbg_) zaa_⟩ (λG v e d=>cf_ (us:=Ax.cells (Ax.mk x.kind x.opn A x.right x.ad x.cap x.roles x.role x.a x.b)) 1 de_ bA_ I_ rfl rfl rfl rfl G v e d) i_ (λv _ h=>by exact⟨⟨h.1,h.2.1.2.1,h.2.1.2.2⟩,trivial⟩)):G:=h
set_option maxHeartbeats 1000000 in
theorem oA_ (x:Ax) (F:x.ok):Tri prog 18 #[Ax.val x] [] [Ax.memF x,bE_] (λy:{y:Ax×Int // TyR x y}=>.tuple #[Ax.val y.1.1,i4_ y.1.2]) (λ_=>[]) (λy=>[Ax.memF y.1.1]):=by
 refine j_ func18 rfl rfl ntmps18 rfl λU=>?_;refine Zz 2 ?_;refine L_ rfl rfl λV=>C_ aA_ rfl λT=>Zz 7 ?_
 refine f_ (go_ x F) rfl i_ zf rfl λ_=>Zi 6 (λM=>?_) λM=>?_
 .have H:Ax.check x=0:=by simpa using M
  have P:=wX_ H;refine Zz 9 ?_;refine d_ (db_ runUnderlying91 eH_ rfl rfl (by show (0:Int)<=x.kind;omega) (by show x.kind<(10:Int);omega)) rfl ?_;obtain⟨ul,B⟩:∃ b,(us x.kind).left=b:=⟨_,rfl⟩;obtain⟨S,C⟩:∃ b,(us x.kind).right=b:=⟨_,rfl⟩;refine d_ (ak_ (ad:=some ⟨0,0,none⟩) (us:=Use.cells (us x.kind)) isAgg90 eH_ rfl (λv _ h=>h.2.1.2.1) (Use.cells_len _) (A_ Use.cells_len (us_get P))) rfl ?_;unfold Use.cells;rw[B,C];refine C_ zeroValue90 rfl λW=>p_ 0 eH_ rfl rfl rfl rfl rfl rfl (Zz 5 ?_)
  refine p_ 1 I_ rfl rfl rfl rfl rfl rfl (Zz 9 ?_);cases ul
  .refine Zz 10 ?_
   cases S
   .refine Zi 8 (λk=>?_) λk=>?_
    .refine Zi 6 (λE=>?_) λE=>?_
     .refine Zz 17 ?_
      exact iF_
     refine Zz 11 ?_;refine f_ (eE_ x.left x.right (mX_ H (SdF.no zaZ_) (us_two zaa_).1) (iW_ H (SdF.no zbg_) (us_two zaa_).2)) rfl i_ (λv _ h=>by exact⟨h.1.1,h.1.2.1,trivial⟩) rfl λ_=>?_;refine ar_ rfl rfl ?_;refine Zi 0 (λI=>?_) λI=>?_
     .refine Zz 9 ?_
      exact iF_
     exact mt_
    refine Zz 15 ?_;refine f_ (eE_ x.left x.right (mX_ H (SdF.no zaZ_) (us_two zaa_).1) (iW_ H (SdF.no zbg_) (us_two zaa_).2)) rfl i_ (λv _ h=>by exact⟨h.1.1,h.1.2.1,trivial⟩) rfl λ_=>?_;refine ar_ rfl rfl ?_;refine Zi 0 (λE=>?_) λE=>?_
    .refine Zz 9 ?_
     exact iF_
    exact mt_
   refine Zz 5 ?_;refine f_ (uH_ x.right F.right (lC_ H C)) rfl i_ (λv _ h=>by exact⟨h.1.2.1,trivial⟩) rfl λ⟨⟨A,N⟩,m⟩=>?_;dsimp only;try dsimp only at m
   refine Zz 4 ?_;refine p_ 1 t_ rfl rfl rfl rfl rfl rfl (Zi 6 (λk=>?_) λk=>?_)
   .refine Zi 10 (λE=>?_) λE=>?_
    .refine Zi 6 (λI=>?_) λI=>?_
     .refine Zz 17 ?_
      exact iH_
     refine Zz 11 ?_;refine f_ (eE_ x.left A (mX_ H (SdF.no zaZ_) (us_two zaa_).1) (iW_ H (SdF.yes C m zaC_) (us_two zaa_).2)) rfl i_ (λv _ h=>by exact⟨h.2.1.1,h.1,trivial⟩) rfl λ_=>?_;refine ar_ rfl rfl ?_;refine Zi 0 (λL=>?_) λL=>?_
     .refine Zz 9 ?_
      exact iH_
     exact mr_
    refine Zz 15 ?_;refine f_ (eE_ x.left A (mX_ H (SdF.no zaZ_) (us_two zaa_).1) (iW_ H (SdF.yes C m zaC_) (us_two zaa_).2)) rfl i_ (λv _ h=>by exact⟨h.2.1.1,h.1,trivial⟩) rfl λ_=>?_;refine ar_ rfl rfl ?_;refine Zi 0 (λI=>?_) λI=>?_
    .refine Zz 9 ?_
     exact iH_
    exact mr_
   refine Zz 5 ?_;refine d_ (y_ strt30 rfl rfl) rfl (Zz 1 ?_);refine p_ 1 I_ rfl rfl rfl rfl rfl rfl (Zz 4 ?_);exact dk_ ⟨((Ax.mk 0 false (Con.mk 0 [] 0 0 none 0 []) (Con.mk 0 [] 0 0 none 0 []) none 0 [] [] [] []),N),TyE3 H (SdF.no zaZ_) C m zaC_⟩ (λG v e d=>cf_ (us:=Ax.cells (Ax.mk 0 false (Con.mk 0 [] 0 0 none 0 []) (Con.mk 0 [] 0 0 none 0 []) none 0 [] [] [] [])) 1 de_ bA_ I_ rfl rfl rfl rfl G v e d) i_ (λv _ h=>by exact⟨⟨⟨.inl rfl,trivial⟩,⟨.inl rfl,trivial⟩,(.inl rfl)⟩,trivial⟩)
  refine Zz 5 ?_;refine f_ (uH_ x.left F.left (nU_ H B)) rfl i_ (λv _ h=>by exact⟨h.1.1,trivial⟩) rfl λ⟨⟨A,N⟩,m⟩=>?_;dsimp only;try dsimp only at m
  refine Zz 4 ?_;refine p_ 1 t_ rfl rfl rfl rfl rfl rfl (Zi 6 (λk=>?_) λk=>?_)
  .refine Zz 12 ?_
   cases S
   .refine Zi 8 (λE=>?_) λE=>?_
    .refine Zi 6 (λI=>?_) λI=>?_
     .refine Zz 17 ?_
      exact iI_
     refine Zz 11 ?_;refine f_ (eE_ A x.right (mX_ H (SdF.yes B m zaC_) (us_two zaa_).1) (iW_ H (SdF.no zbg_) (us_two zaa_).2)) rfl i_ (λv _ h=>by exact⟨h.1,h.2.1.2.1,trivial⟩) rfl λ_=>?_;refine ar_ rfl rfl ?_;refine Zi 0 (λL=>?_) λL=>?_
     .refine Zz 9 ?_
      exact iI_
     exact ms_
    refine Zz 15 ?_;refine f_ (eE_ A x.right (mX_ H (SdF.yes B m zaC_) (us_two zaa_).1) (iW_ H (SdF.no zbg_) (us_two zaa_).2)) rfl i_ (λv _ h=>by exact⟨h.1,h.2.1.2.1,trivial⟩) rfl λ_=>?_;refine ar_ rfl rfl ?_;refine Zi 0 (λI=>?_) λI=>?_
    .refine Zz 9 ?_
     exact iI_
    exact ms_
   refine Zz 5 ?_;refine f_ (uH_ x.right F.right (lC_ H C)) rfl i_ (λv _ h=>by exact⟨h.2.1.2.1,trivial⟩) rfl λ⟨⟨K,Q⟩,J⟩=>?_;dsimp only;try dsimp only at J
   refine Zz 4 ?_;refine p_ 1 t_ rfl rfl rfl rfl rfl rfl (Zi 6 (λE=>?_) λE=>?_)
   .refine Zi 10 (λI=>?_) λI=>?_
    .refine Zi 6 (λL=>?_) λL=>?_
     .refine Zz 17 ?_
      exact iG_
     refine Zz 11 ?_;refine f_ (eE_ A K (mX_ H (SdF.yes B m zaC_) (us_two zaa_).1) (iW_ H (SdF.yes C J zbc_) (us_two zaa_).2)) rfl i_ zf rfl λ_=>ar_ rfl rfl ?_
     refine Zi 0 (λO=>?_) λO=>?_
     .refine Zz 9 ?_
      exact iG_
     exact mq_
    refine Zz 15 ?_;refine f_ (eE_ A K (mX_ H (SdF.yes B m zaC_) (us_two zaa_).1) (iW_ H (SdF.yes C J zbc_) (us_two zaa_).2)) rfl i_ zf rfl λ_=>ar_ rfl rfl ?_
    refine Zi 0 (λL=>?_) λL=>?_
    .refine Zz 9 ?_
     exact iG_
    exact mq_
   refine Zz 5 ?_;refine d_ (y_ strt30 rfl rfl) rfl (Zz 1 ?_);refine p_ 1 I_ rfl rfl rfl rfl rfl rfl (Zz 4 ?_);exact dk_ ⟨((Ax.mk 0 false (Con.mk 0 [] 0 0 none 0 []) (Con.mk 0 [] 0 0 none 0 []) none 0 [] [] [] []),Q),TyE3 H (SdF.yes B m zaC_) C J zbc_⟩ (λG v e d=>cf_ (us:=Ax.cells (Ax.mk 0 false (Con.mk 0 [] 0 0 none 0 []) (Con.mk 0 [] 0 0 none 0 []) none 0 [] [] [] [])) 1 de_ bA_ I_ rfl rfl rfl rfl G v e d) i_ (λv _ h=>by exact⟨⟨⟨.inl rfl,trivial⟩,⟨.inl rfl,trivial⟩,(.inl rfl)⟩,trivial⟩)
  refine Zz 5 ?_;refine d_ (y_ strt30 rfl rfl) rfl (Zz 1 ?_);refine p_ 1 I_ rfl rfl rfl rfl rfl rfl (Zz 4 ?_);exact dk_ ⟨((Ax.mk 0 false (Con.mk 0 [] 0 0 none 0 []) (Con.mk 0 [] 0 0 none 0 []) none 0 [] [] [] []),N),TyE2 H B m zaC_⟩ (λG v e d=>cf_ (us:=Ax.cells (Ax.mk 0 false (Con.mk 0 [] 0 0 none 0 []) (Con.mk 0 [] 0 0 none 0 []) none 0 [] [] [] [])) 1 de_ bA_ I_ rfl rfl rfl rfl G v e d) i_ (λv _ h=>by exact⟨⟨⟨.inl rfl,trivial⟩,⟨.inl rfl,trivial⟩,(.inl rfl)⟩,trivial⟩)
 refine Zz 5 ?_;refine d_ (y_ strt30 rfl rfl) rfl (Zz 1 ?_);refine p_ 0 I_ rfl rfl rfl rfl rfl rfl (Zz 4 ?_);exact dk_ ⟨((Ax.mk 0 false (Con.mk 0 [] 0 0 none 0 []) (Con.mk 0 [] 0 0 none 0 []) none 0 [] [] [] []),(Ax.check x)),TyE1 (by simpa using M)⟩ (λG v e d=>cf_ (us:=Ax.cells (Ax.mk 0 false (Con.mk 0 [] 0 0 none 0 []) (Con.mk 0 [] 0 0 none 0 []) none 0 [] [] [] [])) 0 de_ bA_ I_ rfl rfl rfl rfl G v e d) i_ (λv _ h=>by exact⟨⟨⟨.inl rfl,trivial⟩,⟨.inl rfl,trivial⟩,(.inl rfl)⟩,trivial⟩)
def rp_ (x:Ax):Prop:=x.left.core=(if x.swp then x.tdyR.core else x.tdyL.core)/\x.right.core=if x.swp then x.tdyL.core else x.tdyR.core
theorem qn_ {x y:Ax} (h:TdyOf x y):x.alk y↔rp_ x :=
  ⟨λ⟨_,d,e,_⟩=>⟨by rw[d,h.left],by rw[e,h.right]⟩,λ⟨d,e⟩=>⟨h.kind.symm,by rw[d,h.left],by rw[e,h.right],h.roles.symm,h.role.symm,h.a.symm,h.b.symm⟩⟩
instance (x:Ax):Decidable (rp_ x):=decidable_of_iff (Con.cmp x.left (if x.swp then x.tdyR else x.tdyL)=0/\Con.cmp x.right (if x.swp then x.tdyL else x.tdyR)=0) (by
  grind[Con.cmp_zero,rp_])
def id_ (x:Ax):Int:=if x.tdyE≠0 then x.tdyE else if rp_ x then 0 else 22
def axE:List Ax->Int
  | []=>0
  | x::l=>if id_ x≠0 then id_ x else axE l
theorem Bk_:∀ {l:List Ax} {i:Nat} {x:Ax},(∀ z∈l.take i,id_ z=0)->l[i]? = some x->id_ x≠0->axE l=id_ x
  | [],_,_,_,h,_=>by simp at h
  | y::l,0,x,_,h,hx=>by grind[axE]
  | y::l,i+1,x,h0,h,hx=>by
    have d:id_ y=0:=h0 y zai_;simp only[axE];rw[yag_ zak_];exact Bk_ (i:=i) (λz e=>h0 z zak_) zak_ hx
theorem hT_:∀ {l:List Ax},axE l=0↔∀ z∈l,id_ z=0
 | []=>by simp[axE]
 | y::l=>by
   simp only[axE]
   by_cases h:id_ y=0
   . rw[yag_ zak_,hT_];simp[h]
   grind
def jA_ (l:List Ax):Prop:=∀ (i:Nat) (x y:Ax),l[i]? = some x->l[i+1]? = some y->Ax.cmp x y=-1
def ro_ (x:Ax):Prop:=wk_ x=true/\x.opn=false
def BCk (l:List Ax) (e:Int):Prop :=
  (axE l≠0/\e=axE l)\/(axE l=0/\¬ jA_ l/\e=70)\/(axE l=0/\jA_ l/\1024<l.length/\e=2)\/(axE l=0/\jA_ l/\l.length<=1024/\(∃ x∈l,ro_ x)/\e=71)\/
    (axE l=0/\jA_ l/\l.length<=1024/\(∀ x∈l,¬ ro_ x)/\RlR l e)
theorem BCk.uniq {l:List Ax} {a b:Int} (h:BCk l a) (k:BCk l b):a=b:=by
  rcases h with⟨e,d⟩|⟨e,d,v⟩|⟨e,d,v,x⟩|⟨e,d,v,x,y⟩|⟨e,d,v,x,y⟩<;>rcases k with⟨k1,k2⟩|⟨k1,k2,m⟩|⟨k1,k2,m,B⟩|⟨k1,k2,m,B,A⟩|⟨k1,k2,m,B,A⟩ <;>
    first|grind|grind|grind|grind|omega|grind|grind|exact y.uniq A
theorem oB_ {x:Ax} (h:x.tdyE=0):x.check=0:=by
  grind[Ax.tdyE]
theorem lI_ {x:Ax}:id_ x=0↔x.tdyE=0/\rp_ x:=by
  grind[id_]
theorem tidE_a {x y:Ax} {e:Int} (h:TyR x (y,e)) (k:e≠0):id_ x=e:=by
  have d:e=x.tdyE:=h.1
  grind[id_]
theorem tidE_b {x y:Ax} {e:Int} (h:TyR x (y,e)) (d:e=0) (v:¬ x.alk y):id_ x=22:=by
  have k:e=x.tdyE:=h.1;have m:=qn_ (h.2 d).1
  grind[id_]
theorem tidE_c {x y:Ax} {e:Int} (h:TyR x (y,e)) (d:e=0) (v:x.alk y):id_ x=0:=by
  have k:e=x.tdyE:=h.1;have m:=qn_ (h.2 d).1
  grind[lI_]
theorem ug_ {c:Con} (h:c.empty=true):c.sz=1:=by
  cases c<;>grind[Con.empty,Con.parts,List.eq_nil_of_length_eq_zero,Con.sz,Con.sz.szs]
theorem rn_ {x:Ax} (h:x.check=0):x.left.sz<=64/\x.right.sz<=64:=by
 have k:=pL_ h;have hk:=wX_ h;unfold Ax.shaped at k;rw[yag_ zaa_]at k;simp only[yaL_,ybs_]at k;obtain⟨⟨⟨⟨⟨⟨d,e⟩,_⟩,_⟩,_⟩,_⟩,_⟩:=k;constructor
 .rcases d with d|d
  .exact (Con.check_zero (nU_ h d)).2
  grind[ug_]
 rcases e with e|e
 .exact (Con.check_zero (lC_ h e)).2
 grind[ug_]
theorem zq_ {x:Ax} (h:x.check=0):x.tdyL.sz<=64/\x.tdyR.sz<=64:=by
  grind[rn_,Con.tdy_sz,Ax.tdyL,Ax.tdyR]
theorem zo_ {x y:Ax} (h:TdyOf x y) (d:x.check=0):y.left.sz<=64/\y.right.sz<=64:=by
  have e:=zq_ d;have k:=h.left
  grind[TdyOf.right,Con.sz_core]
theorem jA_.step {l:List Ax} {k:Nat} {x y:Ax} (h:∀ (i:Nat) (x y:Ax),i+1<k+1->l[i]? = some x->l[i+1]? = some y->Ax.cmp x y=-1) (m:l[k]? = some x) (d:l[k+1]? = some y) (e:Ax.cmp x y=-1) :
    ∀ (i:Nat) (x y:Ax),i+1<k+1+1->l[i]? = some x->l[i+1]? = some y->Ax.cmp x y=-1:=by grind
theorem jA_.all {l:List Ax} {k:Nat} (h:∀ (i:Nat) (x y:Ax),i+1<k->l[i]? = some x->l[i+1]? = some y->Ax.cmp x y=-1) (hk:l.length<=k):jA_ l:=λi x y e d=>h i x y zak_ e d
theorem BCk.er {l:List Ax} {i:Nat} {x:Ax} {e:Int} (d:∀ z∈l.take i,id_ z=0) (h:l[i]? = some x) (k:id_ x=e) (m:e≠0):BCk l e:=by
  have:=Bk_ d h zak_;exact .inl ⟨by grind,by grind⟩
theorem ux_ {l:List Ax} {i:Nat} {p:Ax->Prop} (h:∀ z∈l.take i,p z) (hi:l.length<=i):∀ z∈l,p z:=by grind[List.take_of_length_le]
theorem sM_ {l:List Ax} {i:Nat} {x:Ax} {p:Ax->Prop} (h:∀ z∈l.take i,p z) (d:l[i]? = some x) (k:p x):∀ z∈l.take (i+1),p z:=λz e=>by
  rw[take_snoc d,yai_,yam_]at e
  grind
theorem jS_ {l:List Ax} (h:axE l=0):∀ x∈l,x.check=0:=by grind[oB_,lI_,hT_]
theorem bk_eq {a:Bool} {n:Int} (h:(a&&(n==0))=true):a=true/\n=0:=by grind
theorem bk_ne {x y:Ax} {e:Int} (h:((x.opn==y.opn)&&(Ax.cmp x y==0))=false) (k:TyR x (y,e)) (d:e=0):¬ x.alk y:=λq=>by
  have v:=(Ax.cmp_zero _ _).2 q;have m:=(k.2 d).1.opn
  grind
theorem mT_ {G:Prop} (h:G:=by
 exact w_ ⟨j+1,J,(sM_ hN K (by unfold ro_;intro q;simp_all))⟩ zab_ zl (c_ e_) zh):G:=h
set_option maxHeartbeats 1000000 in
theorem nq_ (l:List Ax) (ad:Ao) (cap:Nat) (O:∀ x∈l,x.ok) (hll:l.length<=1000000):Tri prog 20 #[.agg #[.slice ad l.length cap]] [] [bZ_ ad l,bE_] (λy:{e:Int // BCk l e}=>i4_ y.1) (λ_=>[]) (λ_=>[]):=by
 refine j_ func20 rfl rfl ntmps20 rfl λv_1=>?_;refine Zz 2 ?_;refine L_ rfl rfl λM=>Zz 13 ?_
 let Pu:Hp:=((M,.cells #[.slice ad l.length cap] 24 (0,0))::[]);refine J_ (ι:={y:Nat // y<=List.length l/\(∀ z∈List.take y l,id_ z=0)}) (λy=>[(1,zp_ M 0),(2,i4_ 0),(11,.slice ad l.length cap),(12,i4_ (List.length l:Int)),(13,i4_ y.1)]) (λy=>Pu) (λy=>[bZ_ ad l,bE_]) (λy=>l.length - y.1) ⟨(0:Nat),by simp,zai_⟩ zl e_ zh ?_;rintro ⟨i,a0,hE⟩;dsimp only at a0 hE ⊢;refine Zi 2 (λa3=>?_) λa3=>?_
 .refine Zz 13 ?_
  have I:axE l=0:=hT_.2 (ux_ hE zaa_);have W:=jS_ I;refine J_ (ι:={y:Nat // 1<=y/\(∀ (n:Nat) (p q:Ax),n+1<y->l[n]? = some p->l[n+1]? = some q->Ax.cmp p q=-1)}) (λy=>[(1,zp_ M 0),(2,i4_ 0),(7,i4_ y.1)]) (λy=>Pu) (λy=>[bZ_ ad l,bE_]) (λy=>l.length - y.1) ⟨(1:Nat),zai_,(λi x y h=>by omega)⟩ zl e_ zh ?_;rintro ⟨a1,Y,hS⟩;dsimp only at Y hS ⊢;refine Zi 7 (λE=>?_) λE=>?_
  .refine Zi 11 (λA=>?_) λA=>?_
   .refine Zz 15 ?_
    have Q:jA_ l:=jA_.all hS zaa_;refine J_ (ι:={y:Nat // y<=List.length l/\(∀ z∈List.take y l,¬ ro_ z)}) (λy=>[(1,zp_ M 0),(2,i4_ 0),(56,.slice ad l.length cap),(57,i4_ (List.length l:Int)),(58,i4_ y.1)]) (λy=>Pu) (λy=>[bZ_ ad l,bE_]) (λy=>l.length - y.1) ⟨(0:Nat),by simp,zai_⟩ zl e_ zh ?_;rintro ⟨j,a2,hN⟩;dsimp only at a2 hN ⊢;refine Zi 2 (λX=>?_) λX=>?_
    .refine Zz 10 ?_
     refine f_ (xF_ l ad cap O W zaa_) rfl i_ zf rfl λ⟨⟨rv,re⟩,hre⟩=>?_;dsimp only;refine Zz 13 ?_;exact ac_ oR_ ⟨re,.inr (.inr (.inr (.inr ⟨I,Q,by omega,ux_ hN zaa_,hre⟩)))⟩ rfl i_ zt
    have J:j<l.length:=by omega
    obtain⟨P,K⟩:∃ L,l[j]? = some L:=⟨_,yaa_ J⟩;have U:P∈l:=yab_ K;refine Zz 12 ?_;refine C_ aA_ rfl λb_2=>p_ 0 I_ rfl rfl rfl rfl rfl rfl (Zz 5 ?_)
    refine aq_ (vQ_ P) rfl i_ zt rfl λT hr_5=>Zz 1 ?_
    cases T
    .refine Zz 14 ?_
     exact mT_
    refine Zz 4 ?_;generalize hzo:Ax.opn P=zo
    refine ar_ rfl rfl (d_ (aK_ rfl) rfl (Zz 3 ?_));cases zo
    .refine Zz 7 ?_
     exact ac_ oR_ ⟨71,.inr (.inr (.inr (.inl ⟨I,Q,by omega,⟨P,U,by unfold ro_;simp_all⟩,rfl⟩)))⟩ rfl i_ zt
    refine Zz 8 ?_;exact mT_
   refine Zz 9 ?_;have Q:jA_ l:=jA_.all hS zaa_;exact ac_ oR_ ⟨2,.inr (.inr (.inl ⟨I,Q,by omega,rfl⟩))⟩ rfl i_ zt
  obtain⟨G,rfl⟩:∃ G,a1=G+1:=⟨a1 - 1,by omega⟩;obtain⟨N,m,C,d⟩:=zge (show G<l.length by omega);have V:(G+1:Nat)<l.length:=by omega
  obtain⟨H,k⟩:∃ L,l[(G+1:Nat)]? = some L:=⟨_,yaa_ V⟩;have F:H∈l:=yab_ k;refine Zz 9 ?_;refine G_ 2 [0,1,2,3,4,5,6,7,8,9,10] zk zs (Zz 3 ?_);refine N_ rfl (ai_ (aC_ rfl rfl rfl (bx_ zaa_ zaa_)) (show _=i4_ G from yae_ _ zaa_)) rfl (Zz 8 ?_);refine m_ 11 rfl zk (f_ (wT_ m H (O m d) (O H F) (by have:=(rn_ (W m d)).1;omega) (by have:=(rn_ (W m d)).2;omega) (by have:=(rn_ (W H F)).1;omega) (by have:=(rn_ (W H F)).2;omega)) rfl i_ (λv _ h=>by exact⟨(h.1.2 m d),(h.1.2 H F),trivial⟩) rfl λ_=>?_);refine Zz 3 ?_;refine G_ 0 [12] zk zs ?_;refine Zi 0 (λA=>?_) λA=>?_
  .refine Zz 8 ?_
   refine d_ (ai_ (aC_ rfl rfl rfl (bx_ zaa_ zaa_)) (show _=i4_ ((G+1+1:Nat):Int) from yae_ _ zaa_)) rfl (Zz 3 ?_);exact w_ ⟨G+1+1,zaa_,(jA_.step hS C k (by simpa using A))⟩ zab_ zl e_ zh
  refine Zz 10 ?_;exact ac_ oR_ ⟨70,.inr (.inl ⟨I,λq=>A (q G m H C k),rfl⟩)⟩ rfl i_ zt
 obtain⟨N,m,C,d⟩:=zge (show i<l.length by omega);refine Zz 12 ?_;refine C_ aA_ rfl λb_2=>p_ 0 I_ rfl rfl rfl rfl rfl rfl (Zz 5 ?_)
 refine f_ (oA_ m (O m d)) rfl i_ (λv _ h=>by exact⟨(h.1.2 m d),h.2.1,trivial⟩) rfl λ⟨⟨H,L⟩,k⟩=>?_;dsimp only;try dsimp only at k
 refine Zz 3 ?_;refine C_ aA_ rfl λb_3=>p_ 0 I_ rfl rfl rfl rfl rfl rfl (Zi 7 (λE=>?_) λE=>?_)
 .have B:L=0:=by simpa using E
  have S:Ax.check m=0:=oB_ (by have q:=k.1;dsimp only at q;rw[<-q,B]);have K:=rn_ S;have Z:=zo_ (k.2 B).1 S;dsimp only at Z;refine Zz 8 ?_;refine d_ (y_ strt99 rfl rfl) rfl (Zz 1 ?_);refine aq_ (CU_ m H (O m d) (k.2 B).2 zaa_ zaa_ zaa_ zaa_) rfl i_ (λv _ h=>by exact⟨(h.2.1.2 m d),h.1,trivial⟩) rfl λT A=>d_ (aK_ rfl) rfl (Zz 2 ?_)
  cases T
  .refine Zz 7 ?_
   exact ac_ oR_ ⟨22,BCk.er hE C (tidE_b k B (bk_ne A k B)) zae_⟩ rfl i_ zt
  refine Zz 8 ?_;exact w_ ⟨i+1,N,(sM_ hE C (tidE_c k B ((Ax.cmp_zero _ _).1 (bk_eq A).2)))⟩ zab_ zl (c_ (c_ e_)) (λ_ _ h=>h.2)
 refine Zz 10 ?_;exact ac_ oR_ ⟨L,BCk.er hE C (tidE_a k zbc_) zbc_⟩ rfl i_ zt
theorem eT_ (s:Str):Fn0 prog 30 #[str s] (Con.val (Con.mk 3 s 0 0 none 0 [])):=by
  refine j_ func30 rfl rfl ntmps30 rfl λm=>?_;refine Zz 2 ?_;refine C_ ba_ rfl λb1=>Zz 5 ?_
  refine d_ (y_ iX_ rfl rfl) rfl (p_ 0 t_ rfl rfl rfl rfl rfl rfl (Zz 3 ?_));exact dk_ () (λk v e d=>dm_ (us:=Con.cells (Con.mk 3 s 0 0 none 0 [])) 0 results30 ae_ t_ rfl rfl rfl k v e d) i_ (λv _ h=>trivial)
theorem ie_ (a b:Str):Fn0 prog 31 #[str a,str b] (Ax.val (Ax.mk 1 false (Con.mk 3 a 0 0 none 0 []) (Con.mk 3 b 0 0 none 0 []) none 0 [] [] [] [])):=by
  refine j_ func31 rfl rfl ntmps31 rfl λk=>?_;refine Zz 2 ?_;refine C_ aA_ rfl λm=>Zz 5 ?_
  refine f_ (eT_ a) rfl i_ zt rfl λ_=>Zz 1 ?_
  refine f_ (eT_ b) rfl i_ zt rfl λ_=>d_ (y_ strt30 rfl rfl) rfl (p_ 0 I_ rfl rfl rfl rfl rfl rfl (Zz 3 ?_))
  exact dk_ () (λx v d e=>dm_ (us:=Ax.cells (Ax.mk 1 false (Con.mk 3 a 0 0 none 0 []) (Con.mk 3 b 0 0 none 0 []) none 0 [] [] [] [])) 0 results31 bA_ I_ rfl rfl rfl x v d e) i_ (λv _ h=>trivial)
theorem CT_ (d:List Ax) (lad:Ao) (lcap:Nat) (e:d.length<=lcap/\lcap<=2199023255488) (k:∀ x∈d,x.ok):Tri prog 7 #[.slice lad d.length lcap] [] [bZ_ lad d] (λb:{b:Bool // b=true->d.length<=12/\∀ x∈d,Ax.Few x}=>.bool b.1) (λ_=>[]) (λ_=>[]):=by
  refine j_ func7 rfl rfl ntmps7 rfl λv=>?_;refine Zz 8 ?_;refine f_ (sd_ d lad lcap 12 e k) rfl i_ zf rfl λ⟨r,m⟩=>?_;dsimp only;refine Zz 4 ?_;exact ac_ results7 ⟨r,λh=>⟨by have:=(m h).1;omega,(m h).2⟩⟩ rfl (.refl _) zt
theorem ej_ (h:List Ax) (lad:Ao) (lcap:Nat) (F:h.length<=lcap/\lcap<=2199023255488) (L:∀ x∈h,x.ok) (J:h.length<=100000000) (S:List Str) (sad:Ao) (m:Nat) (hS:S.length<=100000000) (I:∀ s∈S,s.length<=100000) (p:List Pc) (er:Int) (M:aM_ h=(p,er)) (T:p.length<=100000000) (d:List Int) (k:Ao) (A:Nat) (X:d.length<=100000000) (W:kt_ h p er S=(d,0)):Tri prog 32 #[.slice lad h.length lcap,.slice sad S.length m,.slice k d.length A] [] [bZ_ lad h,bE_,X_ sad (S.flatMap aa_),X_ k (d.flatMap dl_)] (λ_:Unit=>.bool true) (λ_=>[]) (λ_=>[]):=by
 refine j_ func32 rfl rfl ntmps32 rfl λU=>?_;refine Zz 9 ?_;refine f_ (xf_ h lad lcap F L J S sad m hS I p er M T d 0 W) rfl i_ zf rfl λ⟨⟨E,C⟩,Q,O,P⟩=>?_;dsimp only;refine Zz 11 ?_;refine d_ (ai_ (cq_ rfl rfl) (show _=Value.bool false from yae_ Value.bool zae_)) rfl (Zi 10 (λB=>?_) λB=>?_)
 .refine Zz 13 ?_
  refine J_ (ι:={y:Nat // y<=List.length d}) (λy=>[(2,.slice k d.length A),(6,.bool false),(7,.slice E d.length C),(9,i4_ y.1)]) (λy=>([])) (λy=>[X_ E (d.flatMap dl_),bZ_ lad h,bE_,X_ sad (S.flatMap aa_),X_ k (d.flatMap dl_)]) (λy=>d.length - y.1) ⟨(0:Nat),by simp⟩ zl i_ zh ?_;rintro ⟨i,H⟩;dsimp only at H ⊢;refine Zi 6 (λG=>?_) λG=>?_
  .refine Zz 11 ?_
   exact ac_ results32 () rfl i_ zt
  have e:i<d.length:=by omega
  obtain⟨V,N⟩:∃ K,d[i]? = some K:=⟨_,yaa_ e⟩;refine Zz 9 ?_;refine G_ 0 [0,1,2,3,4,5,6,7,8] zk zs (Zi 8 (λv=>?_) λv=>?_)
  .refine Zz 12 ?_
   exact w_ ⟨i+1,e⟩ zab_ zl i_ zh
  exact absurd rfl v
 exact absurd rfl B
end Go.Proofs.YtbffkokbdeppaaaGreatDoor
namespace Go.Vs
open Go Go.Sx
def Rng (z:Int):Prop:=z=-1\/z=0\/z=1
theorem rC_:∀ {l:List Int},(∀ z∈l,Rng z)->Rng (orF l)
 | [],_=>.inr (.inl rfl)
 | x::l,h=>by
   rw[orF]
   split
   . exact rC_ λz d=>h z (yaK_ _ d)
   grind
theorem mc_ (x y:Int):Rng (Lib.compareInt x y):=by grind[Lib.compareInt,Rng]
theorem sj_:∀ (x y:Str),Rng (Lib.compareBytes x y)
 | [],[]=>by simp[Lib.compareBytes,Rng]
 | [],b::y=>by simp[Lib.compareBytes,Rng]
 | a::x,[]=>by simp[Lib.compareBytes,Rng]
 | a::x,b::y=>by
   rw[Lib.compareBytes]
   split
   . exact .inl rfl
   . split
     . exact .inr (.inr rfl)
     . exact sj_ x y
theorem Bi_:∀ (x y:List Str),Rng (dW_ x y)
 | [],[]=>by grind[dW_,Rng]
 | [],b::y=>by grind[dW_,Rng]
 | a::x,[]=>by grind[dW_,Rng]
 | a::x,b::y=>by
   rw[dW_]
   split
   . exact Bi_ x y
   grind[sj_]
namespace Con
theorem uo_:∀ (n:Nat),(∀ a b:Con,a.sz<=n->Rng (cmp a b))->∀ xs ys:List Con,(∀ p∈xs,p.sz<=n)->Rng (cmp.cmps xs ys)
 | n,h,[],[],_=>by grind[cmp.cmps,Rng]
 | n,h,[],b::y,_=>by grind[cmp.cmps,Rng]
 | n,h,a::x,[],_=>by grind[cmp.cmps,Rng]
 | n,h,a::x,b::y,hs=>by
   rw[cmp.cmps]
   split
   . exact uo_ n h x y λp d=>hs p (yaK_ _ d)
   grind
theorem cmp_rng:∀ (n:Nat) (a b:Con),a.sz<=n->Rng (cmp a b)
 | 0,a,b,h=>by grind[sz_pos]
 | n+1,a,b,h=>by
   rw[cmp_eq];refine rC_ λz d=>?_;simp only[yal_,yat_,ybd_]at d;rcases d with rfl|rfl|rfl|rfl|rfl|rfl
   . grind[mc_]
   . grind[mc_]
   . grind[sj_]
   . grind[mc_]
   . grind[mc_]
   . exact uo_ n (λa b h=>cmp_rng n a b h) _ _ λp e=>by have:=sz_part e;omega
end Con
theorem Ax.cmp_rng (x y:Ax):Rng (cmp x y):=by
 unfold cmp;refine rC_ λz d=>?_;simp only[yal_,yat_,ybd_]at d;rcases d with rfl|rfl|rfl|rfl|rfl|rfl|rfl|rfl
 .grind[mc_]
 .grind[mc_]
 .exact Con.cmp_rng _ _ _ (yad_ _)
 .exact Con.cmp_rng _ _ _ (yad_ _)
 all_goals grind[Bi_,sj_]
theorem Ax.cmp_m1 {x y:Ax}:cmp x y=-1↔cmp x y<0:=by
  grind[cmp_rng,Rng]
end Go.Vs
namespace Go.Proofs.YtbffkokbdeppaaaGreatDoor
open Go Go.Sx Go.Proofs Tryz
attribute [local irreducible] Code.wp wpList wpAnyH
open Go.Vs
theorem xR_ (l:List Ax) (ad:Ao) (cap:Nat) (d:l.length<=2199023255488) (k:∀ x∈l,x.ok) {p:List Pc} {er:Int} (e:aM_ l=(p,er)) :
    Tri prog 66 #[.slice ad l.length cap] [] [bZ_ ad l,bE_] (λy:{y:Ao×Nat // p.length<=y.2/\y.2<=maxLen/\(y.1=none->y.2=0)}=>.tuple #[.slice y.1.1 p.length y.1.2,i4_ er]) (λ_=>[]) (λy=>[X_ y.1.1 (p.flatMap Pc.cells)]):=by
  have h:=lP_ l ad cap d k;generalize aM_ l=g at h e
  subst e;exact h
def MpR (l:List Ax) (P:List Pc) (e:Int):Prop:=∃ e0,BCk l e0/\((e0≠0/\e=e0/\P=[])\/(e0=0/\e=(aM_ l).2/\P=(aM_ l).1))
def ExR (l:List Ax) (S:List Str) (X:List Ax) (e:Int):Prop:=∃ e0,BCk l e0/\((e0≠0/\e=e0/\X=[])\/(e0=0/\(aM_ l).2≠0/\e=(aM_ l).2/\X=[])\/(e0=0/\(aM_ l).2=0/\hs_ S=false/\e=1/\X=[])\/
    (e0=0/\(aM_ l).2=0/\hs_ S=true/\e=0/\X=eB_ l (eL_ l (aM_ l).1 S l.length)))
theorem MpR.ok {l:List Ax} {P:List Pc} {e:Int} (h:MpR l P e) (m:e=0):BCk l 0/\(aM_ l).2=0/\P=(aM_ l).1:=by
  obtain⟨d,k,h|h⟩:=h
  all_goals grind
theorem ExR.ok {l:List Ax} {S:List Str} {P:List Pc} {e:Int} (h:MpR l P e) (d:e=0) (k:hs_ S=true):ExR l S (eB_ l (eL_ l P S l.length)) 0:=by
  obtain⟨v,m,x⟩:=h.ok d;exact⟨0,v,.inr (.inr (.inr ⟨rfl,m,k,rfl,by rw[x]⟩))⟩
theorem tn_ {l:List Ax} {p:List Pc} {er:Int} (hl:l.length<=12) (h:aM_ l=(p,er)):p.length<=16384:=by
  have d:∀ (l:List Ax) (i:Nat) (p q:List Pc),p.length<=16384->gU_ i l p=some q->q.length<=16384:=by
    intro l
    induction l<;>grind[gU_]
  grind[aM_]
theorem oV_ {l:List Ax} {p:List Pc} {S:List Str}:∀ k,k<=l.length->(eB_ l (eL_ l p S k)).Sublist (l.take k)
 | 0,_=>by rw[qP_];exact List.Sublist.refl _
 | k+1,hk=>by
   obtain⟨a,d⟩:∃ a,l[k]? = some a:=⟨_,yaa_ zaa_⟩;rw[take_snoc d]
   by_cases h:Mat l p S k
   . rw[tD_ h,ky_ (a:=a) zak_]
     exact (oV_ k zaa_).append (List.Sublist.refl _)
   . rw[wx_ h]
     exact (oV_ k zaa_).trans (List.sublist_append_left _ _)
theorem srt_lt {l:List Ax} (h:jA_ l):l.Pairwise λx y=>Ax.cmp x y<0:=by
  rw[yaN_];intro i j hi e A
  have m:∀ (d:Nat) (i:Nat) (hi:i<l.length) (e:i+d+1<l.length),Ax.cmp l[i] l[i+d+1]<0:=by
    intro d
    induction d with
    | zero=>intro i hi e;have:=h i l[i] l[i+1] (yaa_ hi) (yaa_ e);grind
    | succ d ih =>
      intro i hi e;have k:=ih i hi zaa_;have v:=h (i+d+1) l[i+d+1] l[i+(d+1)+1] (yaa_ zaa_) zak_;exact Ax.cmp_lt k zaa_
  have:=m (j - i - 1) i hi zaa_
  grind
theorem srt_of {l:List Ax} (h:l.Pairwise λx y=>Ax.cmp x y<0):jA_ l:=λi x y d e=>by
  grind[Ax.cmp_m1,List.pairwise_iff_getElem]
theorem lz_ {l:List Ax} (h:BCk l 0):axE l=0/\jA_ l/\l.length<=1024/\(∀ x∈l,¬ ro_ x)/\RlR l 0:=by
  rcases h with⟨k,d⟩|⟨_,_,v⟩|⟨_,_,_,e⟩|⟨_,_,_,_,m⟩|h
  all_goals grind
theorem Dn_ {l m:List Ax} (h:BCk l 0) (d:m.Sublist l):BCk m 0:=by
  obtain⟨A,k,C,v,B⟩:=lz_ h;refine .inr (.inr (.inr (.inr ⟨hT_.2 λz y=>hT_.1 A z (d.subset y),srt_of ((srt_lt k).sublist d),ybn_ d.length_le C,λx e=>v x (d.subset e),B.sub λx e=>d.subset e⟩)))
end Go.Proofs.YtbffkokbdeppaaaGreatDoor
namespace Go.Vs.Con
open Go Go.Sx
def NT (c:Con):Prop:=c.kind=5->∀ p∈c.parts,p.kind≠1/\p.kind≠5
theorem pv_ {c:Con} (h:NT c):∀ z∈flat1 c,z.kind≠1/\z.kind≠5:=λz d=>by
 unfold flat1 at d
 split at d
 .simp at d
 split at d
 .rename_i k e;exact h e z d
 grind
theorem Ag_ {s:List Con} (h:∀ z∈s,z.kind≠1/\z.kind≠5):NT (meetF s).1:=by
 unfold meetF
 split
 .rename_i b e
  intro hk
  grind
 split
 .intro hk;exact absurd hk zae_
 .rename_i x _
  intro hk
  grind
 split
 .intro hk;exact absurd hk zae_
 intro _ p d;exact h p d
theorem uI_:∀ (n:Nat) (c:Con),c.sz<=n->NT c.tdy.1
 | 0,c,h=>by grind[sz_pos]
 | n+1,c,h=>by
   have A:∀ p∈c.parts,NT p.tdy.1:=λp e=>uI_ n p (by have:=sz_part e;omega)
   by_cases k:c.kind=6
   . rw[fY_,yaq_ k]
     split
     . rename_i z l x
       have d:z∈c.parts.map tdy:=by grind
       obtain⟨p,e,rfl⟩:=yan_.1 d
       split
       . grind
       . intro hk;grind[kind]
     . intro hk;exact absurd hk zae_
   . by_cases m:c.kind=5
     . rw[tdy_and m]
       split
       . intro hk;grind[zeroC,kind]
       . refine Ag_ λz d=>?_
         obtain⟨y,B,v⟩:=yaB_.1 (iZ_ d)
         grind[pv_]
     . rw[tdy_self m k]
       intro hk;grind
end Go.Vs.Con
namespace Go.Proofs.YtbffkokbdeppaaaGreatDoor
open Go Go.Sx Go.Proofs Tryz
attribute [local irreducible] Code.wp wpList wpAnyH
open Go.Vs
def OfR (l:List Ax) (q:List Pc) (ger:Int) (X:List Ax) (e:Int):Prop:=∃ P e1,MpR l P e1/\((e1≠0/\e=e1/\X=[])\/(e1=0/\ger≠0/\e=ger/\X=[])\/(e1=0/\ger=0/\16384<P.length+q.length/\e=2/\X=[])\/
    (e1=0/\ger=0/\P.length+q.length<=16384/\e=0/\X=eB_ l (eL_ l (P++q) (cE_ q) l.length)))
theorem rG_ (l:List Ax) (ad:Ao) (cap:Nat) (E:∀ x∈l,x.ok) (F:l.length<=12):Tri prog 37 #[.agg #[.slice ad l.length cap]] [] [bZ_ ad l,bE_] (λy:{y:Ao×Nat×List Pc×Int // MpR l y.2.2.1 y.2.2.2/\y.2.2.1.length<=16384/\y.2.2.1.length<=y.2.1/\(y.1=none->y.2.1=0)}=>.tuple #[.slice y.1.1 y.1.2.2.1.length y.1.2.1,i4_ y.1.2.2.2]) (λ_=>[]) (λy=>[X_ y.1.1 (y.1.2.2.1.flatMap Pc.cells)]):=by
 refine j_ func37 rfl rfl ntmps37 rfl λI=>?_;obtain⟨⟨p,er⟩,e⟩:∃ q,aM_ l=q:=⟨_,rfl⟩;refine Zz 2 ?_;refine L_ rfl rfl λJ=>Zz 8 ?_
 refine f_ (nq_ l ad cap E zaa_) rfl i_ zf rfl λ⟨m,k⟩=>?_;dsimp only;refine Zi 6 (λd=>?_) λd=>?_
 .refine Zz 9 ?_
  refine f_ (xR_ l ad cap zaa_ E e) rfl i_ zf rfl λ⟨⟨H,C⟩,B,G,A⟩=>?_;dsimp only;refine Zz 7 ?_;exact eI_ results37 ⟨(H,C,p,er),⟨m,k,.inr ⟨by simpa using d,by rw[e],by rw[e]⟩⟩,tn_ F e,B,A⟩ rfl rfl rfl i_ zf
 refine Zz 11 ?_;exact eI_ results37 ⟨(none,0,[],m),⟨m,k,.inl ⟨by simpa using d,rfl,rfl⟩⟩,by simp,by simp,λ_=>rfl⟩ rfl rfl rfl i_ (λv _ h=>by exact⟨.inl rfl,trivial⟩)
theorem ww_ (l:List Ax) (ad:Ao) (cap:Nat) (a5:∀ x∈l,x.ok) (a8:l.length<=12) (x:Ax) (hox:x.ok) (q:List Pc) (F:List Fc) (N:Int) (Z:GlT x q F N) (hql:q.length<=100000):Tri prog 13 #[.agg #[.slice ad l.length cap],Ax.val x] [] [bZ_ ad l,bE_,Ax.memF x] (λy:{y:Value×Hp×List Ax×Int // at_ 30 16 y.1 y.2.2.1.length (y.2.2.1.flatMap Ax.cells) y.2.1/\OfR l q N y.2.2.1 y.2.2.2}=>.tuple #[.agg #[y.1.1],i4_ y.1.2.2.2]) (λy=>y.1.2.1) (λ_=>[]):=by
 refine j_ func13 rfl rfl ntmps13 rfl λv_1=>?_;refine au_ ?_;refine ad_ ?_;refine L_ rfl rfl λa6=>?_;refine L_ rfl rfl λa0=>?_;refine C_ st_ rfl λb_3=>?_;refine d_ (ay_ rfl) rfl ?_;refine aD_ ?_;refine ap_ rfl ?_;refine au_ ?_;refine ad_ ?_;refine d_ (cW_ 2 jp_ cw_ rfl rfl rfl) rfl ?_;refine f_ (rG_ l ad cap a5 a8) rfl i_ zf rfl λ⟨⟨P,G,p,C⟩,K,a4,J,I⟩=>?_;dsimp only;try dsimp only at K a4 J I
 refine d_ (ab_ rfl) rfl ?_;refine d_ (dK_ rfl rfl) rfl ?_;refine d_ (dK_ rfl rfl) rfl ?_;refine d_ (ay_ rfl) rfl ?_;refine d_ (ay_ rfl) rfl ?_;refine aD_ ?_;refine ap_ rfl ?_;refine au_ ?_;refine au_ ?_;refine ad_ ?_;refine d_ (ab_ rfl) rfl ?_;refine F_ (cq_ rfl rfl) rfl λb3 d=>?_;refine aD_ ?_;refine ap_ rfl ?_;cases b3
 .replace d:=ew_ d
  refine cu_ rfl ?_;refine dr_ ?_;refine ap_ rfl ?_;refine au_ ?_;refine ad_ ?_;refine d_ (cW_ 1 bA_ I_ rfl rfl rfl) rfl ?_;refine f_ (Z) rfl i_ zf rfl λ⟨⟨L,B,fad,fcap⟩,H,S,U,O,E⟩=>?_;dsimp only;try dsimp only at H S U O E
  refine d_ (ab_ rfl) rfl ?_;refine d_ (dK_ rfl rfl) rfl ?_;refine d_ (dK_ rfl rfl) rfl ?_;refine d_ (dK_ rfl rfl) rfl ?_;refine d_ (ay_ rfl) rfl ?_;refine d_ (ay_ rfl) rfl ?_;refine d_ (ay_ rfl) rfl ?_;refine aD_ ?_;refine ap_ rfl ?_;refine au_ ?_;refine au_ ?_;refine ad_ ?_;refine d_ (ab_ rfl) rfl ?_;refine F_ (cq_ rfl rfl) rfl λa9 e=>?_;refine aD_ ?_;refine ap_ rfl ?_;cases a9
  .replace e:=ew_ e
   refine cu_ rfl ?_;refine dr_ ?_;refine ap_ rfl ?_;refine au_ ?_;refine au_ ?_;refine ad_ ?_;refine d_ (ab_ rfl) rfl ?_;refine d_ (dS_ H_ rfl) rfl ?_;refine d_ (ab_ rfl) rfl ?_;refine d_ (dS_ H_ rfl) rfl ?_;refine d_ (aC_ rfl rfl rfl (bx_ zaa_ zaa_)) rfl ?_;refine F_ (dq_ rfl rfl) rfl λb0 A=>?_;refine aD_ ?_;refine ap_ rfl ?_;cases b0
   .replace A:=zdf A
    refine cu_ rfl ?_;refine dr_ ?_;refine ap_ rfl ?_;refine au_ ?_;refine Y_ ((a0,.cells (Ax.cells x).toArray 30 (0,0))::((a6,.cells #[.slice ad l.length cap] 24 (0,0))::[])) zk ?_;refine G_ 6 [0,1,2,3,6] zk zs ?_;refine N_ rfl (eQ_ kX_ rfl rfl rfl hD_) rfl ?_;refine N_ rfl (bU_ 1 ny_ rfl rfl rfl) rfl ?_;refine N_ rfl (ab_ rfl) rfl ?_;refine N_ rfl (ab_ rfl) rfl ?_;refine N_ rfl (ab_ rfl) rfl ?_;refine bX_ ?_;refine m_ 4 rfl zk ?_;refine B_ runUnderlying143 kJ_ cl_ rfl rfl rfl rfl rfl rfl λa2=>?_;refine U_ (List.flatMap PL.cells [(PL.mk p P G),(PL.mk q L B)]) e_ rfl ?_;refine aD_ ?_;refine dw_ rfl ?_;refine M_ zs ?_;refine m_ 5 rfl zk ?_;refine f_ ((show Tri prog 46 _ [] _ (λy:{y:Ao×Nat // (p++q).length<=y.2/\y.2<=maxLen/\(y.1=none->y.2=0)}=>.slice y.1.1 (p++q).length y.1.2) (λ_=>[]) (λy=>[X_ y.1.1 ((p++q).flatMap Pc.cells)]) from by have h:=un_ [(PL.mk p P G),(PL.mk q L B)] (some ⟨a2,0,none⟩) 2 (λy X=>by simp only[yal_,yat_,ybd_]at X;rcases X with rfl|rfl;exact⟨J,I,by dsimp only;omega⟩;exact⟨H,E,by dsimp only;omega⟩) zai_;have eC:(hl_ [(PL.mk p P G),(PL.mk q L B)])=p++q:=(by simp[hl_]);rw[eC]at h;exact h)) rfl i_ (λv _ h=>by refine⟨h.1,λy X=>?_,trivial⟩;simp only[yal_,yat_,ybd_]at X;rcases X with rfl|rfl;exact h.2.2.2.1;exact h.2.1) rfl λ⟨⟨W,Q⟩,a3,b4,a1⟩=>?_;dsimp only;refine aD_ ?_;refine dw_ rfl ?_;refine M_ zs ?_;refine m_ 7 rfl zk ?_;refine f_ (wY_ q L B zaa_) rfl i_ zf rfl λ⟨⟨aad,acap⟩,hac,ham⟩=>?_;dsimp only;refine aD_ ?_;refine dw_ rfl ?_;refine M_ zs ?_;refine m_ 8 rfl zk ?_;refine f_ (part_c l ad cap (p++q) W Q (cE_ q) aad acap zbu_ (by have:=eM_ q;omega) zaa_) rfl i_ zf rfl λ⟨⟨V,a7,Lq⟩,M,Y⟩=>?_;dsimp only;dsimp only at M Y ⊢;subst Y;refine aD_ ?_;refine dw_ rfl ?_;refine M_ zs ?_;refine m_ 9 rfl zk ?_;refine u_ (S_ (g_ e_) (S_ (g_ e_) (aW_ aJ_))) ?_;refine p_ 0 cw_ rfl rfl rfl rfl rfl (by have q:=(fQ_ M).2;simp only[Value.cells,ycj_,ycy_,q,ycr_]) ?_;refine aD_ ?_;refine dw_ rfl ?_;refine M_ (λ_ a b=>⟨Vw.sat.sub (a.perm (l_ (c_ e_) (c_ e_))),b.2.2.2⟩) ?_;refine G_ 0 [10] zk (λ_ a b=>⟨Vw.sat.sub (a.perm (l_ (c_ e_) (c_ e_))),b.2.2.2⟩) ?_;refine N_ rfl (ay_ rfl) rfl ?_;refine bX_ ?_;refine pQ_ zk ?_;refine ap_ rfl ?_;refine gl_ ?_;exact dk_ ⟨(V,a7,(eB_ l (eL_ l (p++q) (cE_ q) l.length)),0),M,⟨p,C,K,.inr (.inr (.inr ⟨by simpa using d,by simpa using e,by omega,rfl,rfl⟩))⟩⟩ (λT v m k=>cf_ (us:=[V]) 0 results13 jp_ cw_ rfl rfl rfl rfl T v m k) (c_ (c_ E_)) zt
   replace A:=zdt A;refine bG_ rfl ?_;refine au_ ?_;refine ad_ ?_;refine d_ (y_ ru_ rfl rfl) rfl ?_;refine p_ 0 cw_ rfl rfl rfl rfl rfl rfl ?_;refine d_ (ay_ rfl) rfl ?_;refine aD_ ?_;refine ap_ rfl ?_;refine gl_ ?_;exact dk_ ⟨(.slice none 0 0,[],[],2),at_.nil _ _,⟨p,C,K,.inr (.inr (.inl ⟨by simpa using d,by simpa using e,by omega,rfl,rfl⟩))⟩⟩ (λT v m k=>cf_ (us:=[.slice none 0 0]) 0 results13 jp_ cw_ rfl rfl rfl rfl T v m k) i_ zt
  replace e:=eu_ e;refine bG_ rfl ?_;refine au_ ?_;refine ad_ ?_;refine d_ (y_ ru_ rfl rfl) rfl ?_;refine d_ (ab_ rfl) rfl ?_;refine p_ 0 cw_ rfl rfl rfl rfl rfl rfl ?_;refine d_ (ay_ rfl) rfl ?_;refine aD_ ?_;refine ap_ rfl ?_;refine gl_ ?_;exact dk_ ⟨(.slice none 0 0,[],[],N),at_.nil _ _,⟨p,C,K,.inr (.inl ⟨by simpa using d,by simpa using e,rfl,rfl⟩)⟩⟩ (λT v m k=>cf_ (us:=[.slice none 0 0]) 0 results13 jp_ cw_ rfl rfl rfl rfl T v m k) i_ zt
 replace d:=eu_ d;refine bG_ rfl ?_;refine au_ ?_;refine ad_ ?_;refine d_ (y_ ru_ rfl rfl) rfl ?_;refine d_ (ab_ rfl) rfl ?_;refine p_ 0 cw_ rfl rfl rfl rfl rfl rfl ?_;refine d_ (ay_ rfl) rfl ?_;refine aD_ ?_;refine ap_ rfl ?_;refine gl_ ?_;exact dk_ ⟨(.slice none 0 0,[],[],C),at_.nil _ _,⟨p,C,K,.inl ⟨by simpa using d,rfl,rfl⟩⟩⟩ (λT v m k=>cf_ (us:=[.slice none 0 0]) 0 results13 jp_ cw_ rfl rfl rfl rfl T v m k) i_ zt
theorem MpR.uniq {l:List Ax} {P Q:List Pc} {e f:Int} (h:MpR l P e) (g:MpR l Q f):P=Q/\e=f:=by
  obtain⟨a,d,h⟩:=h;obtain⟨b,k,g⟩:=g;have q:=d.uniq k
  grind
theorem OfR.uniq {l X Y:List Ax} {q:List Pc} {d e f:Int} (h:OfR l q d X e) (g:OfR l q d Y f):X=Y/\e=f:=by
  obtain⟨P,a,m,h⟩:=h;obtain⟨Q,b,k,g⟩:=g;obtain⟨v,x⟩:=m.uniq k
  grind
theorem BJ_ {x:Ax} (k:x.check=0) (d:pln x):id_ x=0:=by
  obtain⟨e,m,h⟩:=d;have l:=Con.tdy_self (c:=x.left) zaa_ zaa_
  grind[Con.tdy_self,Ax.swp,lI_,Ax.tdyE,rp_,Ax.tdyL,Ax.tdyR]
theorem Do_ {l:List Ax} (A:∀ x∈l,x.check=0) (k:∀ x∈l,pln x) (hl:l.length<=1000) (hS:jA_ l):BCk l 0:=by
 refine .inr (.inr (.inr (.inr ⟨hT_.2 λz d=>BJ_ (A z d) (k z d),hS,by omega,λx e q=>?_,.inl ⟨rfl,?_⟩⟩)))
 .have h:=q.1
  unfold wk_ at h;rw[(k x e).1]at h;cases h
 rintro ⟨n,f,c,v,y,m,B⟩;have h:=m 0 v;unfold sE dB_ at h;obtain⟨x,e,d⟩:=yaB_.1 h;rw[Ax.steps_no (by rw[(k x e).1];decide) (by rw[(k x e).1];decide)]at d;cases d
theorem of_pln {l X Y:List Ax} {q:List Pc} {d e:Int} (m:∀ x∈l,x.check=0) (v:∀ x∈l,pln x) (hl:l.length<=1000) (hS:jA_ l) (h:OfR l q d Y e) (y:d=0) (k:(aM_ l).2=0)
    (A:Nat.ble ((aM_ l).1.length+q.length) 16384=true) (B:eB_ l (eL_ l ((aM_ l).1++q) (Bm_ q) l.length)=X):Y=X/\e=0 :=
  h.uniq ⟨_,0,⟨0,Do_ m v hl hS,.inr ⟨rfl,k.symm,rfl⟩⟩,.inr (.inr (.inr ⟨rfl,y,yaG_ A,rfl,by grind[Bl_]⟩))⟩
abbrev sB (a b:Str):Ax:=(Ax.mk 1 false (Con.mk 3 a 0 0 none 0 []) (Con.mk 3 b 0 0 none 0 []) none 0 [] [] [] [])
theorem zX_ {a b:Ax} (h:Ax.cmp a b=-1):∀ (i:Nat) x y,[a,b][i]? = some x->[a,b][i+1]? = some y->Ax.cmp x y=-1:=by
  grind
theorem jz_ {S:List Str} (h:(S.all λs=>Nat.ble s.length 100000)=true):∀ s∈S,s.length<=100000:=λs d=>yaG_ (ybb_.1 h s d)
theorem xx_:Tri prog 6 #[] [] [bE_] (λ_:Unit=>.bool true) (λ_=>[]) (λ_=>[]):=by
  refine j_ func6 rfl rfl ntmps6 rfl λa6=>?_;refine Zz 7 ?_;refine f_ (eT_ [66]) rfl i_ zt rfl λ_=>B_ af_ t_ ba_ rfl rfl rfl rfl rfl rfl λm=>?_;refine U_ (List.flatMap Con.cells [(Con.mk 3 [66] 0 0 none 0 [])]) e_ rfl ?_;refine d_ (y_ iX_ rfl rfl) rfl (C_ ba_ rfl λa3=>p_ 0 t_ rfl rfl rfl rfl rfl rfl (Zz 4 ?_));refine G_ 6 [1] zk zs (Zz 2 ?_);refine m_ 0 rfl zk (f_ (eT_ [65]) rfl i_ zt rfl λ_=>Zz 3 ?_);refine G_ 4 [2] zk zs (N_ rfl (y_ strt30 rfl rfl) rfl (bX_ (m_ 3 rfl zk (f_ (ie_ [66] [67]) rfl i_ zt rfl λ_=>Zz 3 ?_))));refine m_ 4 rfl zk (f_ (ie_ [68] [65]) rfl i_ zt rfl λ_=>Zz 3 ?_);refine m_ 5 rfl zk (B_ aN_ I_ aA_ rfl rfl rfl rfl rfl rfl λA=>?_);refine U_ (List.flatMap Ax.cells [(Ax.mk 1 false (Con.mk 3 [65] 0 0 none 0 []) (Con.mk 6 [114] 0 0 (some ⟨m,0,none⟩) 1 [(Con.mk 3 [66] 0 0 none 0 [])]) none 0 [] [] [] []),(sB [66] [67]),(sB [68] [65])]) e_ rfl ?_;refine Zz 3 ?_;refine G_ 0 [6] zk zs (Zz 8 ?_);refine B_ n_ D_ V_ rfl rfl rfl rfl rfl rfl λT=>?_;refine U_ (List.flatMap aa_ [[65]]) e_ rfl ?_;refine B_ as_ R_ bJ_ rfl rfl rfl rfl rfl rfl λW=>?_;refine U_ (List.flatMap dl_ [0,1]) e_ rfl ?_;refine f_ (ej_ [(Ax.mk 1 false (Con.mk 3 [65] 0 0 none 0 []) (Con.mk 6 [114] 0 0 (some ⟨m,0,none⟩) 1 [(Con.mk 3 [66] 0 0 none 0 [])]) none 0 [] [] [] []),(sB [66] [67]),(sB [68] [65])] (some ⟨A,0,none⟩) 3 ⟨by simp,by decide⟩ (λk d=>by simp only[yal_,yat_,ybd_]at d;rcases d with rfl|rfl|rfl<;>(constructor<;>simp[Con.ok,Con.ok.oks,sB])) zai_ [[65]] (some ⟨T,0,none⟩) 1 zai_ (jz_ zk) _ _ (ydb_ _).symm (yaG_ zk) [0,1] (some ⟨W,0,none⟩) 2 zai_ zk) rfl i_ (λv _ h=>by exact⟨⟨h.2.2.1,λy e=>by simp only[yal_,yat_,ybd_]at e;rcases e with rfl|rfl|rfl;exact⟨⟨.inl rfl,trivial⟩,⟨h.2.2.2.1,⟨⟨.inl rfl,trivial⟩,trivial⟩⟩,(.inl rfl)⟩;exact⟨⟨.inl rfl,trivial⟩,⟨.inl rfl,trivial⟩,(.inl rfl)⟩;exact⟨⟨.inl rfl,trivial⟩,⟨.inl rfl,trivial⟩,(.inl rfl)⟩⟩,h.2.2.2.2.1,h.2.1,h.1,trivial⟩) rfl λ_=>?_;refine d_ (aK_ rfl) rfl (Zz 4 ?_);refine B_ n_ D_ V_ rfl rfl rfl rfl rfl rfl λV=>?_;refine U_ (List.flatMap aa_ [[66]]) e_ rfl ?_;refine ar_ rfl rfl (B_ as_ R_ bJ_ rfl rfl rfl rfl rfl rfl λa0=>?_);refine U_ (List.flatMap dl_ [1]) e_ rfl ?_;refine ar_ rfl rfl (f_ (ej_ [(Ax.mk 1 false (Con.mk 3 [65] 0 0 none 0 []) (Con.mk 6 [114] 0 0 (some ⟨m,0,none⟩) 1 [(Con.mk 3 [66] 0 0 none 0 [])]) none 0 [] [] [] []),(sB [66] [67]),(sB [68] [65])] (some ⟨A,0,none⟩) 3 ⟨by simp,by decide⟩ (λk d=>by simp only[yal_,yat_,ybd_]at d;rcases d with rfl|rfl|rfl<;>(constructor<;>simp[Con.ok,Con.ok.oks,sB])) zai_ [[66]] (some ⟨V,0,none⟩) 1 zai_ (jz_ zk) _ _ (ydb_ _).symm (yaG_ zk) [1] (some ⟨a0,0,none⟩) 1 zai_ zk) rfl i_ (λv _ h=>by exact⟨⟨h.2.2.2.2.1,λy e=>by simp only[yal_,yat_,ybd_]at e;rcases e with rfl|rfl|rfl;exact⟨⟨.inl rfl,trivial⟩,⟨h.2.2.2.2.2.1,⟨⟨.inl rfl,trivial⟩,trivial⟩⟩,(.inl rfl)⟩;exact⟨⟨.inl rfl,trivial⟩,⟨.inl rfl,trivial⟩,(.inl rfl)⟩;exact⟨⟨.inl rfl,trivial⟩,⟨.inl rfl,trivial⟩,(.inl rfl)⟩⟩,h.2.2.2.2.2.2.1,h.2.1,h.1,trivial⟩) rfl λ_=>?_);refine ar_ rfl rfl (d_ (aK_ rfl) rfl (Zz 5 ?_));refine B_ n_ D_ V_ rfl rfl rfl rfl rfl rfl λY=>?_;refine U_ (List.flatMap aa_ [[60,115,111,109,101,32,114,32,66,62]]) e_ rfl ?_;refine ar_ rfl rfl (B_ as_ R_ bJ_ rfl rfl rfl rfl rfl rfl λS=>?_);refine U_ (List.flatMap dl_ [0,1]) e_ rfl ?_;refine ar_ rfl rfl (f_ (ej_ [(Ax.mk 1 false (Con.mk 3 [65] 0 0 none 0 []) (Con.mk 6 [114] 0 0 (some ⟨m,0,none⟩) 1 [(Con.mk 3 [66] 0 0 none 0 [])]) none 0 [] [] [] []),(sB [66] [67]),(sB [68] [65])] (some ⟨A,0,none⟩) 3 ⟨by simp,by decide⟩ (λk d=>by simp only[yal_,yat_,ybd_]at d;rcases d with rfl|rfl|rfl<;>(constructor<;>simp[Con.ok,Con.ok.oks,sB])) zai_ [[60,115,111,109,101,32,114,32,66,62]] (some ⟨Y,0,none⟩) 1 zai_ (jz_ zk) _ _ (ydb_ _).symm (yaG_ zk) [0,1] (some ⟨S,0,none⟩) 2 zai_ zk) rfl i_ (λv _ h=>by exact⟨⟨h.2.2.2.2.2.2.1,λy e=>by simp only[yal_,yat_,ybd_]at e;rcases e with rfl|rfl|rfl;exact⟨⟨.inl rfl,trivial⟩,⟨h.2.2.2.2.2.2.2.1,⟨⟨.inl rfl,trivial⟩,trivial⟩⟩,(.inl rfl)⟩;exact⟨⟨.inl rfl,trivial⟩,⟨.inl rfl,trivial⟩,(.inl rfl)⟩;exact⟨⟨.inl rfl,trivial⟩,⟨.inl rfl,trivial⟩,(.inl rfl)⟩⟩,h.2.2.2.2.2.2.2.2.1,h.2.1,h.1,trivial⟩) rfl λ_=>?_);refine ar_ rfl rfl (d_ (aK_ rfl) rfl (Zz 8 ?_));refine d_ (y_ iX_ rfl rfl) rfl (f_ (eT_ [65]) rfl i_ zt rfl λ_=>d_ (y_ strt30 rfl rfl) rfl (B_ aN_ I_ aA_ rfl rfl rfl rfl rfl rfl λF=>?_));refine U_ (List.flatMap Ax.cells [(Ax.mk 1 false (Con.mk 1 [] 0 0 none 0 []) (Con.mk 3 [65] 0 0 none 0 []) none 0 [] [] [] [])]) e_ rfl ?_;refine Zz 5 ?_;refine f_ (eT_ [65]) rfl i_ zt rfl λ_=>f_ (eT_ [66]) rfl i_ zt rfl λ_=>d_ (y_ strt30 rfl rfl) rfl (B_ aN_ I_ aA_ rfl rfl rfl rfl rfl rfl λx=>?_)
  refine U_ (List.flatMap Ax.cells [(Ax.mk 3 false (Con.mk 3 [65] 0 0 none 0 []) (Con.mk 3 [66] 0 0 none 0 []) none 0 [] [] [] [])]) e_ rfl ?_;refine Zz 5 ?_;refine d_ (y_ strt30 rfl rfl) rfl (f_ (eT_ [65]) rfl i_ zt rfl λ_=>d_ (y_ strt30 rfl rfl) rfl (f_ (ie_ [65] [66]) rfl i_ zt rfl λ_=>B_ aN_ I_ aA_ rfl rfl rfl rfl rfl rfl λN=>?_));refine U_ (List.flatMap Ax.cells [(Ax.mk 7 true (Con.mk 0 [] 0 0 none 0 []) (Con.mk 0 [] 0 0 none 0 []) none 0 [] [114] [] []),(Ax.mk 4 false (Con.mk 0 [] 0 0 none 0 []) (Con.mk 3 [65] 0 0 none 0 []) none 0 [] [114] [] []),(sB [65] [66])]) e_ rfl ?_;refine Zz 7 ?_;refine B_ as_ R_ bJ_ rfl rfl rfl rfl rfl rfl λE=>?_;refine U_ (List.flatMap dl_ [0]) e_ rfl ?_;refine f_ (ej_ [(Ax.mk 1 false (Con.mk 1 [] 0 0 none 0 []) (Con.mk 3 [65] 0 0 none 0 []) none 0 [] [] [] [])] (some ⟨F,0,none⟩) 1 ⟨by simp,by decide⟩ (λk d=>by simp only[yal_,yat_,ybd_]at d;rcases d with rfl<;>(constructor<;>simp[Con.ok,Con.ok.oks])) zai_ ([]:List Str) none 0 zai_ (jz_ zk) _ _ (ydb_ _).symm (yaG_ zk) [0] (some ⟨E,0,none⟩) 1 zai_ zk) rfl i_ (λv _ h=>by exact⟨⟨h.2.2.2.1,λy e=>by simp only[yal_,yat_,ybd_]at e;rcases e with rfl;exact⟨⟨.inl rfl,trivial⟩,⟨.inl rfl,trivial⟩,(.inl rfl)⟩⟩,h.2.2.2.2.2.2.2.2.2.2.2.2.1,(.inl rfl),h.1,trivial⟩) rfl λ_=>?_;refine d_ (aK_ rfl) rfl (Zz 4 ?_);refine B_ n_ D_ V_ rfl rfl rfl rfl rfl rfl λK=>?_;refine U_ (List.flatMap aa_ [[65]]) e_ rfl ?_;refine ar_ rfl rfl (f_ (ej_ [(Ax.mk 3 false (Con.mk 3 [65] 0 0 none 0 []) (Con.mk 3 [66] 0 0 none 0 []) none 0 [] [] [] [])] (some ⟨x,0,none⟩) 1 ⟨by simp,by decide⟩ (λk d=>by simp only[yal_,yat_,ybd_]at d;rcases d with rfl<;>(constructor<;>simp[Con.ok,Con.ok.oks])) zai_ [[65]] (some ⟨K,0,none⟩) 1 zai_ (jz_ zk) _ _ (ydb_ _).symm (yaG_ zk) ([]:List Int) none 0 zai_ zk) rfl i_ (λv _ h=>by exact⟨⟨h.2.2.2.1,λy e=>by simp only[yal_,yat_,ybd_]at e;rcases e with rfl;exact⟨⟨.inl rfl,trivial⟩,⟨.inl rfl,trivial⟩,(.inl rfl)⟩⟩,h.2.2.2.2.2.2.2.2.2.2.2.2.2.1,h.1,(.inl rfl),trivial⟩) rfl λ_=>?_);refine ar_ rfl rfl (d_ (aK_ rfl) rfl (Zz 5 ?_));refine B_ n_ D_ V_ rfl rfl rfl rfl rfl rfl λO=>?_;refine U_ (List.flatMap aa_ [[65],[66]]) e_ rfl ?_;refine ar_ rfl rfl (B_ as_ R_ bJ_ rfl rfl rfl rfl rfl rfl λJ=>?_);refine U_ (List.flatMap dl_ [0]) e_ rfl ?_;refine ar_ rfl rfl (f_ (ej_ [(Ax.mk 3 false (Con.mk 3 [65] 0 0 none 0 []) (Con.mk 3 [66] 0 0 none 0 []) none 0 [] [] [] [])] (some ⟨x,0,none⟩) 1 ⟨by simp,by decide⟩ (λk d=>by simp only[yal_,yat_,ybd_]at d;rcases d with rfl<;>(constructor<;>simp[Con.ok,Con.ok.oks])) zai_ [[65],[66]] (some ⟨O,0,none⟩) 2 zai_ (jz_ zk) _ _ (ydb_ _).symm (yaG_ zk) [0] (some ⟨J,0,none⟩) 1 zai_ zk) rfl i_ (λv _ h=>by exact⟨⟨h.2.2.2.2.2.1,λy e=>by simp only[yal_,yat_,ybd_]at e;rcases e with rfl;exact⟨⟨.inl rfl,trivial⟩,⟨.inl rfl,trivial⟩,(.inl rfl)⟩⟩,h.2.2.2.2.2.2.2.2.2.2.2.2.2.2.2.1,h.2.1,h.1,trivial⟩) rfl λ_=>?_);refine ar_ rfl rfl (d_ (aK_ rfl) rfl (Zz 5 ?_));refine B_ n_ D_ V_ rfl rfl rfl rfl rfl rfl λI=>?_;refine U_ (List.flatMap aa_ [[67]]) e_ rfl ?_;refine ar_ rfl rfl (B_ as_ R_ bJ_ rfl rfl rfl rfl rfl rfl λL=>?_);refine U_ (List.flatMap dl_ [0,1,2]) e_ rfl ?_;refine ar_ rfl rfl (f_ (ej_ [(Ax.mk 7 true (Con.mk 0 [] 0 0 none 0 []) (Con.mk 0 [] 0 0 none 0 []) none 0 [] [114] [] []),(Ax.mk 4 false (Con.mk 0 [] 0 0 none 0 []) (Con.mk 3 [65] 0 0 none 0 []) none 0 [] [114] [] []),(sB [65] [66])] (some ⟨N,0,none⟩) 3 ⟨by simp,by decide⟩ (λk d=>by simp only[yal_,yat_,ybd_]at d;rcases d with rfl|rfl|rfl<;>(constructor<;>simp[Con.ok,Con.ok.oks,sB])) zai_ [[67]] (some ⟨I,0,none⟩) 1 zai_ (jz_ zk) _ _ (ydb_ _).symm (yaG_ zk) [0,1,2] (some ⟨L,0,none⟩) 3 zai_ zk) rfl i_ (λv _ h=>by exact⟨⟨h.2.2.2.2.2.2.1,λy e=>by simp only[yal_,yat_,ybd_]at e;rcases e with rfl|rfl|rfl;exact⟨⟨.inl rfl,trivial⟩,⟨.inl rfl,trivial⟩,(.inl rfl)⟩;exact⟨⟨.inl rfl,trivial⟩,⟨.inl rfl,trivial⟩,(.inl rfl)⟩;exact⟨⟨.inl rfl,trivial⟩,⟨.inl rfl,trivial⟩,(.inl rfl)⟩⟩,h.2.2.2.2.2.2.2.2.2.2.2.2.2.2.2.2.2.1,h.2.1,h.1,trivial⟩) rfl λ_=>?_);refine ar_ rfl rfl (d_ (aK_ rfl) rfl (Zz 8 ?_));refine f_ (ie_ [65] [66]) rfl i_ zt rfl λ_=>f_ (ie_ [67] [68]) rfl i_ zt rfl λ_=>B_ aN_ I_ aA_ rfl rfl rfl rfl rfl rfl λG=>?_;refine U_ (List.flatMap Ax.cells [(sB [65] [66]),(sB [67] [68])]) e_ rfl ?_;refine d_ (y_ ru_ rfl rfl) rfl (f_ (ie_ [65] [68]) rfl i_ zt rfl λ_=>?_);refine f_ (ww_ [(sB [65] [66]),(sB [67] [68])] (some ⟨G,0,none⟩) 2 (λk d=>by simp only[yal_,yat_,ybd_]at d;rcases d with rfl|rfl<;>(constructor<;>simp[Con.ok,Con.ok.oks,sB])) zai_ (sB [65] [68]) zbf_ (Ax.goalP (sB [65] [68])).1 (Ax.goalP (sB [65] [68])).2.1 (Ax.goalP (sB [65] [68])).2.2 (vz_ zbf_ rfl) (yaG_ zk)) rfl i_ (λv _ h=>by exact⟨⟨h.1,λy e=>by simp only[yal_,yat_,ybd_]at e;rcases e with rfl|rfl;exact⟨⟨.inl rfl,trivial⟩,⟨.inl rfl,trivial⟩,(.inl rfl)⟩;exact⟨⟨.inl rfl,trivial⟩,⟨.inl rfl,trivial⟩,(.inl rfl)⟩⟩,h.2.2.2.2.2.2.2.2.2.2.2.2.2.2.2.2.2.2.1,⟨⟨.inl rfl,trivial⟩,⟨.inl rfl,trivial⟩,(.inl rfl)⟩,trivial⟩) rfl λ⟨⟨a4,a7,Xo,eo⟩,C,M⟩=>?_;dsimp only;dsimp only at C M;obtain⟨rfl,rfl⟩:=of_pln (X:=[(sB [65] [66])]) (λk d=>by simp only[yal_,yat_,ybd_]at d;rcases d with rfl|rfl<;>kernel_rfl) (λk d=>by simp only[yal_,yat_,ybd_]at d;rcases d with rfl|rfl<;>exact⟨rfl,rfl,rfl⟩) zai_ (zX_ zk) M zk zk zk zk;refine bQ_ C s_ λP a2 B Q Z U=>?_;subst B;refine Zz 3 ?_;refine C_ st_ rfl λa1=>p_ 0 cw_ rfl rfl rfl rfl rfl rfl (Zz 5 ?_)
  refine B_ n_ D_ V_ rfl rfl rfl rfl rfl rfl λH=>?_;refine U_ (List.flatMap aa_ [[60]]) e_ rfl ?_;refine f_ (xf_ ([]:List Ax) none 0 ⟨by simp,by decide⟩ (λk d=>by cases d) zai_ [[60]] (some ⟨H,0,none⟩) 1 zai_ (jz_ zk) [] 0 zk zai_ [] 1 zk) rfl i_ (λv _ h=>by exact⟨⟨.inl rfl,by simp⟩,h.2.2.2.2.2.2.2.2.2.2.2.2.2.2.2.2.2.2.2.2.1,h.1,trivial⟩) rfl λ⟨⟨rad,rcap⟩,a5⟩=>?_;dsimp only;refine Zz 9 ?_;refine G_ 8 [0,1,2,3,4,5,6,7,8,9,10,11,12] zk zs (Zz 1 ?_);refine N_ rfl (ai_ (aV_ rfl rfl) (show _=Value.bool true from yae_ Value.bool zae_)) rfl (Zz 4 ?_);refine ih_ rfl rfl rfl (ai_ (aV_ rfl rfl) (show _=Value.bool true from yae_ Value.bool zae_)) rfl (Zz 4 ?_);refine ih_ rfl rfl rfl (P_ aN_ I_ rfl rfl (λv _ h=>av_ (n:=16) Ax.cells_len zae_ (by exact h.2.2.1) (show [(sB [65] [66])][0]? = some _ from rfl)) zaa_ zag_) rfl ?_;refine ih_ rfl rfl rfl (ak_ (ad:=P) (us:=Ax.cells (sB [65] [66])) bA_ I_ rfl zf (Ax.cells_len _) (A_ Ax.cells_len (show [(sB [65] [66])][0]? = some _ from rfl))) rfl (bX_ (m_ 13 rfl zk (ar_ rfl rfl (f_ (ie_ [65] [66]) rfl i_ zt rfl λ_=>Zz 3 ?_))));refine m_ 14 rfl zk (ar_ rfl rfl (f_ (xy_ (sB [65] [66]) zbf_ (yaG_ zk) (yaG_ zk) ⟨⟨rfl,rfl⟩,⟨rfl,rfl⟩,rfl,rfl,rfl,rfl⟩) rfl i_ (λv _ h=>by exact⟨⟨⟨.inl rfl,trivial⟩,⟨.inl rfl,trivial⟩,(.inl rfl)⟩,trivial⟩) rfl λ_=>Zz 3 ?_));refine G_ 0 [15,16,17,18,19,20] zk zs (Zz 3 ?_);refine ih_ rfl rfl rfl (ai_ (aV_ rfl rfl) (show _=Value.bool true from yae_ Value.bool zae_)) rfl (Zz 6 ?_);exact ac_ results6 () rfl (.refl _) zt
end Go.Proofs.YtbffkokbdeppaaaGreatDoor
namespace Go.Sx
open Go Go.Vs
structure StM where
  es:Array MapEntry
  c:Nat
  ks:List Str
  hE:SetE str es ks
  hB:Born es c
def StM.add (s:StM) (k:Str):StM:=if h:k∈s.ks then s else ⟨s.es.push ⟨str k,.bool true,s.c⟩,s.c+1,s.ks++[k],s.hE.push h s.c,s.hB.push _ _⟩
theorem StM.mem {s:StM} {k n:Str}:n∈(s.add k).ks↔n∈s.ks\/n=k:=by
  grind[add]
section
variable {P:Program} {N:Nat} {v0:Vw} {H0:Hp} {R:Exit->Act->World->Prop} {Kk:List Kt} {fr:Fr} {H:Hp} {Γ:List Fct}
variable {ops:Array Oper} {lo:List Oper} {d:Nat} {ty:TypeId} {ps:String} {af:Array Edge}
theorem dM_ {t h G:TypeId} {x y:Operand} {b c i:Nat} {es:Array MapEntry} {e u:Value} (C:∀ w,(underlying t).run P w=.ok (.map h G) w) (F:Fr.ev fr x=some (.map (some b))) (A:Fr.ev fr y=some e) (n:Nat)
    (hi:H[n]? = some (b,.map es c)) (hk:hV_ P h e) (m:di_ P h e es.toList (some (i,u))):Yld P N fr H Γ (.lookup t x y true) ty (.tuple #[u,.bool true]) :=
  λa v k B I _ _ _=>by
    have E:=MapKept.run_getObj_map (P:=P) (B.own _ (yab_ hi)).1;simp[execOp,k.ev F,k.ev A,Instr.lookup,C,E,hk _ _,m _]
end
end Go.Sx
namespace Go.Vs
open Go Go.Sx
structure W2I (l:List Str) (s:Str) (i:Nat) (R:List Str) (dn:Bool):Prop where
  no:dn=false->R=l.take i/\∀ x∈l.take i,x<s
  yes:dn=true->R++l.drop i=eg_ l s
theorem tk1 {α:Type} {l:List α} {i:Nat} {x:α} (h:l[i]? = some x):l.take (i+1)=l.take i++[x]:=by grind[List.take_add_one]
theorem wM_ {α:Type} {l:List α} {i:Nat} {x:α} (h:l[i]? = some x):l.drop i=x::l.drop (i+1):=by
  grind[List.drop_eq_getElem_cons]
theorem W2I.t {l:List Str} {s x:Str} {i:Nat} {R:List Str} (h:W2I l s i R true) (d:l[i]? = some x):W2I l s (i+1) (R++[x]) true :=
  ⟨λq=>(by cases q),λ_=>by have:=h.yes rfl;grind[wM_]⟩
theorem W2I.lt {l:List Str} {s x:Str} {i:Nat} {R:List Str} (h:W2I l s i R false) (hl:SrS l) (A:s≠[]) (k:l[i]? = some x) (e:s<x):W2I l s (i+1) ((R++[s])++[x]) true:=by
 obtain⟨C,v⟩:=h.no rfl;refine⟨λq=>(by cases q),λ_=>?_⟩;have hi:=(yaf_.1 k).1
 have hk:kS l s=i:=DD_ zaa_ v λz E=>by
   grind
 have B:s ∉ l:=λm=>by
   have d:s∈l.take i\/s∈l.drop i:=by grind[List.take_append_drop]
   rcases d with q|q
   . grind
   . rw[wM_ k]at q
     rcases yal_.1 q with rfl|q
     . grind
     . have y:SrS (l.drop i):=hl.sublist (List.drop_sublist _ _)
       grind[wM_,List.pairwise_cons]
 grind[xj_,wM_]
def StM.nil:StM:=⟨#[],0,[],SetE.nil,Born.nil 0⟩
theorem zv_ {l:List Str} (hl:l.Nodup):SrS (cg_ l):=by
  have e:=kW_ l;have d:(cg_ l).Nodup:=(ycp_ _ _).nodup_iff.2 hl;unfold List.Nodup at d;refine ycu_ (fun {a b} hab=>?_) (e.and d)
  grind
end Go.Vs
namespace Go.Proofs.YtbffkokbdeppaaaGreatDoor
open Go Go.Sx Go.Proofs Tryz
attribute [local irreducible] Code.wp wpList wpAnyH
open Go.Vs
theorem qH_ {P:Program} {N:Nf} {Q:Vw} {F H:Hp} {R:Exit->Act->World->Prop} {O:List Kt} {fr:Fr} {Γ:List Fct} {m:Array Oper} {lo:List Oper} {ty:TypeId} {ps:String} {U:Array Edge} {o:Op} {t G T:TypeId} {x y z:Operand} {b:Nat} (n:Nat) (s:StM) {k:Str} (A:KeyT P G str) (J:o=.insert t x y z\/o=.mapUpdate t x y z) (L:∀ w,(underlying t).run P w=.ok (.map G T) w)
    (M:Fr.ev fr x=some (.map (some b))) (K:Fr.ev fr y=some (str k)) (I:Fr.ev fr z=some (.bool true)) (hi:H[n]? = some (b,.map s.es s.c))
    (d:Ops P R N Q F m lo O fr (H.set n (b,.map (s.add k).es (s.add k).c)) Γ):Ops P R N Q F m (⟨none,o,ty,ps,U,none⟩::lo) O fr H Γ:=by
  by_cases hk:k∈s.ks
  . have E:s.add k=s:=by unfold StM.add;rw[dif_pos hk]
    rw[E]at d;obtain⟨i,e,S,v,h,C,B⟩:=s.hE.yes A hk;refine fA_ (e:=e) (i:=i) (u:=.bool true) (u':=.bool true) n A J L M K I hi B v h ?_;rw[jm_ v h C];exact d
  . have E:s.add k=⟨s.es.push ⟨str k,.bool true,s.c⟩,s.c+1,s.ks++[k],s.hE.push hk s.c,s.hB.push _ _⟩:=by unfold StM.add;rw[dif_neg hk]
    rw[E]at d;exact aR_ n J L M K I hi (A.ok _) (s.hE.no A hk) d
def rkS (r:List Str×Ao×Nat):Prop:=r.1.length<=r.2.2/\r.2.2<=maxLen/\(r.2.1=none->r.2.2=0)
theorem BT_:gr_ prog 164 [(0,1),(1,1),(2,1)] [i4_ 0,i4_ 0,.slice none 0 0]:=⟨_,zeroValue164,runUnderlying164,λw=>by simp[R_,dG_]⟩
theorem nH_ (s:Str) (l:List Str) (b:Nat) (n r:Int) (sv:Value) (Hr:Hp) (H:zR 9 1 aa_ sv l Hr) (hl:l.length<=1000000):Tri prog 112 #[zp_ b 0,str s] ((b,.cells #[i4_ n,i4_ r,sv] 164 (0,0))::Hr) [] (λy:{y:List Str×Value×Hp // zR 9 1 aa_ y.2.1 y.1 y.2.2/\y.1.length<=l.length+1}=>.tuple #[]) (λy=>(b,.cells #[i4_ n,i4_ r,y.1.2.1] 164 (0,0))::y.1.2.2) (λ_=>[]):=by
 refine j_ func112 rfl rfl ntmps112 rfl λG=>?_;refine Zz 7 ?_;refine J_ (ι:={y:Nat×Value×Hp // y.1<=List.length l/\zR 9 1 aa_ y.2.1 l y.2.2}) (λy=>[(0,zp_ b 0),(1,str s),(4,i4_ y.1.1)]) (λy=>((b,.cells #[i4_ n,i4_ r,y.1.2.1] 164 (0,0))::y.1.2.2)) (λy=>[]) (λy=>l.length - y.1.1) ⟨((0:Nat),sv,Hr),by simp,H⟩ zl zp zt ?_;rintro ⟨⟨i,k,A⟩,E,d⟩;dsimp only at E d ⊢;refine Zz 8 ?_;refine d_ (cm_ d n_ rfl) rfl ?_;refine Zi 0 (λh=>?_) λh=>?_
 .refine Zz 12 ?_
  refine B_ n_ D_ V_ rfl rfl rfl rfl rfl rfl λK=>?_;refine aH_ (news:=List.flatMap aa_ [s]) dj_ d rfl rfl zp rfl (bz_ 0 rfl) (λu I=>aF_ cz_ I) zal_ zaa_ rfl λx B h=>?_;refine u_ yaE_ ?_;have m:=zsa h;refine Zz 2 ?_;refine bT_ 1 m dG_ rfl rfl rfl rfl (Zz 2 ?_);exact cj_ results112 ⟨((l++[s]),x,B),m,by first|omega|(simp only[yaj_,yak_,yay_];omega)⟩ rfl (l_ (c_ e_) E_) zt
 have e:i<l.length:=by omega
 obtain⟨J,v⟩:∃ F,l[i]? = some F:=⟨_,yaa_ e⟩;refine Zz 14 ?_;refine d_ (bH_ d n_ D_ rfl rfl zaa_ zaa_) rfl (d_ (cS_ d E_ W_ rfl (A_ an_ v 0 _ rfl)) rfl (Zi 1 (λC=>?_) λC=>?_))
 .refine Zz 11 ?_
  exact w_ ⟨(i+1,k,A),e,d⟩ zab_ zl zp zt
 refine Zz 4 ?_;exact ret0 results112 ⟨(l,k,A),d,by first|omega|(simp only[yaj_,yak_,yay_];omega)⟩ rfl zp zt
theorem szs_take_le:∀ (l:List Con) (i:Nat),Con.sz.szs (l.take i)<=Con.sz.szs l
  | [],i=>by simp
  | c::l,0=>by simp[Con.sz.szs]
  | c::l,i+1=>by
    have:=szs_take_le l i;simp only[ybS_,Con.sz.szs];omega
theorem oo_:∀ (m:Nat) (c:Con),c.sz<=m->c.ok->∀ (b:Nat) (n r:Int) (l:List Str) (sv:Value) (Hr:Hp),zR 9 1 aa_ sv l Hr->(0<=n/\0<=r/\n+c.sz<=100000/\r+c.sz<=100000/\l.length+c.sz<=100000)->Tri prog 111 #[zp_ b 0,Con.val c] ((b,.cells #[i4_ n,i4_ r,sv] 164 (0,0))::Hr) [Con.memF c] (λy:{y:Int×Int×List Str×Value×Hp // zR 9 1 aa_ y.2.2.2.1 y.2.2.1 y.2.2.2.2/\(n<=y.1/\y.1<=n+c.sz)/\(r<=y.2.1/\y.2.1+n<=r+y.1)/\y.2.2.1.length<=l.length+c.sz}=>.tuple #[]) (λy=>(b,.cells #[i4_ y.1.1,i4_ y.1.2.1,y.1.2.2.2.1] 164 (0,0))::y.1.2.2.2.2) (λ_=>[]):=by
 intro m
 induction m with
 | zero=>intro c h;have:=c.sz_pos;omega
 | succ m ih =>
   intro c hm a0 b n r l sv Hr hr hbd;have hpl:=Con.ok_len a0;have hsp:=c.sz_pos;have hse:=Con.sz_eq c;refine j_ func111 rfl rfl ntmps111 rfl λv_1=>?_;refine Zz 2 ?_;refine L_ rfl rfl λC=>Zz 7 ?_
   refine F_ (aV_ rfl rfl) rfl λb8 e=>Zz 1 ?_
   refine aE_ 5 ((c.kind==0)&&((List.length c.parts:Int)==0)) (λr=>[(0,zp_ b 0),(3,zp_ C 0),(13,.bool r)]) ?_ λK B=>?_
   . cases b8
     . have d:=e;replace e:=znb e;refine Zz 7 ?_;exact met ⟨rfl,rfl,(z_ rfl (jaf d)),trivial⟩
     . have d:=e;replace e:=zeb e;refine Zz 7 ?_;refine F_ (aV_ rfl rfl) rfl λM G=>Zz 3 ?_
       exact met ⟨rfl,rfl,(z_ rfl (jat d G)),trivial⟩
   . refine Zz 1 ?_;refine aE_ 4 ((((c.kind==0)&&((List.length c.parts:Int)==0)))&&(c.name==[])) (λr=>[(0,zp_ b 0),(3,zp_ C 0),(18,.bool r)]) ?_ λM G=>?_
     . cases K
       . have d:=B;simp at B
         refine Zz 6 ?_;exact met ⟨rfl,rfl,(z_ rfl (jaf d)),trivial⟩
       . have d:=B;simp at B
         refine Zz 5 ?_;refine F_ (dR_ rfl rfl) rfl λa6 A=>Zz 3 ?_
         exact met ⟨rfl,rfl,(z_ rfl (jat d A)),trivial⟩
     . refine Zz 2 ?_;cases M
       . simp at G
         refine Zz 13 ?_;refine p_ 1 R_ rfl rfl rfl rfl rfl rfl (Zz 7 ?_);refine F_ (aV_ rfl rfl) rfl λa6 A=>Zz 2 ?_
         let Pu:Nat×Obj:=(C,.cells (Con.cells c).toArray 28 (0,0));refine hj_ (ι:={y:Int // (r<=y/\y<=r+1)}) (λy=>[(0,zp_ b 0),(3,zp_ C 0)]) (λy=>(Pu::((b,.cells #[i4_ (n+1),i4_ y.1,sv] 164 (0,0))::Hr))) (λy=>[Con.memF c]) ?_ ?_
         . cases a6
           . replace A:=znb A;refine Zz 3 ?_;exact dh_ ⟨r,zaw_⟩ zl zp zf
           . replace A:=zeb A;refine Zz 10 ?_;refine p_ 1 R_ rfl rfl rfl rfl rfl rfl (Zz 2 ?_);exact dh_ ⟨(r+1),zaw_⟩ zl zp zf
         . rintro ⟨K,B⟩;dsimp only at B ⊢;refine Zz 6 ?_;refine F_ (aV_ rfl rfl) rfl λb7 H=>Zz 2 ?_
           refine hj_ (ι:={y:List Str×Value×Hp // y.1.length<=l.length+1/\zR 9 1 aa_ y.2.1 y.1 y.2.2}) (λy=>[(0,zp_ b 0),(3,zp_ C 0)]) (λy=>(Pu::((b,.cells #[i4_ (n+1),i4_ K,y.1.2.1] 164 (0,0))::y.1.2.2))) (λy=>[Con.memF c]) ?_ ?_
           . cases b7
             . replace H:=znb H;refine Zz 3 ?_;exact dh_ ⟨(l,sv,Hr),zaw_,hr⟩ zl zp zf
             . replace H:=zeb H;refine Zz 5 ?_;refine f_ (nH_ c.name l b (n+1) K sv Hr hr zaa_) rfl zp zt rfl λ⟨⟨a1,T,J⟩,P,V⟩=>?_;dsimp only;dsimp only at P V;refine Zz 2 ?_;exact dh_ ⟨(a1,T,J),zaw_,P⟩ zl zp zf
           . rintro ⟨⟨b0,I,L⟩,a9,x⟩;dsimp only at a9 x ⊢;refine Zz 7 ?_;refine J_ (ι:={y:Nat×Int×Int×List Str×Value×Hp // y.1<=List.length c.parts/\(n<=y.2.1/\y.2.1<=n+((1+Con.sz.szs (c.parts.take y.1):Nat):Int)/\r<=y.2.2.1/\y.2.2.1+n<=r+y.2.1/\y.2.2.2.1.length<=l.length+(1+Con.sz.szs (c.parts.take y.1)))/\zR 9 1 aa_ y.2.2.2.2.1 y.2.2.2.1 y.2.2.2.2.2}) (λy=>[(0,zp_ b 0),(3,zp_ C 0),(4,i4_ y.1.1)]) (λy=>(Pu::((b,.cells #[i4_ y.1.2.1,i4_ y.1.2.2.1,y.1.2.2.2.2.1] 164 (0,0))::y.1.2.2.2.2.2))) (λy=>[Con.memF c]) (λy=>c.parts.length - y.1.1) ⟨((0:Nat),(n+1),K,b0,I,L),by simp,(by simp only[ybH_,Con.sz.szs];omega),x⟩ zl zp zh ?_;rintro ⟨⟨i,S,X,a2,I,L⟩,a5,Y,x⟩;dsimp only at a5 Y x ⊢;refine Zz 7 ?_;refine F_ (cO_ rfl rfl) rfl λb5 k=>Zz 1 ?_
             refine aE_ 6 ((decide ((i:Int)<(List.length c.parts:Int)))&&(decide (S<=1000))) (λr=>[(0,zp_ b 0),(3,zp_ C 0),(4,i4_ i),(56,.bool r)]) ?_ λr_8 N=>?_
             . cases b5
               . have d:=k;replace k:=zdf k;refine Zz 8 ?_;exact met ⟨rfl,rfl,rfl,(z_ rfl (jaf d)),trivial⟩
               . have d:=k;replace k:=zdt k;refine Zz 9 ?_;refine F_ (dN_ rfl rfl) rfl λr_9 U=>Zz 3 ?_
                 exact met ⟨rfl,rfl,rfl,(z_ rfl (jat d U)),trivial⟩
             . refine Zz 2 ?_;cases r_8
               . simp at N
                 refine Zz 3 ?_;exact cj_ results111 ⟨(S,X,a2,I,L),x,by dsimp only;have:=Con.sz_eq c;have a3:=szs_take_le c.parts i;omega⟩ rfl (l_ (c_ e_) E_) zt
               . simp at N
                 obtain⟨Q,a8,F,E⟩:=zge (show i<c.parts.length by omega);refine Zz 10 ?_;refine d_ (P_ af_ t_ rfl rfl (λv _ h=>av_ (n:=5) Con.cells_len zae_ zaU_ F) zaa_ zag_) rfl ?_;refine d_ (ak_ (ad:=c.ad) (us:=Con.cells a8) ae_ t_ rfl (λv _ h=>by exact ((Con.mem_iff c v).1 h.1).1) (Con.cells_len _) (A_ Con.cells_len F)) rfl (f_ (ih a8 (by have:=Con.sz_part E;omega) (Con.ok_part a0 E) b S X a2 I L x (by have b6:=Con.szs_step F;have a3:=szs_take_le c.parts (i+1);omega)) rfl (l_ (c_ e_) E_) (λv _ h=>by exact⟨(Con.mem_part (c:=c) h.1 E),trivial⟩) rfl λ⟨⟨b4,M,b3,W,J⟩,O,a4,a7,Z⟩=>?_);dsimp only;dsimp only at O a4 a7 Z;refine Zz 2 ?_;refine u_ (S_ e_ (aW_ aJ_)) (Zz 6 ?_);exact w_ ⟨(i+1,b4,M,b3,W,J),Q,(by have b6:=Con.szs_step F;dsimp only;omega),O⟩ zab_ zl (l_ (c_ e_) (l_ e_ Z_)) zh
       . simp at G
         refine Zz 2 ?_;exact ret0 results111 ⟨(n,r,l,sv,Hr),hr,by dsimp only;have:=Con.sz_eq c;have a3:=szs_take_le c.parts 0;omega⟩ rfl (l_ (c_ e_) E_) zt
end Go.Proofs.YtbffkokbdeppaaaGreatDoor
