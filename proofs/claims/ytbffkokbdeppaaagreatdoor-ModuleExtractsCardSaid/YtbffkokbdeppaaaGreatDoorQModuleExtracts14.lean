/-
  Lemmas for the law ModuleExtracts (no condition).
-/
import Derived.Test.YtbffkokbdeppaaaGreatDoorQModuleExtracts13
set_option linter.unusedVariables false
set_option linter.unusedSimpArgs false
set_option linter.unusedSectionVars false
set_option maxHeartbeats 1000000
namespace Go.Proofs.YtbffkokbdeppaaaGreatDoor
open Go Go.Sx Go.Proofs Tryz
attribute [local irreducible] Code.wp wpList wpAnyH
open Go.Vs
structure FmI (ps:List Con) (i:Nat) (L:List Con):Prop where
  len:L.length=i
  le:i<=ps.length
  at_:∀ (j:Nat) (q:Con),L[j]? = some q->∃ p,ps[j]? = some p/\TdR p (q,0)
theorem FmI.nil {ps:List Con}:FmI ps 0 []:=⟨rfl,yaV_ _,λj q h=>by simp at h⟩
theorem FmI.add {ps L:List Con} {i:Nat} {p q:Con} {e:Int} (h:FmI ps i L) (u:ps[i]? = some p) (v:TdR p (q,e)) (k:e=0):FmI ps (i+1) (L++[q]):=by
 subst k;refine⟨by grind[len],by grind,λj z d=>?_⟩
 by_cases o:j<L.length
 .rw[ybw_ o]at d;exact h.at_ j z d
 grind[len]
theorem FmI.cores {ps L:List Con} (h:FmI ps ps.length L):L.map Con.core=((ps.map Con.tdy).map Prod.fst).map Con.core:=by
 apply yaT_
 intro j
 by_cases d:j<L.length
 .obtain⟨p,e,k⟩:=h.at_ j L[j] (yaa_ d)
  simp only[yaD_,e,yaa_ d,yba_];rw[(k.2 rfl).1]
 grind[len]
theorem uo_:∀ {l:List (Con×Int)},(∀ z∈l,z.2=0)->Con.erF l=0
  | [],_=>rfl
  | z::l,h=>by
    simp only[Con.erF];rw[yam_ zap_];exact uo_ λw d=>h w zbH_
theorem FmI.er {ps L:List Con} {i:Nat} (h:FmI ps i L):Con.erF ((ps.map Con.tdy).take i)=0:=uo_ λz u=>by
  obtain⟨j,d⟩:=yaA_ u;have hl:=(yaf_.1 d).1;rw[yat_]at hl;have e:j<L.length:=by grind[len]
  obtain⟨p,k,o⟩:=h.at_ j L[j] (yaa_ e);rw[List.getElem?_take_of_lt zaa_,yaD_,k]at d;simp at d
  rw[<-d];exact o.1.symm
theorem FmI.mem {ps L:List Con} {i:Nat} (h:FmI ps i L):∀ q∈L,∃ p∈ps,TdR p (q,0):=λq d=>by
  obtain⟨j,e⟩:=yaA_ d;obtain⟨p,k,o⟩:=h.at_ j q e
  grind
theorem FmI.ok {ps L:List Con} {i:Nat} (h:FmI ps i L):∀ q∈L,q.ok:=λq d=>by
  obtain⟨p,_,e⟩:=h.mem q d;exact (e.2 rfl).2
theorem FmI.nt {ps L:List Con} {i:Nat} (h:FmI ps i L):∀ q∈L,Con.NT q:=λq d=>by
  obtain⟨p,_,e⟩:=h.mem q d;exact Con.NT.core (e.2 rfl).1 (Con.tdy_nt _ p (yab_ _))
theorem vZ_:∀ ps:List Con,Con.sz.szs ((ps.map Con.tdy).map Prod.fst)<=Con.sz.szs ps
  | []=>by grind
  | p::ps=>by
    have d:=Con.tdy_sz p;have e:=vZ_ ps
    grind[Con.sz.szs]
theorem pO_:∀ {A B:List Con},A.map Con.core=B.map Con.core->(A.flatMap Con.flat1).map Con.core=(B.flatMap Con.flat1).map Con.core
  | [],[],_=>rfl
  | [],y::B,h=>by simp at h
  | x::A,[],h=>by simp at h
  | x::A,y::B,h=>by
    rw[yaE_,yaE_,ybv_]at h;rw[yaR_,yaR_,yaz_,yaz_,pQ_ h.1,pO_ h.2]
theorem xp_ {A B:List Con} (h:A.map Con.core=B.map Con.core):(Con.srtC A).map Con.core=(Con.srtC B).map Con.core:=by grind[Con.srtC_uniq,Con.srtC_srt,Con.srtC_mem]
theorem FmI.conj {c:Con} {L:List Con} {y:Con×Int} (e:c.kind=5) (h:FmI c.parts c.parts.length L) (x:CjR L y):TdR c y:=by
  have A:=h.er;rw[yac_ zak_]at A;have B:=Con.tdy_and e;rw[yam_ zap_]at B;have k:((c.parts.map Con.tdy).flatMap λz=>Con.flat1 z.1)=((c.parts.map Con.tdy).map Prod.fst).flatMap Con.flat1:=by grind[List.flatMap_map]
  obtain⟨v,u⟩:=iq_ (xp_ (pO_ h.cores));obtain⟨d,o⟩:=x;refine⟨by grind,λq=>?_⟩
  grind
theorem pE_ {c:Con} (h:c.check=0) (x:c.kind≠5) (v:c.kind≠6):c.parts=[]:=by
  have f:=Con.fields (Con.check_zero h).1;have d:=f.mo;have u:=f.k1;have e:=f.k7;have o:c.kind=1\/c.kind=2\/c.kind=3\/c.kind=4\/c.kind=7:=by omega
  refine yau_ ?_;rcases o with k|k|k|k|k<;>rw[k]at d<;>simp[Go.Vs.nd,dC_]at d<;>first|exact d|omega|(simp[d])
theorem tdy_er {c:Con} (e:c.check=0) (d:Con.erF (c.parts.map Con.tdy)≠0):c.tdy.2=Con.erF (c.parts.map Con.tdy):=by
  grind[Con.tdy_and,List.length_eq_one_iff,lT_,Con.erF,Con.tdy_some,pE_]
theorem FmI.bad {c:Con} {L:List Con} {i:Nat} {p q z:Con} {e:Int} (u:c.check=0) (h:FmI c.parts i L) (o:c.parts[i]? = some p) (d:TdR p (q,e)) (k:e≠0):TdR c (z,e):=by
  have x:e=p.tdy.2:=d.1;have v:=vD_ h.er (z:=p.tdy) zap_ zap_;exact⟨by grind[tdy_er],λq=>absurd q k⟩
theorem FmI.some2 {c t:Con} {L:List Con} (e:c.check=0) (d:c.kind=6) (h:FmI c.parts c.parts.length L) (k:L[0]? = some t):∃ p,c.parts=[p]/\TdR p (t,0):=by
  obtain⟨p,o⟩:=ybb_.1 (lT_ e d);obtain⟨v,x,u⟩:=h.at_ 0 t k
  grind
theorem CW_ {c p t:Con} (e:c.kind=6) (d:c.parts=[p]) (h:TdR p (t,0)) (k:t.kind=2):TdR c (t,0):=by
  grind[Con.tdy_some,Con.core_kind,TdR]
theorem Be_ {c:Con} (k:c.check=0) (d:c.ok) (h:c.kind≠5) (e:c.kind≠6):TdR c (.mk c.kind c.name c.lo c.hi none 0 [],0):=by
 unfold TdR;rw[Con.tdy_self h e];have o:=pE_ k h e;refine⟨rfl,λ_=>⟨?_,?_⟩⟩
 .grind[Con.core_eq,Con.kind,Con.name,Con.lo,Con.hi,Con.parts]
 cases c;exact⟨d.1,d.2.1,d.2.2.1,d.2.2.2.1,d.2.2.2.2.1,d.2.2.2.2.2.1,d.2.2.2.2.2.2.1,yaV_ _,by simp,trivial⟩
theorem AN_ {L:List Con} {q:Con} {v:Vw} (h:(et_ L).p v) (e:(Con.memF q).p v):(et_ (L++[q])).p v:=λc d=>by
 rcases yaj_.1 d with d|d
 .exact h c d
 rw[yal_]at d;subst d;exact e
theorem Cu_ (c:Con) (Y:c.ok) (V:c.check=0) (hT:(∀ p∈c.parts,Tri prog 249 #[Con.val p] [] [Con.memF p] (λy:{y:Con×Int // TdR p y}=>.tuple #[Con.val y.1.1,i4_ y.1.2]) (λ_=>[]) (λy=>[Con.memF y.1.1]))):Tri prog 249 #[Con.val c] [] [Con.memF c] (λy:{y:Con×Int // TdR c y}=>.tuple #[Con.val y.1.1,i4_ y.1.2]) (λ_=>[]) (λy=>[Con.memF y.1.1]):=by
 refine l_ func249 rfl rfl ntmps249 rfl λv_1=>?_;have b6:=Con.parts_lt c;have b8:=(Con.check_zero V).2;refine Zz 2 ?_;refine Q_ rfl rfl λa5=>K_ ay_ rfl λa1=>Zz 5 ?_
 refine dc_ z_ i_ rfl λa0=>s_ f_ (Zz 4 ?_)
 refine s_ (aL_ (ae_ f_) (cg_ bS_)) (Zz 6 ?_);refine Y_ (ι:={y:Nat×List Con×Value×Hp // y.1<=List.length c.parts/\FmI c.parts y.1 y.2.1/\zR 28 5 Con.cells y.2.2.1 y.2.1 y.2.2.2}) (λy=>[(1,zp_ a5 0),(2,zp_ a1 0),(3,i4_ 0),(4,y.1.2.2.1),(5,i4_ y.1.1)]) (λy=>((a1,.cells (Con.cells (Con.mk 0 [] 0 0 none 0 [])).toArray 28 (0,0))::((a5,.cells (Con.cells c).toArray 28 (0,0))::y.1.2.2.2))) (λy=>[et_ y.1.2.1,Con.memF c]) (λy=>c.parts.length - y.1.1) ⟨((0:Nat),([]:List Con),(.slice (some ⟨a0,0,none⟩) 0 0),[(a0,.cells #[] 28 (0,0))]),by simp,FmI.nil,(dr_ a0 28 5)⟩ zl zp (λv _ h=>by exact⟨(show (et_ []).p v from λc hc=>by simp at hc),h.1,trivial⟩) ?_;rintro ⟨⟨i,L,b7,c0⟩,b1,F,E⟩;dsimp only at b1 F E ⊢;refine Zi 7 (λK=>?_) λK=>?_
 .refine Zz 7 ?_
  obtain rfl:i=c.parts.length:=by omega
  have b9:=F;refine I_ E (g_ ah_) λe d S P b2 a7=>?_;subst S;refine Zi 3 (λk=>?_) λk=>?_
  .refine Zi 10 (λo=>?_) λo=>?_
   .refine Zz 15 ?_
    refine c_ (x_ ff_ rfl rfl) rfl (o_ 0 i_ rfl rfl rfl rfl rfl rfl (Zz 4 ?_));exact cs_ ⟨((Con.mk c.kind c.name c.lo c.hi none 0 []),0),Be_ V Y k o⟩ (λU v A x=>br_ (us:=Con.cells (Con.mk c.kind c.name c.lo c.hi none 0 [])) 0 wn_ H_ i_ rfl rfl rfl rfl U v A x) e_ (λv _ h=>by exact⟨(by refine⟨.inl rfl,?_⟩;trivial),trivial⟩)
   refine Zz 5 ?_;have a4:=lT_ V o;have hLl:=F.len;have X:0<L.length:=by omega
   obtain⟨Q,C⟩:∃ I,L[0]? = some I:=⟨_,yaa_ X⟩;have Z:Q∈L:=yad_ C;obtain⟨T,a9,b3⟩:=FmI.some2 V o F C;refine Zi 5 (λM=>?_) λM=>?_
   .refine Zz 10 ?_
    refine c_ (x_ ff_ rfl rfl) rfl (o_ 0 i_ rfl rfl rfl rfl rfl rfl (Zz 4 ?_));exact cs_ ⟨((Con.mk 6 c.name 0 0 e d L),0),(by have a3:L=[Q]:=(by have q:=F.len;rw[a4]at q;obtain⟨z,hz⟩:=ybb_.1 q;rw[hz]at C;simp at C;rw[hz,C]);subst a3;have q:=uI_ (ad:=e) Y (Con.tdy_some o a9) b3 rfl M;exact⟨q.1,λz=>⟨by have w:=(q.2 z).1;rw[Con.core_eq,Con.core_eq]at w ⊢;exact w,⟨by decide,by decide,Con.ok_name Y,by decide,by decide,by decide,by decide,P,by simp,Con.oks_iff.2 λp hp=>F.ok p hp⟩⟩⟩)⟩ (λU v A x=>br_ (us:=Con.cells (Con.mk 6 c.name 0 0 e d L)) 0 wn_ H_ i_ rfl rfl rfl rfl U v A x) e_ (λv _ h=>by exact⟨(Con.mem_iff (Con.mk 6 c.name 0 0 e d L) v).2 ⟨h.1,h.2.1⟩,trivial⟩)
   refine Zz 8 ?_;refine o_ 0 i_ rfl rfl rfl rfl rfl rfl (Zz 4 ?_);exact cs_ ⟨(Q,0),CW_ o a9 b3 M⟩ (λU v A x=>br_ (us:=Con.cells Q) 0 wn_ H_ i_ rfl rfl rfl rfl U v A x) e_ (λv _ h=>by exact⟨(h.2.1 Q Z),trivial⟩)
  refine Zz 6 ?_;refine d_ (BT_ L e d F.ok F.nt (by rw[qG_ b9.cores];have J:=vZ_ c.parts;have H:=(Con.check_zero V).2;rw[Con.sz_eq]at H;omega)) rfl e_ zf rfl λ⟨⟨H,I⟩,G⟩=>?_;dsimp only;try dsimp only at G
  refine Zz 2 ?_;refine o_ 0 i_ rfl rfl rfl rfl rfl rfl (Zz 4 ?_);exact cs_ ⟨(H,I),F.conj k G⟩ (λU v A x=>br_ (us:=Con.cells H) 0 wn_ H_ i_ rfl rfl rfl rfl U v A x) e_ zf
 have R:i<c.parts.length:=by omega
 obtain⟨T,B⟩:∃ I,c.parts[i]? = some I:=⟨_,yaa_ R⟩;have O:T∈c.parts:=yad_ B;refine Zz 12 ?_;refine c_ (J_ z_ i_ rfl rfl (λv _ h=>az_ (n:=5) Con.cells_len zaj_ (by exact ((Con.mem_iff c v).1 h.2.1).1) B) zaa_ zah_) rfl ?_;refine c_ (ax_ (ad:=c.ad) (us:=Con.cells T) H_ i_ rfl (λv _ h=>by exact ((Con.mem_iff c v).1 h.2.1).1) (Con.cells_len _) (t_ Con.cells_len B)) rfl (d_ (hT T O) rfl e_ (λv _ h=>by exact⟨(Con.mem_part (c:=c) h.2.1 O),trivial⟩) rfl λ⟨⟨J,b0⟩,W⟩=>?_);dsimp only;try dsimp only at W
 refine Zz 3 ?_;refine K_ ay_ rfl λb_4=>o_ 0 i_ rfl rfl rfl rfl rfl rfl (Zi 7 (λk=>?_) λk=>?_)
 .have a8:b0=0:=by simpa using k
  refine Zz 8 ?_;refine p_ z_ i_ ay_ rfl rfl rfl rfl rfl rfl λb_5=>?_;refine am_ (news:=List.flatMap Con.cells [J]) hw_ E rfl rfl (g_ (g_ (g_ ah_))) rfl (aO_ 0 rfl) (λu hu=>aF_ Con.cells_one hu) (by simp only[maxLen];((try simp only[yae_,yap_,yaw_]);have J:=F.len;have H:=F.le;have b5:=Con.parts_lt c;have b4:=(Con.check_zero V).2;omega)) (by ((try simp only[yae_,yap_,yaw_]);have J:=F.len;have H:=F.le;have b5:=Con.parts_lt c;have b4:=(Con.check_zero V).2;omega)) rfl λa2 a6 K=>?_;refine s_ yah_ ?_;have G:=zsa K;refine Zz 9 ?_;exact w_ ⟨(i+1,(L++[J]),a2,a6),R,(F.add B W a8),G⟩ zae_ zl (E_ (g_ (g_ f_)) (E_ (g_ (g_ f_)) (g_ ah_))) (λv _ h=>by exact⟨(AN_ h.2.1 h.1),h.2.2.1,trivial⟩)
 refine Zz 5 ?_;refine c_ (x_ ff_ rfl rfl) rfl (Zz 1 ?_);refine o_ 1 i_ rfl rfl rfl rfl rfl rfl (Zz 4 ?_);exact cs_ ⟨(Con.zeroC,b0),F.bad V B W zaM_⟩ (λU v A x=>br_ (us:=Con.cells Con.zeroC) 1 wn_ H_ i_ rfl rfl rfl rfl U v A x) e_ (λv _ h=>by exact⟨(show Con.mem Con.zeroC v from ⟨.inl rfl,trivial⟩),trivial⟩)
theorem vC_ (c:Con) (d:c.ok) (e:c.check=0):Tri prog 249 #[c.val] [] [c.memF] (λy:{y:Con×Int // TdR c y}=>.tuple #[Con.val y.1.1,i4_ y.1.2]) (λ_=>[]) (λy=>[Con.memF y.1.1]):=by
  have key:∀ n (c:Con),c.sz<=n->c.ok->c.check=0->Tri prog 249 #[c.val] [] [c.memF] (λy:{y:Con×Int // TdR c y}=>.tuple #[Con.val y.1.1,i4_ y.1.2]) (λ_=>[]) (λy=>[Con.memF y.1.1]):=by
    intro n
    induction n with
    | zero=>grind[Con.sz_pos]
    | succ n ih =>
      intro c h d e;exact Cu_ c d e λp k=>ih p (by have:=Con.sz_part k;omega) (Con.ok_part d k) (Con.check_part e k)
  exact key c.sz c (yab_ _) d e
end Go.Proofs.YtbffkokbdeppaaaGreatDoor
namespace Go.Sx
open Go
theorem ot_ {P:Program} {w:World} (k:Nat) (t ty e:TypeId) (i:TypeInfo) (size:Nat) (u:P.underlying t=some (.slice e)) (hi:P.info? e=some i)
    (v:Value) (n c:Nat) (xs:List Value) (h:w.ownsRow k e size v n xs):(Builtin.append_ #[t,t] ty #[v,.slice none 0 c]).run P w=.ok v w:=by
  rcases h.2 with⟨rfl,rfl⟩|⟨g,cap,cur,rfl,_,_,o,_⟩
  . simp[Builtin.append_,run_underlying u,sizeOf,typeInfo,hi,Builtin.lenOf,Builtin.firstCells]
  . simp[Builtin.append_,run_underlying u,sizeOf,typeInfo,hi,Builtin.lenOf,Builtin.firstCells,o,storeCells]
section
variable {P:Program} {N:Nf} {v0:Vw} {H0:Hp} {R:Exit->Act->World->Prop} {K:List Kt} {fr:Fr} {H:Hp} {Γ:List Fct}
variable {ops:Array Oper} {l:List Oper} {d:Nat} {ty:TypeId} {ps:String} {af:Array Edge}
theorem sb_ {x y:Operand} {t e:TypeId} {sz by' n m c:Nat} {sv:Value} {xs news:List Value} {Hr F:Hp} {ad:Ao} (L:Elt P t e sz by') (k:av_ e sz sv n xs Hr)
    (U:Fr.ev fr x=some sv) (S:Fr.ev fr y=some (.slice ad m c)) (Q:ad=none->m=0) (I:H.Perm (Hr++F)) (hl:news.length=m*sz) (o:∀ v,v.sat H->aC_ Γ v->bW_ v ad news) (G:∀ u∈news,u.oneCell'=true)
    (E:n+m<=maxLen) (W:(n+m)*by'<=140737488355328) (V:Nat.blt d N.n=true)
    (O:∀ sv' Hr',av_ e sz sv' (n+m) (xs++news) Hr'->Ops P R N v0 H0 ops l K ((d,sv')::fr) (Hr'++F) Γ) :
    Ops P R N v0 H0 ops (⟨some d,.call ⟨.builtin .append,#[x,y],#[t,t]⟩,ty,ps,af,none⟩::l) K fr H Γ:=by
  cases ad with
  | none =>
    obtain rfl:m=0:=Q rfl;obtain rfl:news=[]:=yau_ (by simpa using hl);refine dl_ rfl λa v A B J C=>?_;obtain⟨i,z,hi,Q,es,eb,ez⟩:=L.info;have g:=B.perm I;have Y:=k.owns g;have Z:=ot_ (P:=P) (w:=v.w) 0 t ty e i sz L.und hi sv n c xs Y;unfold Oper.wp execOp;simp only[resolve,invoke,builtin,Sem.run_bind,Sem.run_pure,Result.andThen_ok,ybd_,yaE_,ybz_,A.ev U,A.ev S,Z];have T:v.to H v (Hr++F):=(Vw.to.refl v (Hr++F)).permL I.symm;exact O sv Hr zaM_ _ v (A.put V) g (J.trans T) C
  | some a0 =>
    refine am_ L k U S I hl (λv B C j u M=>?_) G E W V O;rcases o v B C with h|⟨b,off,a1,T,fz,A,_,J,X⟩
    . rw[h]at M;simp at M
    . rw[yai_]at A
      subst A;have:=X j u M;rw[da_];simp[World.cell?,J,this]
end
end Go.Sx
namespace Go.Proofs.YtbffkokbdeppaaaGreatDoor
open Go Go.Sx Go.Proofs Tryz
attribute [local irreducible] Code.wp wpList wpAnyH
open Go.Vs
structure SdC (u:Bool) (c q:Con):Prop where
  core:q.core=(if u=true then c.tdy.1 else c).core
  ok:q.ok
  er:¬ (u=true/\c.tdy.2≠0)
theorem SdC.yes {u:Bool} {c q:Con} {e:Int} (d:u=true) (h:TdR c (q,e)) (o:e=0):SdC u c q:=by
  subst o;exact⟨by rw[yax_ d];exact (h.2 rfl).1,(h.2 rfl).2,λk=>k.2 h.1.symm⟩
theorem Bi_:Con.zeroC.ok:=by simp[Con.zeroC,Con.ok,Con.ok.oks]
theorem SdC.no {u:Bool} {c:Con} (d:u=false) (e:c.core=Con.zeroC.core):SdC u c Con.zeroC:=⟨by grind,Bi_,λk=>by grind⟩
theorem pW_ {c:Con} (h:c.empty=true):c.core=Con.zeroC.core:=by
  unfold Con.empty at h;simp only[yaJ_,ybZ_]at h;obtain⟨⟨⟨⟨o,e⟩,u⟩,k⟩,v⟩:=h;have d:c.parts=[]:=yau_ zaa_;rw[Con.core_eq,Con.core_eq,o,e,u,k,d];rfl
theorem lU_ {x:Ax} (h:x.check=0):((us x.kind).left=true\/x.left.empty=true)/\((us x.kind).right=true\/x.right.empty=true):=by
  have d:=jT_ h
  grind[Ax.shaped]
theorem pV_ {c:Con} (h:c.empty=true):c.kind=0:=by
  grind[Con.empty]
theorem kind_pos {c:Con} (h:c.check=0):c.kind≠0:=by
  have:=(Con.fields (Con.check_zero h).1).k1;omega
theorem fi_ {x:Ax} (h:x.check=0) (d:x.left.kind≠0):(us x.kind).left=true:=by grind[lU_,pV_]
theorem eQ_ {x:Ax} (h:x.check=0) (d:x.right.kind≠0):(us x.kind).right=true:=by grind[lU_,pV_]
theorem iD_ {x:Ax} (h:x.check=0) (d:x.left.kind=0):SdC (us x.kind).left x.left Con.zeroC:=by
  grind[kind_pos,hx_,SdC.no,pW_,lU_]
theorem jx_ {x:Ax} (h:x.check=0) (d:x.right.kind=0):SdC (us x.kind).right x.right Con.zeroC:=by
  grind[kind_pos,fF_,SdC.no,pW_,lU_]
theorem SdC.sz {u:Bool} {c q:Con} (h:SdC u c q):q.sz<=c.sz:=by
  have d:=h.core
  grind[Con.sz_core,Con.tdy_sz]
theorem Do_ {x:Ax} {l r:Con} (h:x.check=0) (hl:SdC (us x.kind).left x.left l) (d:SdC (us x.kind).right x.right r):x.tdyE=0:=by
  grind[Ax.tdyE,SdC.er]
theorem xf_ {x:Ax} {l r:Con} (hl:SdC (us x.kind).left x.left l) (d:SdC (us x.kind).right x.right r):Con.cmp x.tdyL x.tdyR=Con.cmp l r:=Con.cmp_of hl.core.symm d.core.symm
theorem sQ_ {x:Ax} {l r:Con} {ad:Ao} {cap:Nat} (d:x.ok) (k:x.roles.length<=cap) (h:x.check=0) (hl:SdC (us x.kind).left x.left l) (o:SdC (us x.kind).right x.right r) (u:¬ ((x.kind=2\/x.kind=3)/\0<Con.cmp l r)):TyR x (.mk x.kind x.opn l r ad cap x.roles x.role x.a x.b,0):=by
 have e:¬ x.swp:=by grind[Ax.swp,xf_]
 refine⟨(Do_ h hl o).symm,λ_=>⟨⟨rfl,rfl,rfl,rfl,rfl,rfl,?_,?_⟩,?_⟩⟩
 .rw[yam_ e];exact hl.core
 .rw[yam_ e];exact o.core
 exact⟨d.lo,d.hi,hl.ok,o.ok,k,d.cap,d.roles,d.role,d.a,d.b⟩
theorem vQ_ {x:Ax} {l r:Con} {ad:Ao} {cap:Nat} (d:x.ok) (k:x.roles.length<=cap) (h:x.check=0) (hl:SdC (us x.kind).left x.left l) (o:SdC (us x.kind).right x.right r) (u:x.kind=2\/x.kind=3) (v:0<Con.cmp l r):TyR x (.mk x.kind x.opn r l ad cap x.roles x.role x.a x.b,0):=by
 have e:x.swp:=by grind[Ax.swp,xf_]
 refine⟨(Do_ h hl o).symm,λ_=>⟨⟨rfl,rfl,rfl,rfl,rfl,rfl,?_,?_⟩,?_⟩⟩
 .rw[yax_ e];exact o.core
 .rw[yax_ e];exact hl.core
 exact⟨d.lo,d.hi,o.ok,hl.ok,k,d.cap,d.roles,d.role,d.a,d.b⟩
theorem Bd_ {x y:Ax} {l q:Con} {e:Int} (h:x.check=0) (hl:SdC (us x.kind).left x.left l) (v:(us x.kind).right=true) (d:TdR x.right (q,e)) (o:e≠0):TyR x (y,e):=by
  have u:e=x.right.tdy.2:=d.1;refine⟨?_,λk=>absurd k o⟩
  grind[Ax.tdyE,SdC.er]
theorem BJ_ {v:Vw} {x:Ax} (h:bW_ v x.ad (x.roles.flatMap V_)):x.ad=none->x.roles.length=0:=λq=>by
  rw[q]at h;have d:=zr_ h;cases e:x.roles<;>grind[V_]
theorem mY_ {G:Prop} (h:G:=by
 refine Zz 10 ?_;refine o_ 0 i_ rfl rfl rfl rfl rfl rfl (Zz 1 ?_);refine o_ 0 i_ rfl rfl rfl rfl rfl rfl (Zz 3 ?_);exact hh_):G:=h
theorem mZ_ {G:Prop} (h:G:=by
 refine Zz 10 ?_;refine o_ 0 i_ rfl rfl rfl rfl rfl rfl (Zz 1 ?_);refine o_ 0 i_ rfl rfl rfl rfl rfl rfl (Zz 3 ?_);refine s_ (show List.Perm _ ((L,.cells (Ax.cells (Ax.mk x.kind x.opn O C e d x.roles x.role x.a x.b)).toArray 30 (0,0))::((J,.cells (Ax.cells (Ax.mk 0 false (Con.mk 0 [] 0 0 none 0 []) (Con.mk 0 [] 0 0 none 0 []) none 0 [] [] [] [])).toArray 30 (0,0))::((K,.cells (Ax.cells x).toArray 30 (0,0))::[]))) from .refl _) ?_;refine Zz 2 ?_;refine o_ 1 D_ rfl rfl rfl rfl rfl rfl (Zz 4 ?_);exact cs_ ⟨((Ax.mk x.kind x.opn O C e d x.roles x.role x.a x.b),0),vQ_ M A F (SdC.yes (fi_ F B) k zaV_) (SdC.yes (eQ_ F E) P zbC_) zbf_ zbf_⟩ (λQ v H G=>br_ (us:=Ax.cells (Ax.mk x.kind x.opn O C e d x.roles x.role x.a x.b)) 1 dL_ bg_ D_ rfl rfl rfl rfl Q v H G) e_ (λv _ h=>by exact⟨⟨h.1,h.2.1,h.2.2.1⟩,trivial⟩)):G:=h
theorem na_ {G:Prop} (h:G:=by
 refine Zz 10 ?_;refine o_ 0 i_ rfl rfl rfl rfl rfl rfl (Zz 1 ?_);refine o_ 0 i_ rfl rfl rfl rfl rfl rfl (Zz 3 ?_);refine s_ (show List.Perm _ ((L,.cells (Ax.cells (Ax.mk x.kind x.opn (Con.mk 0 [] 0 0 none 0 []) C e d x.roles x.role x.a x.b)).toArray 30 (0,0))::((J,.cells (Ax.cells (Ax.mk 0 false (Con.mk 0 [] 0 0 none 0 []) (Con.mk 0 [] 0 0 none 0 []) none 0 [] [] [] [])).toArray 30 (0,0))::((K,.cells (Ax.cells x).toArray 30 (0,0))::[]))) from .refl _) ?_;refine Zz 2 ?_;refine o_ 1 D_ rfl rfl rfl rfl rfl rfl (Zz 4 ?_);exact cs_ ⟨((Ax.mk x.kind x.opn (Con.mk 0 [] 0 0 none 0 []) C e d x.roles x.role x.a x.b),0),vQ_ M A F (SdC.yes (fi_ F B) k zaV_) (show SdC _ _ (Con.mk 0 [] 0 0 none 0 []) from jx_ F E) zbf_ zbf_⟩ (λQ v H G=>br_ (us:=Ax.cells (Ax.mk x.kind x.opn (Con.mk 0 [] 0 0 none 0 []) C e d x.roles x.role x.a x.b)) 1 dL_ bg_ D_ rfl rfl rfl rfl Q v H G) e_ (λv _ h=>by exact⟨⟨⟨.inl rfl,trivial⟩,h.1,h.2.1⟩,trivial⟩)):G:=h
theorem nb_ {G:Prop} (h:G:=by
 refine Zz 10 ?_;refine o_ 0 i_ rfl rfl rfl rfl rfl rfl (Zz 1 ?_);refine o_ 0 i_ rfl rfl rfl rfl rfl rfl (Zz 3 ?_);refine s_ (show List.Perm _ ((L,.cells (Ax.cells (Ax.mk x.kind x.opn C (Con.mk 0 [] 0 0 none 0 []) e d x.roles x.role x.a x.b)).toArray 30 (0,0))::((J,.cells (Ax.cells (Ax.mk 0 false (Con.mk 0 [] 0 0 none 0 []) (Con.mk 0 [] 0 0 none 0 []) none 0 [] [] [] [])).toArray 30 (0,0))::((K,.cells (Ax.cells x).toArray 30 (0,0))::[]))) from .refl _) ?_;refine Zz 2 ?_;refine o_ 1 D_ rfl rfl rfl rfl rfl rfl (Zz 4 ?_);exact cs_ ⟨((Ax.mk x.kind x.opn C (Con.mk 0 [] 0 0 none 0 []) e d x.roles x.role x.a x.b),0),vQ_ M A F (show SdC _ _ (Con.mk 0 [] 0 0 none 0 []) from iD_ F B) (SdC.yes (eQ_ F o) k zbo_) zbf_ zbf_⟩ (λQ v H G=>br_ (us:=Ax.cells (Ax.mk x.kind x.opn C (Con.mk 0 [] 0 0 none 0 []) e d x.roles x.role x.a x.b)) 1 dL_ bg_ D_ rfl rfl rfl rfl Q v H G) e_ (λv _ h=>by exact⟨⟨h.1,⟨.inl rfl,trivial⟩,h.2.1⟩,trivial⟩)):G:=h
theorem iP_ {G:Prop} (h:G:=by
 refine s_ (show List.Perm _ ((L,.cells (Ax.cells (Ax.mk x.kind x.opn C O e d x.roles x.role x.a x.b)).toArray 30 (0,0))::((J,.cells (Ax.cells (Ax.mk 0 false (Con.mk 0 [] 0 0 none 0 []) (Con.mk 0 [] 0 0 none 0 []) none 0 [] [] [] [])).toArray 30 (0,0))::((K,.cells (Ax.cells x).toArray 30 (0,0))::[]))) from .refl _) ?_;refine Zz 2 ?_;refine o_ 1 D_ rfl rfl rfl rfl rfl rfl (Zz 4 ?_);exact cs_ ⟨((Ax.mk x.kind x.opn C O e d x.roles x.role x.a x.b),0),sQ_ M A F (SdC.yes (fi_ F B) k zaV_) (SdC.yes (eQ_ F E) P zbC_) (by have a2:=Con.cmp_self (Con.mk 0 [] 0 0 none 0 []);(try dsimp only at *);omega)⟩ (λQ v H G=>br_ (us:=Ax.cells (Ax.mk x.kind x.opn C O e d x.roles x.role x.a x.b)) 1 dL_ bg_ D_ rfl rfl rfl rfl Q v H G) e_ (λv _ h=>by exact⟨⟨h.2.1,h.1,h.2.2.1⟩,trivial⟩)):G:=h
theorem iQ_ {G:Prop} (h:G:=by
 refine s_ (show List.Perm _ ((L,.cells (Ax.cells (Ax.mk x.kind x.opn C (Con.mk 0 [] 0 0 none 0 []) e d x.roles x.role x.a x.b)).toArray 30 (0,0))::((J,.cells (Ax.cells (Ax.mk 0 false (Con.mk 0 [] 0 0 none 0 []) (Con.mk 0 [] 0 0 none 0 []) none 0 [] [] [] [])).toArray 30 (0,0))::((K,.cells (Ax.cells x).toArray 30 (0,0))::[]))) from .refl _) ?_;refine Zz 2 ?_;refine o_ 1 D_ rfl rfl rfl rfl rfl rfl (Zz 4 ?_);exact cs_ ⟨((Ax.mk x.kind x.opn C (Con.mk 0 [] 0 0 none 0 []) e d x.roles x.role x.a x.b),0),sQ_ M A F (SdC.yes (fi_ F B) k zaV_) (show SdC _ _ (Con.mk 0 [] 0 0 none 0 []) from jx_ F E) zbM_⟩ (λQ v H G=>br_ (us:=Ax.cells (Ax.mk x.kind x.opn C (Con.mk 0 [] 0 0 none 0 []) e d x.roles x.role x.a x.b)) 1 dL_ bg_ D_ rfl rfl rfl rfl Q v H G) e_ (λv _ h=>by exact⟨⟨h.1,⟨.inl rfl,trivial⟩,h.2.1⟩,trivial⟩)):G:=h
theorem iR_ {G:Prop} (h:G:=by
 refine s_ (show List.Perm _ ((L,.cells (Ax.cells (Ax.mk x.kind x.opn (Con.mk 0 [] 0 0 none 0 []) C e d x.roles x.role x.a x.b)).toArray 30 (0,0))::((J,.cells (Ax.cells (Ax.mk 0 false (Con.mk 0 [] 0 0 none 0 []) (Con.mk 0 [] 0 0 none 0 []) none 0 [] [] [] [])).toArray 30 (0,0))::((K,.cells (Ax.cells x).toArray 30 (0,0))::[]))) from .refl _) ?_;refine Zz 2 ?_;refine o_ 1 D_ rfl rfl rfl rfl rfl rfl (Zz 4 ?_);exact cs_ ⟨((Ax.mk x.kind x.opn (Con.mk 0 [] 0 0 none 0 []) C e d x.roles x.role x.a x.b),0),sQ_ M A F (show SdC _ _ (Con.mk 0 [] 0 0 none 0 []) from iD_ F B) (SdC.yes (eQ_ F o) k zbo_) zbM_⟩ (λQ v H G=>br_ (us:=Ax.cells (Ax.mk x.kind x.opn (Con.mk 0 [] 0 0 none 0 []) C e d x.roles x.role x.a x.b)) 1 dL_ bg_ D_ rfl rfl rfl rfl Q v H G) e_ (λv _ h=>by exact⟨⟨⟨.inl rfl,trivial⟩,h.1,h.2.1⟩,trivial⟩)):G:=h
theorem hh_ {G:Prop} (h:G:=by
 refine s_ (show List.Perm _ ((L,.cells (Ax.cells (Ax.mk x.kind x.opn (Con.mk 0 [] 0 0 none 0 []) (Con.mk 0 [] 0 0 none 0 []) e d x.roles x.role x.a x.b)).toArray 30 (0,0))::((J,.cells (Ax.cells (Ax.mk 0 false (Con.mk 0 [] 0 0 none 0 []) (Con.mk 0 [] 0 0 none 0 []) none 0 [] [] [] [])).toArray 30 (0,0))::((K,.cells (Ax.cells x).toArray 30 (0,0))::[]))) from .refl _) ?_;refine Zz 2 ?_;refine o_ 1 D_ rfl rfl rfl rfl rfl rfl (Zz 4 ?_);exact cs_ ⟨((Ax.mk x.kind x.opn (Con.mk 0 [] 0 0 none 0 []) (Con.mk 0 [] 0 0 none 0 []) e d x.roles x.role x.a x.b),0),sQ_ M A F (show SdC _ _ (Con.mk 0 [] 0 0 none 0 []) from iD_ F B) (show SdC _ _ (Con.mk 0 [] 0 0 none 0 []) from jx_ F o) (by have C:=Con.cmp_self (Con.mk 0 [] 0 0 none 0 []);(try dsimp only at *);omega)⟩ (λQ v H G=>br_ (us:=Ax.cells (Ax.mk x.kind x.opn (Con.mk 0 [] 0 0 none 0 []) (Con.mk 0 [] 0 0 none 0 []) e d x.roles x.role x.a x.b)) 1 dL_ bg_ D_ rfl rfl rfl rfl Q v H G) e_ (λv _ h=>by exact⟨⟨⟨.inl rfl,trivial⟩,⟨.inl rfl,trivial⟩,h.1⟩,trivial⟩)):G:=h
set_option maxHeartbeats 4000000 in
theorem xK_ (x:Ax) (M:x.ok) (T:x.left.sz<=1000) (U:x.right.sz<=1000):Tri prog 168 #[Ax.val x] [] [Ax.memF x] (λy:{y:Ax×Int // TyR x y}=>.tuple #[Ax.val y.1.1,i4_ y.1.2]) (λ_=>[]) (λy=>[Ax.memF y.1.1]):=by
 refine l_ func168 rfl rfl ntmps168 rfl λa8=>?_;refine Zz 2 ?_;refine Q_ rfl rfl λK=>K_ aQ_ rfl λJ=>Zz 6 ?_
 refine d_ (eX_ x M T U) rfl e_ zf rfl λ_=>Zi 7 (λV=>?_) λV=>?_
 .have F:Ax.check x=0:=by simpa using V
  refine Zz 17 ?_;refine c_ (x_ strt30 rfl rfl) rfl (K_ aQ_ rfl λL=>o_ 0 D_ rfl rfl rfl rfl rfl rfl (Zz 8 ?_));refine ok_get (p:=Ax.ad x=none->x.roles.length=0) (λv _ h=>BJ_ h.1.2.2) λY=>?_;refine sb_ (news:=List.flatMap V_ x.roles) ch_ (av_.nil 9 1) rfl rfl Y e_ zaH_ (λv _ h=>by exact h.1.2.2) (λu hu=>aF_ bN_ hu) (by simp only[maxLen];have:=M.cap;omega) (by have:=M.cap;omega) rfl λa6 a3 a5=>?_;refine s_ yah_ ?_;have a7:av_ 9 1 a6 x.roles.length (x.roles.flatMap V_) a3:=by have q:=a5;rw[ycQ_,ybP_]at q;exact q
  refine I_ a7 (g_ (g_ ah_)) λe d W A a0 a1=>?_;subst W;refine Zz 1 ?_;refine o_ 0 bo_ rfl rfl rfl rfl rfl rfl (Zz 4 ?_);let Pu:Hp:=((J,.cells (Ax.cells (Ax.mk 0 false (Con.mk 0 [] 0 0 none 0 []) (Con.mk 0 [] 0 0 none 0 []) none 0 [] [] [] [])).toArray 30 (0,0))::((K,.cells (Ax.cells x).toArray 30 (0,0))::[]));let Qu:Hp:=((L,.cells (Ax.cells (Ax.mk x.kind x.opn (Con.mk 0 [] 0 0 none 0 []) (Con.mk 0 [] 0 0 none 0 []) e d x.roles x.role x.a x.b)).toArray 30 (0,0))::Pu);refine s_ (show List.Perm _ Qu from .refl _) ?_;refine Zi 4 (λB=>?_) λB=>?_
  .refine Zz 7 ?_
   refine s_ (show List.Perm _ Qu from .refl _) ?_;refine Zi 4 (λo=>?_) λo=>?_
   .refine Zz 7 ?_
    refine s_ (show List.Perm _ Qu from .refl _) ?_;refine Zi 3 (λE=>?_) λE=>?_
    .refine Zi 6 (λI=>?_) λI=>?_
     .refine Zz 15 ?_
      exact hh_
     refine Zz 11 ?_;refine d_ (gO_ _ (Con.mk 0 [] 0 0 none 0 []) (Con.mk 0 [] 0 0 none 0 []) (yab_ _) (SdC.ok (show SdC _ _ (Con.mk 0 [] 0 0 none 0 []) from iD_ F B)) (SdC.ok (show SdC _ _ (Con.mk 0 [] 0 0 none 0 []) from jx_ F o)) (yaI_ (SdC.sz (show SdC _ _ (Con.mk 0 [] 0 0 none 0 []) from iD_ F B)) T) (yaI_ (SdC.sz (show SdC _ _ (Con.mk 0 [] 0 0 none 0 []) from jx_ F o)) U)) rfl e_ (λv _ h=>by exact⟨⟨.inl rfl,trivial⟩,⟨.inl rfl,trivial⟩,trivial⟩) rfl λ_=>as_ rfl rfl ?_
     refine Zi 0 (λR=>?_) λR=>?_
     .refine Zz 7 ?_
      exact hh_
     exact mY_
    refine Zz 15 ?_;refine d_ (gO_ _ (Con.mk 0 [] 0 0 none 0 []) (Con.mk 0 [] 0 0 none 0 []) (yab_ _) (SdC.ok (show SdC _ _ (Con.mk 0 [] 0 0 none 0 []) from iD_ F B)) (SdC.ok (show SdC _ _ (Con.mk 0 [] 0 0 none 0 []) from jx_ F o)) (yaI_ (SdC.sz (show SdC _ _ (Con.mk 0 [] 0 0 none 0 []) from iD_ F B)) T) (yaI_ (SdC.sz (show SdC _ _ (Con.mk 0 [] 0 0 none 0 []) from jx_ F o)) U)) rfl e_ (λv _ h=>by exact⟨⟨.inl rfl,trivial⟩,⟨.inl rfl,trivial⟩,trivial⟩) rfl λ_=>as_ rfl rfl ?_
    refine Zi 0 (λI=>?_) λI=>?_
    .refine Zz 7 ?_
     exact hh_
    exact mY_
   refine Zz 7 ?_;refine d_ (vC_ x.right M.right (fF_ F (eQ_ F o))) rfl e_ (λv _ h=>by exact⟨h.2.1.2.1,trivial⟩) rfl λ⟨⟨C,X⟩,k⟩=>?_;dsimp only;try dsimp only at k
   refine Zz 4 ?_;refine o_ 0 i_ rfl rfl rfl rfl rfl rfl (Zi 6 (λE=>?_) λE=>?_)
   .refine Zz 7 ?_
    refine s_ (show List.Perm _ ((L,.cells (Ax.cells (Ax.mk x.kind x.opn (Con.mk 0 [] 0 0 none 0 []) C e d x.roles x.role x.a x.b)).toArray 30 (0,0))::Pu) from .refl _) ?_;refine Zi 3 (λI=>?_) λI=>?_
    .refine Zi 6 (λR=>?_) λR=>?_
     .refine Zz 15 ?_
      exact iR_
     refine Zz 11 ?_;refine d_ (gO_ _ (Con.mk 0 [] 0 0 none 0 []) C (yab_ _) (SdC.ok (show SdC _ _ (Con.mk 0 [] 0 0 none 0 []) from iD_ F B)) (SdC.ok (SdC.yes (eQ_ F o) k zbo_)) (yaI_ (SdC.sz (show SdC _ _ (Con.mk 0 [] 0 0 none 0 []) from iD_ F B)) T) (yaI_ (SdC.sz (SdC.yes (eQ_ F o) k zbo_)) U)) rfl e_ (λv _ h=>by exact⟨⟨.inl rfl,trivial⟩,h.1,trivial⟩) rfl λ_=>as_ rfl rfl ?_
     refine Zi 0 (λS=>?_) λS=>?_
     .refine Zz 7 ?_
      exact iR_
     exact nb_
    refine Zz 15 ?_;refine d_ (gO_ _ (Con.mk 0 [] 0 0 none 0 []) C (yab_ _) (SdC.ok (show SdC _ _ (Con.mk 0 [] 0 0 none 0 []) from iD_ F B)) (SdC.ok (SdC.yes (eQ_ F o) k zbo_)) (yaI_ (SdC.sz (show SdC _ _ (Con.mk 0 [] 0 0 none 0 []) from iD_ F B)) T) (yaI_ (SdC.sz (SdC.yes (eQ_ F o) k zbo_)) U)) rfl e_ (λv _ h=>by exact⟨⟨.inl rfl,trivial⟩,h.1,trivial⟩) rfl λ_=>as_ rfl rfl ?_
    refine Zi 0 (λR=>?_) λR=>?_
    .refine Zz 7 ?_
     exact iR_
    exact nb_
   refine Zz 5 ?_;refine c_ (x_ strt30 rfl rfl) rfl (Zz 1 ?_);refine o_ 1 D_ rfl rfl rfl rfl rfl rfl (Zz 4 ?_);exact cs_ ⟨((Ax.mk 0 false (Con.mk 0 [] 0 0 none 0 []) (Con.mk 0 [] 0 0 none 0 []) none 0 [] [] [] []),X),Bd_ F (show SdC _ _ (Con.mk 0 [] 0 0 none 0 []) from iD_ F B) (eQ_ F o) k zbo_⟩ (λQ v H G=>br_ (us:=Ax.cells (Ax.mk 0 false (Con.mk 0 [] 0 0 none 0 []) (Con.mk 0 [] 0 0 none 0 []) none 0 [] [] [] [])) 1 dL_ bg_ D_ rfl rfl rfl rfl Q v H G) e_ (λv _ h=>by exact⟨⟨⟨.inl rfl,trivial⟩,⟨.inl rfl,trivial⟩,(.inl rfl)⟩,trivial⟩)
  refine Zz 7 ?_;refine d_ (vC_ x.left M.left (hx_ F (fi_ F B))) rfl e_ (λv _ h=>by exact⟨h.2.1.1,trivial⟩) rfl λ⟨⟨C,X⟩,k⟩=>?_;dsimp only;try dsimp only at k
  refine Zz 4 ?_;refine o_ 0 i_ rfl rfl rfl rfl rfl rfl (Zi 6 (λo=>?_) λo=>?_)
  .refine Zz 7 ?_
   let Ru:Hp:=((L,.cells (Ax.cells (Ax.mk x.kind x.opn C (Con.mk 0 [] 0 0 none 0 []) e d x.roles x.role x.a x.b)).toArray 30 (0,0))::Pu);refine s_ (show List.Perm _ Ru from .refl _) ?_;refine Zi 4 (λE=>?_) λE=>?_
   .refine Zz 7 ?_
    refine s_ (show List.Perm _ Ru from .refl _) ?_;refine Zi 3 (λI=>?_) λI=>?_
    .refine Zi 6 (λR=>?_) λR=>?_
     .refine Zz 15 ?_
      exact iQ_
     refine Zz 11 ?_;refine d_ (gO_ _ C (Con.mk 0 [] 0 0 none 0 []) (yab_ _) (SdC.ok (SdC.yes (fi_ F B) k zaV_)) (SdC.ok (show SdC _ _ (Con.mk 0 [] 0 0 none 0 []) from jx_ F E)) (yaI_ (SdC.sz (SdC.yes (fi_ F B) k zaV_)) T) (yaI_ (SdC.sz (show SdC _ _ (Con.mk 0 [] 0 0 none 0 []) from jx_ F E)) U)) rfl e_ (λv _ h=>by exact⟨h.1,⟨.inl rfl,trivial⟩,trivial⟩) rfl λ_=>as_ rfl rfl ?_
     refine Zi 0 (λS=>?_) λS=>?_
     .refine Zz 7 ?_
      exact iQ_
     exact na_
    refine Zz 15 ?_;refine d_ (gO_ _ C (Con.mk 0 [] 0 0 none 0 []) (yab_ _) (SdC.ok (SdC.yes (fi_ F B) k zaV_)) (SdC.ok (show SdC _ _ (Con.mk 0 [] 0 0 none 0 []) from jx_ F E)) (yaI_ (SdC.sz (SdC.yes (fi_ F B) k zaV_)) T) (yaI_ (SdC.sz (show SdC _ _ (Con.mk 0 [] 0 0 none 0 []) from jx_ F E)) U)) rfl e_ (λv _ h=>by exact⟨h.1,⟨.inl rfl,trivial⟩,trivial⟩) rfl λ_=>as_ rfl rfl ?_
    refine Zi 0 (λR=>?_) λR=>?_
    .refine Zz 7 ?_
     exact iQ_
    exact na_
   refine Zz 7 ?_;refine d_ (vC_ x.right M.right (fF_ F (eQ_ F E))) rfl e_ (λv _ h=>by exact⟨h.2.2.1.2.1,trivial⟩) rfl λ⟨⟨O,a4⟩,P⟩=>?_;dsimp only;try dsimp only at P
   refine Zz 4 ?_;refine o_ 0 i_ rfl rfl rfl rfl rfl rfl (Zi 6 (λI=>?_) λI=>?_)
   .refine Zz 7 ?_
    refine s_ (show List.Perm _ ((L,.cells (Ax.cells (Ax.mk x.kind x.opn C O e d x.roles x.role x.a x.b)).toArray 30 (0,0))::Pu) from .refl _) ?_;refine Zi 3 (λR=>?_) λR=>?_
    .refine Zi 6 (λS=>?_) λS=>?_
     .refine Zz 15 ?_
      exact iP_
     refine Zz 11 ?_;refine d_ (gO_ _ C O (yab_ _) (SdC.ok (SdC.yes (fi_ F B) k zaV_)) (SdC.ok (SdC.yes (eQ_ F E) P zbC_)) (yaI_ (SdC.sz (SdC.yes (fi_ F B) k zaV_)) T) (yaI_ (SdC.sz (SdC.yes (eQ_ F E) P zbC_)) U)) rfl e_ zf rfl λ_=>as_ rfl rfl ?_
     refine Zi 0 (λZ=>?_) λZ=>?_
     .refine Zz 7 ?_
      exact iP_
     exact mZ_
    refine Zz 15 ?_;refine d_ (gO_ _ C O (yab_ _) (SdC.ok (SdC.yes (fi_ F B) k zaV_)) (SdC.ok (SdC.yes (eQ_ F E) P zbC_)) (yaI_ (SdC.sz (SdC.yes (fi_ F B) k zaV_)) T) (yaI_ (SdC.sz (SdC.yes (eQ_ F E) P zbC_)) U)) rfl e_ zf rfl λ_=>as_ rfl rfl ?_
    refine Zi 0 (λS=>?_) λS=>?_
    .refine Zz 7 ?_
     exact iP_
    exact mZ_
   refine Zz 5 ?_;refine c_ (x_ strt30 rfl rfl) rfl (Zz 1 ?_);refine o_ 1 D_ rfl rfl rfl rfl rfl rfl (Zz 4 ?_);exact cs_ ⟨((Ax.mk 0 false (Con.mk 0 [] 0 0 none 0 []) (Con.mk 0 [] 0 0 none 0 []) none 0 [] [] [] []),a4),Bd_ F (SdC.yes (fi_ F B) k zaV_) (eQ_ F E) P zbC_⟩ (λQ v H G=>br_ (us:=Ax.cells (Ax.mk 0 false (Con.mk 0 [] 0 0 none 0 []) (Con.mk 0 [] 0 0 none 0 []) none 0 [] [] [] [])) 1 dL_ bg_ D_ rfl rfl rfl rfl Q v H G) e_ (λv _ h=>by exact⟨⟨⟨.inl rfl,trivial⟩,⟨.inl rfl,trivial⟩,(.inl rfl)⟩,trivial⟩)
  refine Zz 5 ?_;refine c_ (x_ strt30 rfl rfl) rfl (Zz 1 ?_);refine o_ 1 D_ rfl rfl rfl rfl rfl rfl (Zz 4 ?_);exact cs_ ⟨((Ax.mk 0 false (Con.mk 0 [] 0 0 none 0 []) (Con.mk 0 [] 0 0 none 0 []) none 0 [] [] [] []),X),TyE2 F (fi_ F B) k zaV_⟩ (λQ v H G=>br_ (us:=Ax.cells (Ax.mk 0 false (Con.mk 0 [] 0 0 none 0 []) (Con.mk 0 [] 0 0 none 0 []) none 0 [] [] [] [])) 1 dL_ bg_ D_ rfl rfl rfl rfl Q v H G) e_ (λv _ h=>by exact⟨⟨⟨.inl rfl,trivial⟩,⟨.inl rfl,trivial⟩,(.inl rfl)⟩,trivial⟩)
 refine Zz 5 ?_;refine c_ (x_ strt30 rfl rfl) rfl (Zz 1 ?_);refine o_ 0 D_ rfl rfl rfl rfl rfl rfl (Zz 4 ?_);exact cs_ ⟨((Ax.mk 0 false (Con.mk 0 [] 0 0 none 0 []) (Con.mk 0 [] 0 0 none 0 []) none 0 [] [] [] []),(Ax.check x)),TyE1 (by simpa using V)⟩ (λQ v H G=>br_ (us:=Ax.cells (Ax.mk 0 false (Con.mk 0 [] 0 0 none 0 []) (Con.mk 0 [] 0 0 none 0 []) none 0 [] [] [] [])) 0 dL_ bg_ D_ rfl rfl rfl rfl Q v H G) e_ (λv _ h=>by exact⟨⟨⟨.inl rfl,trivial⟩,⟨.inl rfl,trivial⟩,(.inl rfl)⟩,trivial⟩)
theorem BN_ (l:List Ax) (ad:Ao) (cap:Nat) (G:∀ x∈l,x.ok) (F:∀ x∈l,x.left.sz<=1000/\x.right.sz<=1000) (I:l.length<=100000):Tri prog 250 #[.slice ad l.length cap] [] [bA_ ad l] (λ_:Unit=>i4_ (dv_ l)) (λ_=>[]) (λ_=>[]):=by
 refine l_ func250 rfl rfl ntmps250 rfl λH=>?_;refine Zz 12 ?_;refine Y_ (ι:={y:Nat // y<=List.length l/\(∀ z∈List.take y l,Ax.check z=0)}) (λy=>[(0,.slice ad l.length cap),(2,i4_ 0),(3,i4_ y.1)]) (λy=>([])) (λy=>[bA_ ad l]) (λy=>l.length - y.1) ⟨(0:Nat),by simp,zak_⟩ zl e_ zh ?_;rintro ⟨i,C,E⟩;dsimp only at C E ⊢;refine Zi 6 (λB=>?_) λB=>?_
 .refine Zz 11 ?_
  exact W_ results250 () (cw_ rfl (yag_ _ (ev_ (λz F=>E z (by rw[yac_ zaa_];exact F))).symm)) e_ zt
 obtain⟨A,e,u,d⟩:=zge (show i<l.length by omega);refine Zz 13 ?_;refine d_ (eX_ e (G e d) (F e d).1 (F e d).2) rfl e_ (λv _ h=>by exact⟨(h.1.2 e d),trivial⟩) rfl λ_=>Zi 6 (λk=>?_) λk=>?_
 .have o:Ax.check e=0:=by simpa using k
  refine Zz 11 ?_;exact w_ ⟨i+1,A,(js_ E u o)⟩ zae_ zl e_ zh
 have o:Ax.check e≠0:=by simpa using k
 refine Zz 10 ?_;exact W_ results250 () (cw_ rfl (yag_ _ (hu_ u E o).symm)) e_ zt
theorem fs_ {G:Prop} (h:G:=by
 have d:Ax.selfs x=m:=by rw[hm,yac_ zaa_];rfl
 exact W_ results305 () (n_ rfl (by unfold Ax.exm;rw[h,d];rw[ybu_];simp only[yaJ_,ybj_,ybY_,yaY_,ybr_,yai_,ybZ_,k,ycY_,ydj_,true_iff,ybs_,ydk_,reduceCtorEq];omega)) e_ zt):G:=h
theorem rExm_c (x:Ax) (i:Nat) (J:x.ok) (hi:i<x.roles.length):Tri prog 305 #[Ax.val x,i4_ i] [] [Ax.memF x] (λ_:Unit=>.bool (x.exm i)) (λ_=>[]) (λ_=>[]):=by
 refine l_ func305 rfl rfl ntmps305 rfl λL=>?_;have M:=J.cap;obtain⟨P,h⟩:∃ r,x.roles[i]? = some r:=⟨_,yaa_ hi⟩;refine Zz 2 ?_;refine Q_ rfl rfl λE=>Zz 23 ?_
 refine Y_ (ι:={y:Nat×Nat // y.1<=List.length x.roles/\y.2=List.countP (λr=>decide (r=x.role)) (x.roles.take y.1)}) (λy=>[(1,i4_ i),(2,zp_ E 0),(4,.bool false),(5,i4_ (List.length x.roles:Int)),(6,i4_ y.1.2),(7,i4_ y.1.1)]) (λy=>((E,.cells (Ax.cells x).toArray 30 (0,0))::[])) (λy=>[Ax.memF x]) (λy=>x.roles.length - y.1.1) ⟨((0:Nat),(0:Nat)),by simp,zak_⟩ zl f_ zh ?_;rintro ⟨⟨j,m⟩,G,hm⟩;dsimp only at G hm ⊢;refine Zi 5 (λH=>?_) λH=>?_
 .refine Zz 8 ?_
  refine C_ 0 [0,1,2,3,4,5,6,7] zk zs (Zi 7 (λe=>?_) λe=>?_)
  .have k:P=Ax.role x:=by simpa using e
   refine Zi 9 (λF=>?_) λF=>?_
   .refine Zi 8 (λv=>?_) λv=>?_
    .refine Zz 17 ?_
     exact fs_
    refine Zi 5 (λu=>?_) λu=>?_
    .refine Zz 7 ?_
     refine c_ (aD_ (aT_ rfl rfl rfl (bB_ zaa_ zaa_)) (show _=i4_ ((List.length x.roles:Int) - 1) from rfl)) rfl (as_ rfl rfl (A_ (al_ rfl rfl) rfl λK A=>Zz 9 ?_));have d:Ax.selfs x=m:=by rw[hm,yac_ zaa_];rfl
     exact W_ results305 () (n_ rfl (by rw[<-A];unfold Ax.exm;rw[h,d];rw[ybu_];simp only[yaJ_,ybj_,ybY_,yaY_,ybr_,yai_,ybZ_,k,ycY_,ydj_,true_iff,ybs_,ydk_,reduceCtorEq];omega)) e_ zt
    refine Zz 15 ?_;exact fs_
   refine Zi 4 (λv=>?_) λv=>?_
   .refine Zi 5 (λu=>?_) λu=>?_
    .refine Zz 17 ?_
     exact fs_
    refine Zi 5 (λA=>?_) λA=>?_
    .refine Zz 7 ?_
     refine c_ (aD_ (aT_ rfl rfl rfl (bB_ zaa_ zaa_)) (show _=i4_ ((List.length x.roles:Int) - 1) from rfl)) rfl (as_ rfl rfl (A_ (al_ rfl rfl) rfl λK C=>Zz 9 ?_));have d:Ax.selfs x=m:=by rw[hm,yac_ zaa_];rfl
     exact W_ results305 () (n_ rfl (by rw[<-C];unfold Ax.exm;rw[h,d];rw[ybu_];simp only[yaJ_,ybj_,ybY_,yaY_,ybr_,yai_,ybZ_,k,ycY_,ydj_,true_iff,ybs_,ydk_,reduceCtorEq];omega)) e_ zt
    refine Zz 15 ?_;exact fs_
   refine Zz 19 ?_;exact fs_
  refine Zz 10 ?_;exact W_ results305 () (n_ rfl (by unfold Ax.exm;rw[h];simp[e])) e_ zt
 have o:j<x.roles.length:=by omega
 obtain⟨O,B⟩:∃ I,x.roles[j]? = some I:=⟨_,yaa_ o⟩;refine Zz 9 ?_;refine C_ 0 [0,1,2,3,4,5,6,7] zk zs (Zi 7 (λe=>?_) λe=>?_)
 .refine Zz 12 ?_
  exact w_ ⟨(j+1,m),o,zbh_⟩ zae_ zl f_ zh
 refine Zz 6 ?_;refine c_ (aD_ (aT_ rfl rfl rfl (bB_ zaE_ zaE_)) (show _=i4_ ((m+1:Nat):Int) from yag_ _ zaa_)) rfl ?_;refine Zz 9 ?_;exact w_ ⟨(j+1,(m+1)),o,zbh_⟩ zae_ zl f_ zh
def hf_ (e:RSt):List Value:=[str e.1,str e.2.1,.bool e.2.2]
theorem bZ_ (e:RSt):(hf_ e).length=3:=rfl
theorem to_ (e:RSt):(hf_ e).all Value.oneCell'=true:=rfl
theorem wT_:Elt prog 285 343 3 40:=gn_ underlying285 (z:=.agg #[str [],str [],.bool false]) zam_ rfl zaj_
theorem wa_:iJ_ prog 343 [(0,1),(1,1),(2,1)] [str [],str [],.bool false]:=⟨_,zeroValue343,bp_,λw=>by simp[bD_,B_]⟩
theorem jN_ (x:Ax):∀ j,(x.chs j).length<=j
  | 0=>by grind[Ax.chs]
  | j+1=>by
    have h:=jN_ x j
    grind[Ax.chs]
theorem BD_ {x:Ax} {j:Nat} (e:x.kind≠5) (h:x.kind=6\/j=0) (k:x.kind=6->x.roles.length=j):x.steps=x.chs j:=by
 by_cases d:x.kind=6
 .grind[Ax.steps_six]
 rw[Ax.steps_no e d,h.resolve_left d];rfl
theorem lq_ {G:Prop} (h:G:=by
 exact w_ ⟨(i+1,k,o),F,(by rw[dj_ J,Ax.steps_five H B C];exact e)⟩ zae_ zl zp zf):G:=h
theorem lr_ {G:Prop} (h:G:=by
 exact w_ ⟨(i+1,k,o),F,(by rw[dj_ J,BD_ W T zaa_];exact e)⟩ zae_ zl ah_ zf):G:=h
theorem ls_ {G:Prop} (h:G:=by
 exact w_ ⟨(i+1,k,o),F,(by rw[dj_ J,Ax.steps_same H B C,yas_];exact e)⟩ zae_ zl ah_ zf):G:=h
theorem xL_ (l:List Ax) (ad:Ao) (cap:Nat) (hok:∀ x∈l,x.ok) (hC:∀ x∈l,x.check=0) (hll:l.length<=100000):Tri prog 251 #[.slice ad l.length cap] [] [bA_ ad l] (λy:{y:Ao×Nat // (bM_ l).length<=y.2/\(y.1=none->y.2=0)}=>.slice y.1.1 (bM_ l).length y.1.2) (λ_=>[]) (λy=>[O_ y.1.1 ((bM_ l).flatMap hf_)]):=by
 refine l_ func251 rfl rfl ntmps251 rfl λv_1=>?_;refine Zz 17 ?_;refine Y_ (ι:={y:Nat×Value×Hp // y.1<=List.length l/\zR 343 3 hf_ y.2.1 (bM_ (l.take y.1)) y.2.2}) (λy=>[(0,.slice ad l.length cap),(2,.slice none 0 0),(3,y.1.2.1),(4,i4_ y.1.1)]) (λy=>(y.1.2.2)) (λy=>[bA_ ad l]) (λy=>l.length - y.1.1) ⟨((0:Nat),(.slice none 0 0),[]),by simp,(av_.nil _ _)⟩ zl e_ zh ?_;rintro ⟨⟨i,k,o⟩,hi_i,e⟩;dsimp only at hi_i e ⊢;refine Zi 6 (λhr_1=>?_) λhr_1=>?_
 .refine Zz 12 ?_
  have R:av_ 343 3 k (bM_ l).length (List.flatMap hf_ (bM_ l)) o:=by have q:=e;rw[yac_ zaa_]at q;exact q
  refine I_ R an_ λoad ocap hoad X hmoad Y=>?_;exact W_ results251 ⟨(oad,ocap),X,Y⟩ (cw_ rfl hoad) e_ zf
 obtain⟨F,d,J,A⟩:=zge (show i<l.length by omega);refine Zz 13 ?_;refine K_ aQ_ rfl λL=>o_ 0 D_ rfl rfl rfl rfl rfl rfl (Zz 5 ?_)
 refine C_ 8 [0,1,2,3] zk zs (Zi 2 (λH=>?_) λH=>?_)
 .refine Zz 2 ?_
  refine C_ 0 [4,5,6,7,8,9,10,11] zk zs (Zz 20 ?_);have W:Ax.kind d≠5:=by simpa using H
  have R:av_ 343 3 k ((bM_ (l.take i))++Ax.chs d 0).length (List.flatMap hf_ ((bM_ (l.take i))++Ax.chs d 0)) o:=by have q:=e;rw[Ax.chs,yas_];exact q
  let Pu:Nat×Obj:=(L,.cells (Ax.cells d).toArray 30 (0,0));refine Y_ (ι:={y:Nat×Value×Hp // y.1<=List.length d.roles/\(Ax.kind d=6\/y.1=0)/\zR 343 3 hf_ y.2.1 ((bM_ (l.take i))++Ax.chs d y.1) y.2.2}) (λy=>[(0,.slice ad l.length cap),(2,.slice none 0 0),(3,y.1.2.1),(4,i4_ i),(5,zp_ L 0),(6,i4_ y.1.1)]) (λy=>(Pu::y.1.2.2)) (λy=>[bA_ ad l,Ax.memF d]) (λy=>d.roles.length - y.1.1) ⟨((0:Nat),k,o),by simp,(.inr rfl),R⟩ zl zp (λv _ h=>by exact⟨h.1,(h.1.2 d A),trivial⟩) ?_;rintro ⟨⟨j,k,o⟩,M,T,e⟩;dsimp only at M T e ⊢;refine Zi 7 (λC=>?_) λC=>?_
  .refine Zz 16 ?_
   exact lr_
  have E:j<d.roles.length:=by omega
  obtain⟨K,B⟩:∃ O,d.roles[j]? = some O:=⟨_,yaa_ E⟩;refine Zi 6 (λG=>?_) λG=>?_
  .refine Zz 12 ?_
   exact lr_
  have hch:=(Ax.good_of (hC d A)).chain (by simpa using G);refine Zz 12 ?_;refine U_ (rExm_c d j (hok d A) E) rfl e_ zf rfl λr_1 I=>c_ (aI_ rfl) rfl (Zz 2 ?_)
  cases r_1
  .refine bT_ rfl ?_
   refine aW_ (Pu::[]) zk ?_;refine C_ 3 [0,1,2,3,4,5,6,7,8] zk zs (Zz 8 ?_);refine G_ rfl (x_ wa_ rfl rfl) rfl (bd_ (j_ 9 rfl zk (p_ bi_ ci_ zeroValue343 rfl rfl rfl rfl rfl rfl λb_2=>Zz 2 ?_)));refine y_ zs (j_ 10 rfl zk (am_ (news:=List.flatMap hf_ [(Prod.mk K (Prod.mk d.role true))]) wT_ e rfl rfl (g_ ah_) rfl (aO_ 0 rfl) (λu hu=>aF_ to_ hu) (by simp only[maxLen];((try simp only[yae_,yap_,yaw_]);have K:=fg_ (l.take i) (λx hx=>hC x (yaS_ hx));have U:=ybi_ i l;first|omega|(have Z:=jN_ d j;omega))) (by ((try simp only[yae_,yap_,yaw_]);have K:=fg_ (l.take i) (λx hx=>hC x (yaS_ hx));have U:=ybi_ i l;first|omega|(have Z:=jN_ d j;omega))) rfl λS V C=>?_));refine s_ yah_ ?_;have Q:=zsa C;refine Zz 2 ?_;refine y_ (λ_ a b=>⟨Vw.sat.sub (a.perm (g_ f_)),b⟩) (C_ 0 [11] zk (λ_ a b=>⟨Vw.sat.sub (a.perm (g_ f_)),b⟩) (Zz 10 ?_));exact w_ ⟨(j+1,S,V),E,(.inl (by simpa using G)),(by rw[Ax.chs_no B I,<-yak_];exact Q)⟩ zae_ zl (E_ (g_ f_) ah_) zh
  refine Zz 9 ?_;exact w_ ⟨(j+1,k,o),E,(.inl (by simpa using G)),(by rw[Ax.chs_yes B I];exact e)⟩ zae_ zl zp zh
 have hone:=(Ax.good_of (hC d A)).one zce_;have E:0<d.roles.length:=by omega
 obtain⟨K,B⟩:∃ O,d.roles[0]? = some O:=⟨_,yaa_ E⟩;refine Zz 2 ?_;refine C_ 0 [4,5,6,7,8,9,10,11] zk zs (Zz 2 ?_);refine bL_ rfl rfl rfl (J_ m_ B_ rfl rfl (λv _ h=>az_ (n:=1) au_ zaj_ (by exact (h.1.2 d A).2.2) B) zaa_ zah_) rfl ?_;refine bL_ rfl rfl rfl (aS_ (ad:=d.ad) aJ_ rfl (λv _ h=>by exact (h.1.2 d A).2.2) (t_ au_ B 0 _ rfl)) rfl (Zi 2 (λC=>?_) λC=>?_)
 .refine Zz 13 ?_
  refine Y_ (ι:={y:Nat×Value×Hp // y.1<=List.length d.roles/\zR 343 3 hf_ y.2.1 (bM_ (l.take i)) y.2.2}) (λy=>[(0,.slice ad l.length cap),(2,.slice none 0 0),(3,y.1.2.1),(4,i4_ i),(5,zp_ L 0),(6,i4_ y.1.1)]) (λy=>((L,.cells (Ax.cells d).toArray 30 (0,0))::y.1.2.2)) (λy=>[bA_ ad l,Ax.memF d]) (λy=>d.roles.length - y.1.1) ⟨((0:Nat),k,o),by simp,e⟩ zl zp (λv _ h=>by exact⟨h.1,(h.1.2 d A),trivial⟩) ?_;rintro ⟨⟨j,k,o⟩,M,e⟩;dsimp only at M e ⊢;refine Zi 7 (λG=>?_) λG=>?_
  .refine Zz 16 ?_
   exact ls_
  have P:j<d.roles.length:=by omega
  obtain⟨U,Q⟩:∃ O,d.roles[j]? = some O:=⟨_,yaa_ P⟩;refine Zi 6 (λI=>?_) λI=>?_
  .refine Zz 12 ?_
   exact ls_
  exfalso;omega
 refine Zz 5 ?_;refine aW_ ((L,.cells (Ax.cells d).toArray 30 (0,0))::[]) zk ?_;refine C_ 3 [0,1,2,3,4,5,6,7] zk zs (Zz 3 ?_);refine G_ rfl (J_ m_ B_ rfl rfl (λv _ h=>az_ (n:=1) au_ zaj_ (by exact (h.1.2 d A).2.2) B) zaa_ zah_) rfl ?_;refine G_ rfl (aS_ (ad:=d.ad) aJ_ rfl (λv _ h=>by exact (h.1.2 d A).2.2) (t_ au_ B 0 _ rfl)) rfl (Zz 2 ?_);refine G_ rfl (x_ wa_ rfl rfl) rfl (bd_ (j_ 8 rfl zk (p_ bi_ ci_ zeroValue343 rfl rfl rfl rfl rfl rfl λb_2=>Zz 2 ?_)));refine y_ zs (j_ 9 rfl zk (am_ (news:=List.flatMap hf_ [(Prod.mk K (Prod.mk d.role false))]) wT_ e rfl rfl (g_ ah_) rfl (aO_ 0 rfl) (λu hu=>aF_ to_ hu) (by simp only[maxLen];((try simp only[yae_,yap_,yaw_]);have U:=fg_ (l.take i) (λx hx=>hC x (yaS_ hx));have Z:=ybi_ i l;first|omega|(have q_4:=jN_ d j;omega))) (by ((try simp only[yae_,yap_,yaw_]);have U:=fg_ (l.take i) (λx hx=>hC x (yaS_ hx));have Z:=ybi_ i l;first|omega|(have q_4:=jN_ d j;omega))) rfl λS V G=>?_));refine s_ yah_ ?_;have Q:=zsa G;refine Zz 2 ?_;refine y_ (λ_ a b=>⟨Vw.sat.sub (a.perm (g_ f_)),b⟩) (C_ 0 [10] zk (λ_ a b=>⟨Vw.sat.sub (a.perm (g_ f_)),b⟩) (Zz 10 ?_));refine Y_ (ι:={y:Nat×Value×Hp // y.1<=List.length d.roles/\zR 343 3 hf_ y.2.1 ((bM_ (l.take i))++[(Prod.mk K (Prod.mk d.role false))]) y.2.2}) (λy=>[(0,.slice ad l.length cap),(2,.slice none 0 0),(3,y.1.2.1),(4,i4_ i),(5,zp_ L 0),(6,i4_ y.1.1)]) (λy=>((b_2,.cells #[str (Prod.fst (Prod.mk K (Prod.mk d.role false))),str (Prod.fst (Prod.snd (Prod.mk K (Prod.mk d.role false)))),.bool (Prod.snd (Prod.snd (Prod.mk K (Prod.mk d.role false))))] 343 (0,0))::((L,.cells (Ax.cells d).toArray 30 (0,0))::y.1.2.2))) (λy=>[bA_ ad l,Ax.memF d]) (λy=>d.roles.length - y.1.1) ⟨((0:Nat),S,V),by simp,Q⟩ zl zp (λv _ h=>by exact⟨h.1,(h.1.2 d A),trivial⟩) ?_;rintro ⟨⟨j,k,o⟩,M,e⟩;dsimp only at M e ⊢;refine Zi 7 (λI=>?_) λI=>?_
 .refine Zz 16 ?_
  exact lq_
 have P:j<d.roles.length:=by omega
 obtain⟨U,hq_3⟩:∃ O,d.roles[j]? = some O:=⟨_,yaa_ P⟩;refine Zi 6 (λhr_6=>?_) λhr_6=>?_
 .refine Zz 12 ?_
  exact lq_
 exfalso;omega
theorem pw_lt {L:List Int} {i j:Nat} {x z:Int} (h:L.Pairwise (·<·)) (o:L[i]? = some x) (u:L[j]? = some z) (d:i<j):x<z:=by
  obtain⟨k,rfl⟩:=yaf_.1 o;obtain⟨e,rfl⟩:=yaf_.1 u;exact yaK_.1 h i j k e d
theorem BS_ (L:List Int) (ad:Ao) (cap m:Nat) (O:∀ x∈L,0<=x/\x<(m:Int)) (M:L.Pairwise (·<·)) (hl:L.length<=1000000):Tri prog 82 #[.slice ad L.length cap,i4_ m] [] [O_ ad (L.flatMap cS_)] (λ_:Unit=>.bool true) (λ_=>[]) (λ_=>[]):=by
 refine l_ func82 rfl rfl ntmps82 rfl λJ=>?_;refine Zz 12 ?_;refine Y_ (ι:={y:Nat // y<=List.length L}) (λy=>[(0,.slice ad L.length cap),(1,i4_ m),(4,.bool false),(5,i4_ y.1)]) (λy=>([])) (λy=>[O_ ad (L.flatMap cS_)]) (λy=>L.length - y.1) ⟨(0:Nat),by simp⟩ zl e_ zh ?_;rintro ⟨i,F⟩;dsimp only at F ⊢;refine Zi 6 (λv=>?_) λv=>?_
 .refine Zz 11 ?_
  exact W_ results82 () rfl e_ zt
 obtain⟨d,A,k,h⟩:=zge (show i<L.length by omega);have I:=O A h;refine Zz 9 ?_;refine C_ 23 [0,1,2,3,4,5] zk zs (Zi 4 (λE=>?_) λE=>?_)
 .refine Zz 2 ?_
  refine C_ 15 [6,7,8,9,10,11,12,13] zk zs (Zi 5 (λC=>?_) λC=>?_)
  .refine Zz 3 ?_
   refine C_ 12 [14,15,16] zk zs (Zi 1 (λB=>?_) λB=>?_)
   .refine Zz 2 ?_
    refine C_ 0 [17,18,19,20,21,22,23,24,25,26,27,28] zk zs (Zz 24 ?_);exact w_ ⟨i+1,d⟩ zae_ zl e_ zh
   have e:(Int.toNat ((i:Int) - 1))<L.length:=by omega
   obtain⟨H,o⟩:∃ G,L[(Int.toNat ((i:Int) - 1))]? = some G:=⟨_,yaa_ e⟩;have K:H<A:=pw_lt M o k zaa_;refine Zz 2 ?_;refine C_ 0 [17,18,19,20,21,22,23,24,25,26,27,28] zk zs (Zi 9 (λu=>?_) λu=>?_)
   .refine Zz 14 ?_
    exact w_ ⟨i+1,d⟩ zae_ zl e_ zh
   exfalso;omega
  exfalso;omega
 exfalso;omega
theorem iU_ {G:Prop} (h:G:=by
 exact W_ results169 () (n_ rfl (by unfold qK_;simp_all)) e_ zt):G:=h
theorem BH_ (x:Ax):Fn0 prog 169 #[Ax.val x] (.bool (qK_ x)):=by
 refine l_ func169 rfl rfl ntmps169 rfl λk=>?_;refine Zz 2 ?_;refine Q_ rfl rfl λo=>Zi 7 (λd=>?_) λd=>?_
 .refine Zi 6 (λe=>?_) λe=>?_
  .refine Zz 7 ?_
   refine A_ (al_ rfl rfl) rfl λu h=>Zz 5 ?_
   exact iU_
  refine Zz 10 ?_;exact iU_
 refine Zz 14 ?_;exact iU_
theorem tv_ (p:List Str) (h:Ao) (k:Nat) (q:List Str) (e:Ao) (o:Nat) (K:p.length<=q.length) (hl:p.length<=1000000):Tri prog 254 #[.slice h p.length k,.slice e q.length o] [] [O_ h (p.flatMap V_),O_ e (q.flatMap V_)] (λb:Bool=>.bool b) (λ_=>[]) (λ_=>[]):=by
 refine l_ func254 rfl rfl ntmps254 rfl λH=>?_;refine Zz 12 ?_;refine Y_ (ι:={y:Nat // y<=List.length p}) (λy=>[(0,.slice h p.length k),(1,.slice e q.length o),(4,.bool false),(5,i4_ y.1)]) (λy=>([])) (λy=>[O_ h (p.flatMap V_),O_ e (q.flatMap V_)]) (λy=>p.length - y.1) ⟨(0:Nat),by simp⟩ zl e_ zh ?_;rintro ⟨i,B⟩;dsimp only at B ⊢;refine Zi 6 (λA=>?_) λA=>?_
 .refine Zz 11 ?_
  exact W_ results254 false rfl e_ zt
 have d:i<p.length:=by omega
 obtain⟨I,G⟩:∃ u,p[i]? = some u:=⟨_,yaa_ d⟩;have v:i<q.length:=by omega
 obtain⟨J,E⟩:∃ u,q[i]? = some u:=⟨_,yaa_ v⟩;refine Zz 9 ?_;refine C_ 0 [0,1,2,3,4,5,6,7,8] zk zs (Zi 8 (λx=>?_) λx=>?_)
 .refine Zz 12 ?_
  exact w_ ⟨i+1,d⟩ zae_ zl e_ zh
 refine Zz 6 ?_;refine C_ 0 [0,1,2,3,4,5,6,7,8,9] zk zs (Zz 8 ?_);refine kd_ rfl (gd_ rfl rfl) rfl λC F=>Zz 5 ?_
 exact W_ results254 C rfl e_ zt
def OfR (l:List Ax) (q:List Pc) (ger:Int) (X:List Ax) (e:Int):Prop:=∃ P e1,MpR l P e1/\((e1≠0/\e=e1/\X=[])\/(e1=0/\ger≠0/\e=ger/\X=[])\/(e1=0/\ger=0/\16384<P.length+q.length/\e=2/\X=[])\/
    (e1=0/\ger=0/\P.length+q.length<=16384/\e=0/\X=dB_ l (dE_ l (P++q) (dJ_ q) l.length)))
theorem mb_ (l:List Ax) (ad:Ao) (cap:Nat) (C:∀ x∈l,x.ok) (E:l.length<=12):Tri prog 37 #[.agg #[.slice ad l.length cap]] [] [bA_ ad l,cy_] (λy:{y:Ao×Nat×List Pc×Int // MpR l y.2.2.1 y.2.2.2/\y.2.2.1.length<=16384/\y.2.2.1.length<=y.2.1/\(y.1=none->y.2.1=0)}=>.tuple #[.slice y.1.1 y.1.2.2.1.length y.1.2.1,i4_ y.1.2.2.2]) (λ_=>[]) (λy=>[O_ y.1.1 (y.1.2.2.1.flatMap Pc.cells)]):=by
 refine l_ func37 rfl rfl ntmps37 rfl λH=>?_;obtain⟨⟨p,er⟩,e⟩:∃ q,aX_ l=q:=⟨_,rfl⟩;refine Zz 2 ?_;refine Q_ rfl rfl λI=>Zz 8 ?_
 refine d_ (or_ l ad cap C zaa_) rfl e_ zf rfl λ⟨o,k⟩=>?_;dsimp only;refine Zi 6 (λd=>?_) λd=>?_
 .refine Zz 9 ?_
  refine d_ (qQ_ l ad cap zaa_ C e) rfl e_ zf rfl λ⟨⟨G,B⟩,A,F,u⟩=>?_;dsimp only;refine Zz 7 ?_;exact gN_ results37 ⟨(G,B,p,er),⟨o,k,.inr ⟨by simpa using d,by rw[e],by rw[e]⟩⟩,jD_ E e,A,u⟩ rfl rfl rfl e_ zf
 refine Zz 11 ?_;exact gN_ results37 ⟨(none,0,[],o),⟨o,k,.inl ⟨by simpa using d,rfl,rfl⟩⟩,by simp,by simp,λ_=>rfl⟩ rfl rfl rfl e_ (λv _ h=>by exact⟨.inl rfl,trivial⟩)
theorem wB_ (l:List Ax) (ad:Ao) (cap:Nat) (a4:∀ x∈l,x.ok) (a7:l.length<=12) (x:Ax) (hox:x.ok) (q:List Pc) (F:List Fc) (M:Int) (Y:GlT x q F M) (hql:q.length<=100000):Tri prog 13 #[.agg #[.slice ad l.length cap],Ax.val x] [] [bA_ ad l,cy_,Ax.memF x] (λy:{y:Value×Hp×List Ax×Int // av_ 30 16 y.1 y.2.2.1.length (y.2.2.1.flatMap Ax.cells) y.2.1/\OfR l q M y.2.2.1 y.2.2.2}=>.tuple #[.agg #[y.1.1],i4_ y.1.2.2.2]) (λy=>y.1.2.1) (λ_=>[]):=by
 refine l_ func13 rfl rfl ntmps13 rfl λv_1=>?_;refine aq_ ?_;refine S_ ?_;refine Q_ rfl rfl λa5=>?_;refine Q_ rfl rfl λZ=>?_;refine K_ cE_ rfl λb_3=>?_;refine c_ (X_ rfl) rfl ?_;refine ai_ ?_;refine ac_ rfl ?_;refine aq_ ?_;refine S_ ?_;refine c_ (cx_ 2 ca_ ap_ rfl rfl rfl) rfl ?_;refine d_ (mb_ l ad cap a4 a7) rfl e_ zf rfl λ⟨⟨P,E,p,B⟩,J,a3,I,H⟩=>?_;dsimp only;try dsimp only at J a3 I H
 refine c_ (P_ rfl) rfl ?_;refine c_ (cf_ rfl rfl) rfl ?_;refine c_ (cf_ rfl rfl) rfl ?_;refine c_ (X_ rfl) rfl ?_;refine c_ (X_ rfl) rfl ?_;refine ai_ ?_;refine ac_ rfl ?_;refine aq_ ?_;refine aq_ ?_;refine S_ ?_;refine c_ (P_ rfl) rfl ?_;refine A_ (cP_ rfl rfl) rfl λb0 d=>?_;refine ai_ ?_;refine ac_ rfl ?_;cases b0
 .replace d:=de_ d
  refine bU_ rfl ?_;refine cQ_ ?_;refine ac_ rfl ?_;refine aq_ ?_;refine S_ ?_;refine c_ (cx_ 1 bg_ D_ rfl rfl rfl) rfl ?_;refine d_ (Y) rfl e_ zf rfl λ⟨⟨K,A,fad,fcap⟩,G,R,T,O,C⟩=>?_;dsimp only;try dsimp only at G R T O C
  refine c_ (P_ rfl) rfl ?_;refine c_ (cf_ rfl rfl) rfl ?_;refine c_ (cf_ rfl rfl) rfl ?_;refine c_ (cf_ rfl rfl) rfl ?_;refine c_ (X_ rfl) rfl ?_;refine c_ (X_ rfl) rfl ?_;refine c_ (X_ rfl) rfl ?_;refine ai_ ?_;refine ac_ rfl ?_;refine aq_ ?_;refine aq_ ?_;refine S_ ?_;refine c_ (P_ rfl) rfl ?_;refine A_ (cP_ rfl rfl) rfl λa8 e=>?_;refine ai_ ?_;refine ac_ rfl ?_;cases a8
  .replace e:=de_ e
   refine bU_ rfl ?_;refine cQ_ ?_;refine ac_ rfl ?_;refine aq_ ?_;refine aq_ ?_;refine S_ ?_;refine c_ (P_ rfl) rfl ?_;refine c_ (dS_ u_ rfl) rfl ?_;refine c_ (P_ rfl) rfl ?_;refine c_ (dS_ u_ rfl) rfl ?_;refine c_ (aT_ rfl rfl rfl (bB_ zaa_ zaa_)) rfl ?_;refine A_ (ec_ rfl rfl) rfl λa9 u=>?_;refine ai_ ?_;refine ac_ rfl ?_;cases a9
   .replace u:=zdf u
    refine bU_ rfl ?_;refine cQ_ ?_;refine ac_ rfl ?_;refine aq_ ?_;refine aW_ ((Z,.cells (Ax.cells x).toArray 30 (0,0))::((a5,.cells #[.slice ad l.length cap] 24 (0,0))::[])) zk ?_;refine C_ 6 [0,1,2,3,6] zk zs ?_;refine G_ rfl (bl_ lV_ rfl rfl rfl lo_) rfl ?_;refine G_ rfl (aK_ 1 ox_ rfl rfl rfl) rfl ?_;refine G_ rfl (P_ rfl) rfl ?_;refine G_ rfl (P_ rfl) rfl ?_;refine G_ rfl (P_ rfl) rfl ?_;refine bd_ ?_;refine j_ 4 rfl zk ?_;refine p_ aj_ aN_ aG_ rfl rfl rfl rfl rfl rfl λa1=>?_;refine R_ (List.flatMap PL.cells [(PL.mk p P E),(PL.mk q K A)]) f_ rfl ?_;refine ai_ ?_;refine bE_ rfl ?_;refine y_ zs ?_;refine j_ 5 rfl zk ?_;refine d_ ((show Tri prog 46 _ [] _ (λy:{y:Ao×Nat // (p++q).length<=y.2/\y.2<=maxLen/\(y.1=none->y.2=0)}=>.slice y.1.1 (p++q).length y.1.2) (λ_=>[]) (λy=>[O_ y.1.1 ((p++q).flatMap Pc.cells)]) from by have h:=AO_ [(PL.mk p P E),(PL.mk q K A)] (some ⟨a1,0,none⟩) 2 (λy W=>by simp only[yar_,yav_,ybg_]at W;rcases W with rfl|rfl;exact⟨I,H,by dsimp only;omega⟩;exact⟨G,C,by dsimp only;omega⟩) zak_;have eC:(iC_ [(PL.mk p P E),(PL.mk q K A)])=p++q:=(by simp[iC_]);rw[eC]at h;exact h)) rfl e_ (λv _ h=>by refine⟨h.1,λy W=>?_,trivial⟩;simp only[yar_,yav_,ybg_]at W;rcases W with rfl|rfl;exact h.2.2.2.1;exact h.2.1) rfl λ⟨⟨V,Q⟩,a2,b1,a0⟩=>?_;dsimp only;refine ai_ ?_;refine bE_ rfl ?_;refine y_ zs ?_;refine j_ 7 rfl zk ?_;refine d_ (CR_ q K A zaa_) rfl e_ zf rfl λ⟨⟨aad,acap⟩,hac,ham⟩=>?_;dsimp only;refine ai_ ?_;refine bE_ rfl ?_;refine y_ zs ?_;refine j_ 8 rfl zk ?_;refine d_ (vl_ l ad cap (p++q) V Q (dJ_ q) aad acap (by rw[yae_];omega) (by have:=vO_ q;omega) zaa_) rfl e_ zf rfl λ⟨⟨U,a6,Lq⟩,L,X⟩=>?_;dsimp only;dsimp only at L X ⊢;subst X;refine ai_ ?_;refine bE_ rfl ?_;refine y_ zs ?_;refine j_ 9 rfl zk ?_;refine s_ (aL_ (ae_ f_) (aL_ (ae_ f_) (cg_ bS_))) ?_;refine o_ 0 ap_ rfl rfl rfl rfl rfl (by have q:=(en_ L).2;simp only[Value.cells,ycj_,ycH_,q,ych_]) ?_;refine ai_ ?_;refine bE_ rfl ?_;refine y_ (λ_ a b=>⟨Vw.sat.sub (a.perm (E_ (g_ f_) (g_ f_))),b.2.2.2⟩) ?_;refine C_ 0 [10] zk (λ_ a b=>⟨Vw.sat.sub (a.perm (E_ (g_ f_) (g_ f_))),b.2.2.2⟩) ?_;refine G_ rfl (X_ rfl) rfl ?_;refine bd_ ?_;refine fG_ zk ?_;refine ac_ rfl ?_;refine dU_ ?_;exact cs_ ⟨(U,a6,(dB_ l (dE_ l (p++q) (dJ_ q) l.length)),0),L,⟨p,B,J,.inr (.inr (.inr ⟨by simpa using d,by simpa using e,by omega,rfl,rfl⟩))⟩⟩ (λS v o k=>br_ (us:=[U]) 0 results13 ca_ ap_ rfl rfl rfl rfl S v o k) (g_ (g_ ah_)) zt
   replace u:=zdt u;refine bT_ rfl ?_;refine aq_ ?_;refine S_ ?_;refine c_ (x_ fv_ rfl rfl) rfl ?_;refine o_ 0 ap_ rfl rfl rfl rfl rfl rfl ?_;refine c_ (X_ rfl) rfl ?_;refine ai_ ?_;refine ac_ rfl ?_;refine dU_ ?_;exact cs_ ⟨(.slice none 0 0,[],[],2),av_.nil _ _,⟨p,B,J,.inr (.inr (.inl ⟨by simpa using d,by simpa using e,by omega,rfl,rfl⟩))⟩⟩ (λS v o k=>br_ (us:=[.slice none 0 0]) 0 results13 ca_ ap_ rfl rfl rfl rfl S v o k) e_ zt
  replace e:=dd_ e;refine bT_ rfl ?_;refine aq_ ?_;refine S_ ?_;refine c_ (x_ fv_ rfl rfl) rfl ?_;refine c_ (P_ rfl) rfl ?_;refine o_ 0 ap_ rfl rfl rfl rfl rfl rfl ?_;refine c_ (X_ rfl) rfl ?_;refine ai_ ?_;refine ac_ rfl ?_;refine dU_ ?_;exact cs_ ⟨(.slice none 0 0,[],[],M),av_.nil _ _,⟨p,B,J,.inr (.inl ⟨by simpa using d,by simpa using e,rfl,rfl⟩)⟩⟩ (λS v o k=>br_ (us:=[.slice none 0 0]) 0 results13 ca_ ap_ rfl rfl rfl rfl S v o k) e_ zt
 replace d:=dd_ d;refine bT_ rfl ?_;refine aq_ ?_;refine S_ ?_;refine c_ (x_ fv_ rfl rfl) rfl ?_;refine c_ (P_ rfl) rfl ?_;refine o_ 0 ap_ rfl rfl rfl rfl rfl rfl ?_;refine c_ (X_ rfl) rfl ?_;refine ai_ ?_;refine ac_ rfl ?_;refine dU_ ?_;exact cs_ ⟨(.slice none 0 0,[],[],B),av_.nil _ _,⟨p,B,J,.inl ⟨by simpa using d,rfl,rfl⟩⟩⟩ (λS v o k=>br_ (us:=[.slice none 0 0]) 0 results13 ca_ ap_ rfl rfl rfl rfl S v o k) e_ zt
theorem MpR.uniq {l:List Ax} {P Q:List Pc} {e f:Int} (h:MpR l P e) (g:MpR l Q f):P=Q/\e=f:=by
  obtain⟨a,d,h⟩:=h;obtain⟨b,k,g⟩:=g;have q:=d.uniq k
  grind
theorem OfR.uniq {l X Y:List Ax} {q:List Pc} {d e f:Int} (h:OfR l q d X e) (g:OfR l q d Y f):X=Y/\e=f:=by
  obtain⟨P,a,o,h⟩:=h;obtain⟨Q,b,k,g⟩:=g;obtain⟨u,v⟩:=o.uniq k
  grind
theorem Bt_ {x:Ax} (k:x.check=0) (d:pln x):hD_ x=0:=by
  obtain⟨e,o,h⟩:=d;have l:=Con.tdy_self (c:=x.left) zaa_ zaa_
  grind[Con.tdy_self,Ax.swp,mw_,Ax.tdyE,rJ_,Ax.tdyL,Ax.tdyR]
theorem CP_ {l:List Ax} (y:∀ x∈l,x.check=0) (k:∀ x∈l,pln x) (hl:l.length<=1000) (B:hW_ l):BCk l 0:=by
 refine .inr (.inr (.inr (.inr ⟨jU_.2 λz d=>Bt_ (y z d) (k z d),B,by omega,λx e q=>?_,.inl ⟨rfl,?_⟩⟩)))
 .have h:=q.1
  unfold qK_ at h;rw[(k x e).1]at h;cases h
 rintro ⟨n,f,c,u,v,o,A⟩;have h:=o 0 u;unfold sE bM_ at h;obtain⟨x,e,d⟩:=ybe_.1 h;rw[Ax.steps_no (by rw[(k x e).1];decide) (by rw[(k x e).1];decide)]at d;cases d
theorem of_pln {l X Y:List Ax} {q:List Pc} {d e:Int} (o:∀ x∈l,x.check=0) (u:∀ x∈l,pln x) (hl:l.length<=1000) (v:hW_ l) (h:OfR l q d Y e) (y:d=0) (k:(aX_ l).2=0)
    (A:Nat.ble ((aX_ l).1.length+q.length) 16384=true) (B:dB_ l (dE_ l ((aX_ l).1++q) (dN_ q) l.length)=X):Y=X/\e=0 :=
  h.uniq ⟨_,0,⟨0,CP_ o u hl v,.inr ⟨rfl,k.symm,rfl⟩⟩,.inr (.inr (.inr ⟨rfl,y,yaF_ A,rfl,by grind[qh_]⟩))⟩
abbrev sB (a b:Str):Ax:=(Ax.mk 1 false (Con.mk 3 a 0 0 none 0 []) (Con.mk 3 b 0 0 none 0 []) none 0 [] [] [] [])
theorem zO_ {a b:Ax} (h:Ax.cmp a b=-1):∀ (i:Nat) x y,[a,b][i]? = some x->[a,b][i+1]? = some y->Ax.cmp x y=-1:=by
  grind
theorem jX_ {S:List Str} (h:(S.all λs=>Nat.ble s.length 100000)=true):∀ s∈S,s.length<=100000:=λs d=>yaF_ (ybn_.1 h s d)
theorem xv_:Tri prog 6 #[] [] [cy_] (λ_:Unit=>.bool true) (λ_=>[]) (λ_=>[]):=by
  refine l_ func6 rfl rfl ntmps6 rfl λa5=>?_;refine Zz 7 ?_;refine d_ (fp_ [66]) rfl e_ zt rfl λ_=>p_ z_ i_ ay_ rfl rfl rfl rfl rfl rfl λo=>?_;refine R_ (List.flatMap Con.cells [(Con.mk 3 [66] 0 0 none 0 [])]) f_ rfl ?_;refine c_ (x_ ff_ rfl rfl) rfl (K_ ay_ rfl λa2=>o_ 0 i_ rfl rfl rfl rfl rfl rfl (Zz 4 ?_));refine C_ 6 [1] zk zs (Zz 2 ?_);refine j_ 0 rfl zk (d_ (fp_ [65]) rfl e_ zt rfl λ_=>Zz 3 ?_);refine C_ 4 [2] zk zs (G_ rfl (x_ strt30 rfl rfl) rfl (bd_ (j_ 3 rfl zk (d_ (ii_ [66] [67]) rfl e_ zt rfl λ_=>Zz 3 ?_))));refine j_ 4 rfl zk (d_ (ii_ [68] [65]) rfl e_ zt rfl λ_=>Zz 3 ?_);refine j_ 5 rfl zk (p_ aw_ D_ aQ_ rfl rfl rfl rfl rfl rfl λx=>?_);refine R_ (List.flatMap Ax.cells [(Ax.mk 1 false (Con.mk 3 [65] 0 0 none 0 []) (Con.mk 6 [114] 0 0 (some ⟨o,0,none⟩) 1 [(Con.mk 3 [66] 0 0 none 0 [])]) none 0 [] [] [] []),(sB [66] [67]),(sB [68] [65])]) f_ rfl ?_;refine Zz 3 ?_;refine C_ 0 [6] zk zs (Zz 8 ?_);refine p_ m_ B_ ak_ rfl rfl rfl rfl rfl rfl λS=>?_;refine R_ (List.flatMap V_ [[65]]) f_ rfl ?_;refine p_ aE_ af_ bQ_ rfl rfl rfl rfl rfl rfl λV=>?_;refine R_ (List.flatMap cS_ [0,1]) f_ rfl ?_;refine d_ (eF_ [(Ax.mk 1 false (Con.mk 3 [65] 0 0 none 0 []) (Con.mk 6 [114] 0 0 (some ⟨o,0,none⟩) 1 [(Con.mk 3 [66] 0 0 none 0 [])]) none 0 [] [] [] []),(sB [66] [67]),(sB [68] [65])] (some ⟨x,0,none⟩) 3 ⟨by simp,by decide⟩ (λk d=>by simp only[yar_,yav_,ybg_]at d;rcases d with rfl|rfl|rfl<;>(constructor<;>simp[Con.ok,Con.ok.oks,sB])) zak_ [[65]] (some ⟨S,0,none⟩) 1 zak_ (jX_ zk) _ _ (ydl_ _).symm (yaF_ zk) [0,1] (some ⟨V,0,none⟩) 2 zak_ zk) rfl e_ (λv _ h=>by exact⟨⟨h.2.2.1,λy e=>by simp only[yar_,yav_,ybg_]at e;rcases e with rfl|rfl|rfl;exact⟨⟨.inl rfl,trivial⟩,⟨h.2.2.2.1,⟨⟨.inl rfl,trivial⟩,trivial⟩⟩,(.inl rfl)⟩;exact⟨⟨.inl rfl,trivial⟩,⟨.inl rfl,trivial⟩,(.inl rfl)⟩;exact⟨⟨.inl rfl,trivial⟩,⟨.inl rfl,trivial⟩,(.inl rfl)⟩⟩,h.2.2.2.2.1,h.2.1,h.1,trivial⟩) rfl λ_=>?_;refine c_ (aI_ rfl) rfl (Zz 4 ?_);refine p_ m_ B_ ak_ rfl rfl rfl rfl rfl rfl λU=>?_;refine R_ (List.flatMap V_ [[66]]) f_ rfl ?_;refine as_ rfl rfl (p_ aE_ af_ bQ_ rfl rfl rfl rfl rfl rfl λZ=>?_);refine R_ (List.flatMap cS_ [1]) f_ rfl ?_;refine as_ rfl rfl (d_ (eF_ [(Ax.mk 1 false (Con.mk 3 [65] 0 0 none 0 []) (Con.mk 6 [114] 0 0 (some ⟨o,0,none⟩) 1 [(Con.mk 3 [66] 0 0 none 0 [])]) none 0 [] [] [] []),(sB [66] [67]),(sB [68] [65])] (some ⟨x,0,none⟩) 3 ⟨by simp,by decide⟩ (λk d=>by simp only[yar_,yav_,ybg_]at d;rcases d with rfl|rfl|rfl<;>(constructor<;>simp[Con.ok,Con.ok.oks,sB])) zak_ [[66]] (some ⟨U,0,none⟩) 1 zak_ (jX_ zk) _ _ (ydl_ _).symm (yaF_ zk) [1] (some ⟨Z,0,none⟩) 1 zak_ zk) rfl e_ (λv _ h=>by exact⟨⟨h.2.2.2.2.1,λy e=>by simp only[yar_,yav_,ybg_]at e;rcases e with rfl|rfl|rfl;exact⟨⟨.inl rfl,trivial⟩,⟨h.2.2.2.2.2.1,⟨⟨.inl rfl,trivial⟩,trivial⟩⟩,(.inl rfl)⟩;exact⟨⟨.inl rfl,trivial⟩,⟨.inl rfl,trivial⟩,(.inl rfl)⟩;exact⟨⟨.inl rfl,trivial⟩,⟨.inl rfl,trivial⟩,(.inl rfl)⟩⟩,h.2.2.2.2.2.2.1,h.2.1,h.1,trivial⟩) rfl λ_=>?_);refine as_ rfl rfl (c_ (aI_ rfl) rfl (Zz 5 ?_));refine p_ m_ B_ ak_ rfl rfl rfl rfl rfl rfl λW=>?_;refine R_ (List.flatMap V_ [[60,115,111,109,101,32,114,32,66,62]]) f_ rfl ?_;refine as_ rfl rfl (p_ aE_ af_ bQ_ rfl rfl rfl rfl rfl rfl λR=>?_);refine R_ (List.flatMap cS_ [0,1]) f_ rfl ?_;refine as_ rfl rfl (d_ (eF_ [(Ax.mk 1 false (Con.mk 3 [65] 0 0 none 0 []) (Con.mk 6 [114] 0 0 (some ⟨o,0,none⟩) 1 [(Con.mk 3 [66] 0 0 none 0 [])]) none 0 [] [] [] []),(sB [66] [67]),(sB [68] [65])] (some ⟨x,0,none⟩) 3 ⟨by simp,by decide⟩ (λk d=>by simp only[yar_,yav_,ybg_]at d;rcases d with rfl|rfl|rfl<;>(constructor<;>simp[Con.ok,Con.ok.oks,sB])) zak_ [[60,115,111,109,101,32,114,32,66,62]] (some ⟨W,0,none⟩) 1 zak_ (jX_ zk) _ _ (ydl_ _).symm (yaF_ zk) [0,1] (some ⟨R,0,none⟩) 2 zak_ zk) rfl e_ (λv _ h=>by exact⟨⟨h.2.2.2.2.2.2.1,λy e=>by simp only[yar_,yav_,ybg_]at e;rcases e with rfl|rfl|rfl;exact⟨⟨.inl rfl,trivial⟩,⟨h.2.2.2.2.2.2.2.1,⟨⟨.inl rfl,trivial⟩,trivial⟩⟩,(.inl rfl)⟩;exact⟨⟨.inl rfl,trivial⟩,⟨.inl rfl,trivial⟩,(.inl rfl)⟩;exact⟨⟨.inl rfl,trivial⟩,⟨.inl rfl,trivial⟩,(.inl rfl)⟩⟩,h.2.2.2.2.2.2.2.2.1,h.2.1,h.1,trivial⟩) rfl λ_=>?_);refine as_ rfl rfl (c_ (aI_ rfl) rfl (Zz 8 ?_));refine c_ (x_ ff_ rfl rfl) rfl (d_ (fp_ [65]) rfl e_ zt rfl λ_=>c_ (x_ strt30 rfl rfl) rfl (p_ aw_ D_ aQ_ rfl rfl rfl rfl rfl rfl λE=>?_));refine R_ (List.flatMap Ax.cells [(Ax.mk 1 false (Con.mk 1 [] 0 0 none 0 []) (Con.mk 3 [65] 0 0 none 0 []) none 0 [] [] [] [])]) f_ rfl ?_;refine Zz 5 ?_;refine d_ (fp_ [65]) rfl e_ zt rfl λ_=>d_ (fp_ [66]) rfl e_ zt rfl λ_=>c_ (x_ strt30 rfl rfl) rfl (p_ aw_ D_ aQ_ rfl rfl rfl rfl rfl rfl λu=>?_)
  refine R_ (List.flatMap Ax.cells [(Ax.mk 3 false (Con.mk 3 [65] 0 0 none 0 []) (Con.mk 3 [66] 0 0 none 0 []) none 0 [] [] [] [])]) f_ rfl ?_;refine Zz 5 ?_;refine c_ (x_ strt30 rfl rfl) rfl (d_ (fp_ [65]) rfl e_ zt rfl λ_=>c_ (x_ strt30 rfl rfl) rfl (d_ (ii_ [65] [66]) rfl e_ zt rfl λ_=>p_ aw_ D_ aQ_ rfl rfl rfl rfl rfl rfl λM=>?_));refine R_ (List.flatMap Ax.cells [(Ax.mk 7 true (Con.mk 0 [] 0 0 none 0 []) (Con.mk 0 [] 0 0 none 0 []) none 0 [] [114] [] []),(Ax.mk 4 false (Con.mk 0 [] 0 0 none 0 []) (Con.mk 3 [65] 0 0 none 0 []) none 0 [] [114] [] []),(sB [65] [66])]) f_ rfl ?_;refine Zz 7 ?_;refine p_ aE_ af_ bQ_ rfl rfl rfl rfl rfl rfl λC=>?_;refine R_ (List.flatMap cS_ [0]) f_ rfl ?_;refine d_ (eF_ [(Ax.mk 1 false (Con.mk 1 [] 0 0 none 0 []) (Con.mk 3 [65] 0 0 none 0 []) none 0 [] [] [] [])] (some ⟨E,0,none⟩) 1 ⟨by simp,by decide⟩ (λk d=>by simp only[yar_,yav_,ybg_]at d;rcases d with rfl<;>(constructor<;>simp[Con.ok,Con.ok.oks])) zak_ ([]:List Str) none 0 zak_ (jX_ zk) _ _ (ydl_ _).symm (yaF_ zk) [0] (some ⟨C,0,none⟩) 1 zak_ zk) rfl e_ (λv _ h=>by exact⟨⟨h.2.2.2.1,λy e=>by simp only[yar_,yav_,ybg_]at e;rcases e with rfl;exact⟨⟨.inl rfl,trivial⟩,⟨.inl rfl,trivial⟩,(.inl rfl)⟩⟩,h.2.2.2.2.2.2.2.2.2.2.2.2.1,(.inl rfl),h.1,trivial⟩) rfl λ_=>?_;refine c_ (aI_ rfl) rfl (Zz 4 ?_);refine p_ m_ B_ ak_ rfl rfl rfl rfl rfl rfl λJ=>?_;refine R_ (List.flatMap V_ [[65]]) f_ rfl ?_;refine as_ rfl rfl (d_ (eF_ [(Ax.mk 3 false (Con.mk 3 [65] 0 0 none 0 []) (Con.mk 3 [66] 0 0 none 0 []) none 0 [] [] [] [])] (some ⟨u,0,none⟩) 1 ⟨by simp,by decide⟩ (λk d=>by simp only[yar_,yav_,ybg_]at d;rcases d with rfl<;>(constructor<;>simp[Con.ok,Con.ok.oks])) zak_ [[65]] (some ⟨J,0,none⟩) 1 zak_ (jX_ zk) _ _ (ydl_ _).symm (yaF_ zk) ([]:List Int) none 0 zak_ zk) rfl e_ (λv _ h=>by exact⟨⟨h.2.2.2.1,λy e=>by simp only[yar_,yav_,ybg_]at e;rcases e with rfl;exact⟨⟨.inl rfl,trivial⟩,⟨.inl rfl,trivial⟩,(.inl rfl)⟩⟩,h.2.2.2.2.2.2.2.2.2.2.2.2.2.1,h.1,(.inl rfl),trivial⟩) rfl λ_=>?_);refine as_ rfl rfl (c_ (aI_ rfl) rfl (Zz 5 ?_));refine p_ m_ B_ ak_ rfl rfl rfl rfl rfl rfl λO=>?_;refine R_ (List.flatMap V_ [[65],[66]]) f_ rfl ?_;refine as_ rfl rfl (p_ aE_ af_ bQ_ rfl rfl rfl rfl rfl rfl λI=>?_);refine R_ (List.flatMap cS_ [0]) f_ rfl ?_;refine as_ rfl rfl (d_ (eF_ [(Ax.mk 3 false (Con.mk 3 [65] 0 0 none 0 []) (Con.mk 3 [66] 0 0 none 0 []) none 0 [] [] [] [])] (some ⟨u,0,none⟩) 1 ⟨by simp,by decide⟩ (λk d=>by simp only[yar_,yav_,ybg_]at d;rcases d with rfl<;>(constructor<;>simp[Con.ok,Con.ok.oks])) zak_ [[65],[66]] (some ⟨O,0,none⟩) 2 zak_ (jX_ zk) _ _ (ydl_ _).symm (yaF_ zk) [0] (some ⟨I,0,none⟩) 1 zak_ zk) rfl e_ (λv _ h=>by exact⟨⟨h.2.2.2.2.2.1,λy e=>by simp only[yar_,yav_,ybg_]at e;rcases e with rfl;exact⟨⟨.inl rfl,trivial⟩,⟨.inl rfl,trivial⟩,(.inl rfl)⟩⟩,h.2.2.2.2.2.2.2.2.2.2.2.2.2.2.2.1,h.2.1,h.1,trivial⟩) rfl λ_=>?_);refine as_ rfl rfl (c_ (aI_ rfl) rfl (Zz 5 ?_));refine p_ m_ B_ ak_ rfl rfl rfl rfl rfl rfl λH=>?_;refine R_ (List.flatMap V_ [[67]]) f_ rfl ?_;refine as_ rfl rfl (p_ aE_ af_ bQ_ rfl rfl rfl rfl rfl rfl λK=>?_);refine R_ (List.flatMap cS_ [0,1,2]) f_ rfl ?_;refine as_ rfl rfl (d_ (eF_ [(Ax.mk 7 true (Con.mk 0 [] 0 0 none 0 []) (Con.mk 0 [] 0 0 none 0 []) none 0 [] [114] [] []),(Ax.mk 4 false (Con.mk 0 [] 0 0 none 0 []) (Con.mk 3 [65] 0 0 none 0 []) none 0 [] [114] [] []),(sB [65] [66])] (some ⟨M,0,none⟩) 3 ⟨by simp,by decide⟩ (λk d=>by simp only[yar_,yav_,ybg_]at d;rcases d with rfl|rfl|rfl<;>(constructor<;>simp[Con.ok,Con.ok.oks,sB])) zak_ [[67]] (some ⟨H,0,none⟩) 1 zak_ (jX_ zk) _ _ (ydl_ _).symm (yaF_ zk) [0,1,2] (some ⟨K,0,none⟩) 3 zak_ zk) rfl e_ (λv _ h=>by exact⟨⟨h.2.2.2.2.2.2.1,λy e=>by simp only[yar_,yav_,ybg_]at e;rcases e with rfl|rfl|rfl;exact⟨⟨.inl rfl,trivial⟩,⟨.inl rfl,trivial⟩,(.inl rfl)⟩;exact⟨⟨.inl rfl,trivial⟩,⟨.inl rfl,trivial⟩,(.inl rfl)⟩;exact⟨⟨.inl rfl,trivial⟩,⟨.inl rfl,trivial⟩,(.inl rfl)⟩⟩,h.2.2.2.2.2.2.2.2.2.2.2.2.2.2.2.2.2.1,h.2.1,h.1,trivial⟩) rfl λ_=>?_);refine as_ rfl rfl (c_ (aI_ rfl) rfl (Zz 8 ?_));refine d_ (ii_ [65] [66]) rfl e_ zt rfl λ_=>d_ (ii_ [67] [68]) rfl e_ zt rfl λ_=>p_ aw_ D_ aQ_ rfl rfl rfl rfl rfl rfl λF=>?_;refine R_ (List.flatMap Ax.cells [(sB [65] [66]),(sB [67] [68])]) f_ rfl ?_;refine c_ (x_ fv_ rfl rfl) rfl (d_ (ii_ [65] [68]) rfl e_ zt rfl λ_=>?_);refine d_ (wB_ [(sB [65] [66]),(sB [67] [68])] (some ⟨F,0,none⟩) 2 (λk d=>by simp only[yar_,yav_,ybg_]at d;rcases d with rfl|rfl<;>(constructor<;>simp[Con.ok,Con.ok.oks,sB])) zak_ (sB [65] [68]) zbG_ (Ax.goalP (sB [65] [68])).1 (Ax.goalP (sB [65] [68])).2.1 (Ax.goalP (sB [65] [68])).2.2 (Av_ zbG_ rfl) (yaF_ zk)) rfl e_ (λv _ h=>by exact⟨⟨h.1,λy e=>by simp only[yar_,yav_,ybg_]at e;rcases e with rfl|rfl;exact⟨⟨.inl rfl,trivial⟩,⟨.inl rfl,trivial⟩,(.inl rfl)⟩;exact⟨⟨.inl rfl,trivial⟩,⟨.inl rfl,trivial⟩,(.inl rfl)⟩⟩,h.2.2.2.2.2.2.2.2.2.2.2.2.2.2.2.2.2.2.1,⟨⟨.inl rfl,trivial⟩,⟨.inl rfl,trivial⟩,(.inl rfl)⟩,trivial⟩) rfl λ⟨⟨a3,a6,Xo,eo⟩,B,L⟩=>?_;dsimp only;dsimp only at B L;obtain⟨rfl,rfl⟩:=of_pln (X:=[(sB [65] [66])]) (λk d=>by simp only[yar_,yav_,ybg_]at d;rcases d with rfl|rfl<;>kernel_rfl) (λk d=>by simp only[yar_,yav_,ybg_]at d;rcases d with rfl|rfl<;>exact⟨rfl,rfl,rfl⟩) zak_ (zO_ zk) L zk zk zk zk;refine I_ B ag_ λP a1 A Q Y T=>?_;subst A;refine Zz 3 ?_;refine K_ cE_ rfl λa0=>o_ 0 ap_ rfl rfl rfl rfl rfl rfl (Zz 5 ?_)
  refine p_ m_ B_ ak_ rfl rfl rfl rfl rfl rfl λG=>?_;refine R_ (List.flatMap V_ [[60]]) f_ rfl ?_;refine d_ (xg_ ([]:List Ax) none 0 ⟨by simp,by decide⟩ (λk d=>by cases d) zak_ [[60]] (some ⟨G,0,none⟩) 1 zak_ (jX_ zk) [] 0 zk zak_ [] 1 zk) rfl e_ (λv _ h=>by exact⟨⟨.inl rfl,by simp⟩,h.2.2.2.2.2.2.2.2.2.2.2.2.2.2.2.2.2.2.2.2.1,h.1,trivial⟩) rfl λ⟨⟨rad,rcap⟩,a4⟩=>?_;dsimp only;refine Zz 9 ?_;refine C_ 8 [0,1,2,3,4,5,6,7,8,9,10,11,12] zk zs (Zz 1 ?_);refine G_ rfl (aD_ (al_ rfl rfl) (show _=Value.bool true from yag_ Value.bool zaj_)) rfl (Zz 4 ?_);refine bL_ rfl rfl rfl (aD_ (al_ rfl rfl) (show _=Value.bool true from yag_ Value.bool zaj_)) rfl (Zz 4 ?_);refine bL_ rfl rfl rfl (J_ aw_ D_ rfl rfl (λv _ h=>az_ (n:=16) Ax.cells_len zaj_ (by exact h.2.2.1) (show [(sB [65] [66])][0]? = some _ from rfl)) zaa_ zah_) rfl ?_;refine bL_ rfl rfl rfl (ax_ (ad:=P) (us:=Ax.cells (sB [65] [66])) bg_ D_ rfl zf (Ax.cells_len _) (t_ Ax.cells_len (show [(sB [65] [66])][0]? = some _ from rfl))) rfl (bd_ (j_ 13 rfl zk (as_ rfl rfl (d_ (ii_ [65] [66]) rfl e_ zt rfl λ_=>Zz 3 ?_))));refine j_ 14 rfl zk (as_ rfl rfl (d_ (xx_ (sB [65] [66]) zbG_ (yaF_ zk) (yaF_ zk) ⟨⟨rfl,rfl⟩,⟨rfl,rfl⟩,rfl,rfl,rfl,rfl⟩) rfl e_ (λv _ h=>by exact⟨⟨⟨.inl rfl,trivial⟩,⟨.inl rfl,trivial⟩,(.inl rfl)⟩,trivial⟩) rfl λ_=>Zz 3 ?_));refine C_ 0 [15,16,17,18,19,20] zk zs (Zz 3 ?_);refine bL_ rfl rfl rfl (aD_ (al_ rfl rfl) (show _=Value.bool true from yag_ Value.bool zaj_)) rfl (Zz 6 ?_);exact W_ results6 () rfl (.refl _) zt
end Go.Proofs.YtbffkokbdeppaaaGreatDoor
namespace Go.Vs
open Go Go.Sx
abbrev PB:=List Str×Bool
def lst (l:List Str):Option Str:=l[l.length - 1]?
theorem me_ (l:List Str) (s:Str):lst (l++[s])=some s:=by grind[lst]
def PB.key (x:PB):Option Str×Bool:=(lst x.1,x.2)
def pT_ (p:PB) (s:RSt):List PB:=if lst p.1=some s.1/\s.2.1 ∉ p.1 then [(p.1++[s.2.1],p.2||s.2.2)] else []
def fr_ (p:PB) (S:List RSt):List PB:=S.flatMap (pT_ p)
def jO_ (P:List PB) (S:List RSt):List PB:=P.flatMap λp=>fr_ p S
theorem AB_ {p:PB} {s:RSt} (h:lst p.1=some s.1) (d:s.2.1 ∉ p.1):pT_ p s=[(p.1++[s.2.1],p.2||s.2.2)]:=yax_ ⟨h,d⟩
theorem Cx_ {p:PB} {s:RSt} (h:lst p.1≠some s.1):pT_ p s=[]:=yam_ λq=>h q.1
theorem Cy_ {p:PB} {s:RSt} (h:s.2.1∈p.1):pT_ p s=[]:=yam_ λq=>q.2 h
theorem iz_ {p:PB} {S:List RSt} {k:Nat} {s:RSt} (h:S[k]? = some s):fr_ p (S.take (k+1))=fr_ p (S.take k)++pT_ p s:=by
  grind[fr_,List.take_add_one]
theorem vK_ {P:List PB} {S:List RSt} {k:Nat} {p:PB} (h:P[k]? = some p):jO_ (P.take (k+1)) S=jO_ (P.take k) S++fr_ p S:=by
  grind[jO_,List.take_add_one]
theorem ra_ {p x:PB} {S:List RSt}:x∈fr_ p S↔∃ s∈S,lst p.1=some s.1/\s.2.1 ∉ p.1/\x=(p.1++[s.2.1],p.2||s.2.2):=by
  grind[fr_,pT_]
theorem mI_ {P:List PB} {x:PB} {S:List RSt}:x∈jO_ P S↔∃ p∈P,∃ s∈S,lst p.1=some s.1/\s.2.1 ∉ p.1/\x=(p.1++[s.2.1],p.2||s.2.2):=by
  grind[jO_,ra_]
structure CI (C O:List PB):Prop where
  sub:∀ z∈O,z∈C
  has:∀ x∈C,∃ z∈O,z.key=x.key
  nd:(O.map PB.key).Nodup
theorem CI.nil:CI [] []:=⟨λ_ h=>h,λ_ h=>by simp at h,ybH_⟩
theorem CI.push {C O:List PB} {x:PB} (h:CI C O) (o:∀ z∈O,z.key≠x.key):CI (C++[x]) (O++[x]):=by
 refine⟨λz d=>?_,λz d=>?_,?_⟩
 .rcases yaj_.1 d with d|d
  .exact yaG_ _ (h.sub z d)
  grind
 .rcases yaj_.1 d with d|d
  .obtain⟨u,k,e⟩:=h.has z d;grind
  grind
 grind[nd]
theorem CI.keep {C O:List PB} {x z:PB} {a:Nat} (h:CI C O) (e:O[a]? = some z) (k:z.key=x.key):CI (C++[x]) O:=by
 refine⟨λz e=>yaG_ _ (h.sub z e),λy d=>?_,h.nd⟩;rcases yaj_.1 d with d|d
 .exact h.has y d
 grind
theorem md_ {α β:Type} {f:α->β}:∀ {l:List α} {a:Nat} {x z:α},l[a]? = some z->f z=f x->(l.set a x).map f=l.map f
  | [],a,x,z,h,_=>by simp at h
  | y::l,0,x,z,h,e=>by grind
  | y::l,a+1,x,z,h,e=>by
    simp only[ybp_]at h;simp only[ycy_,yaE_];rw[md_ h e]
theorem CI.set {C O:List PB} {x z:PB} {a:Nat} (h:CI C O) (o:O[a]? = some z) (v:z.key=x.key):CI (C++[x]) (O.set a x):=by
 have A:=(yaf_.1 o).1;have hm:=md_ (f:=PB.key) o v;refine⟨λy d=>?_,λy d=>?_,by grind[nd]⟩
 .rcases ybx_ d with d|rfl
  .exact yaG_ _ (h.sub y d)
  simp
 have key:∀ k,k∈O.map PB.key->∃ u∈O.set a x,u.key=k:=λk B=>by
   grind
 rcases yaj_.1 d with d|d
 .obtain⟨u,E,e⟩:=h.has y d
  grind[List.mem_map_of_mem]
 grind[List.mem_map_of_mem]
theorem Br_ (S:List RSt):(S.flatMap λs=>[((some s.2.1:Option Str),true),(some s.2.1,false)]).length=2*S.length:=by
  induction S<;>grind
theorem CI.len {P O:List PB} {S:List RSt} {C:List PB} (h:CI C O) (u:∀ x∈C,∃ s∈S,lst x.1=some s.2.1):O.length<=2*S.length:=by
  have d:O.map PB.key ⊆ S.flatMap λs=>[(some s.2.1,true),(some s.2.1,false)]:=λk o=>by
    obtain⟨z,y,rfl⟩:=yaM_.1 o;obtain⟨s,v,e⟩:=u z (h.sub z y);rw[ybe_];refine⟨s,v,?_⟩;unfold PB.key;rw[e];cases z.2<;>simp
  have:=h.nd.length_le_of_subset d
  grind[Br_]
theorem xb_ {P:List PB} {S:List RSt}:∀ x∈jO_ P S,∃ s∈S,lst x.1=some s.2.1:=by grind[mI_,me_]
theorem AU_ {p:PB} {S:List RSt}:∀ x∈fr_ p S,∃ s∈S,lst x.1=some s.2.1:=by grind[ra_,me_]
def sJ_ (p:PB) (s:RSt):Bool:=decide (lst p.1=some s.1)&&(decide (p.1[0]? = some s.2.1)&&(p.2||s.2.2))
def iH_ (p:PB) (S:List RSt):Bool:=S.any (sJ_ p)
inductive PI (q:Prop) (S:List RSt) (r:Str):Nat->List PB->Prop
  | one:PI q S r 1 [([r],false)]
  | more {n:Nat} {P O:List PB}:PI q S r n P->(q->∀ p∈P,iH_ p S=false)->CI (jO_ P S) O->PI q S r (n+1) O
theorem PI.imp {q d:Prop} (e:d->q) {S:List RSt} {r:Str} {n:Nat} {P:List PB} (h:PI q S r n P):PI d S r n P:=by
  induction h with
  | one=>exact .one
  | more h1 h2 h3 ih=>exact .more ih (λk=>h2 (e k)) h3
theorem PI.pos {q:Prop} {S:List RSt} {r:Str} {n:Nat} {P:List PB} (h:PI q S r n P):0<n:=by cases h<;>omega
def PW (S:List RSt) (r:Str) (n:Nat) (p:PB):Prop :=
  ∃ (g:Nat->Str) (d:Nat->Bool),p.1=(List.range n).map g/\g 0=r/\(∀ m,m+1<n->sE S (g m) (g (m+1)) (d m))/\p.2=sig d (n - 1)
theorem PW.lst {S:List RSt} {r:Str} {n:Nat} {p:PB} (d:0<n) {g:Nat->Str} (h:p.1=(List.range n).map g):lst p.1=some (g (n - 1)):=by
  grind[Vs.lst]
theorem PI.wlk {q:Prop} {S:List RSt} {r:Str} {n:Nat} {P:List PB} (h:PI q S r n P):∀ p∈P,PW S r n p:=by
 induction h with
 | one =>
   intro p e;rw[yal_]at e;subst e;exact⟨λ_=>r,λ_=>false,rfl,rfl,λm hm=>by omega,rfl⟩
 | @more n P O h1 h2 h3 ih =>
   intro x u;obtain⟨p,e,s,o,y,C,rfl⟩:=mI_.1 (h3.sub x u);obtain⟨g,d,k,B,E,A⟩:=ih p e;have v:=h1.pos;have hl:=PW.lst (S:=S) (r:=r) v k;rw[y]at hl;simp only[yai_]at hl;refine⟨λm=>if m<n then g m else s.2.1,λm=>if m+1<n then d m else s.2.2,?_,?_,λm hm=>?_,?_⟩
   . grind[List.range_succ,List.map_congr_left]
   . grind
   . dsimp only
     by_cases q:m+1<n
     . grind
     . rw[yax_ zaa_,yam_ q,yam_ q,show m=n - 1 by omega,<-hl];exact o
   grind[sig,mz_]
theorem PI.len {q:Prop} {S:List RSt} {r:Str} {n:Nat} {P:List PB} (h:PI q S r n P):∀ p∈P,p.1.length=n:=λp e=>by
  obtain⟨g,d,k,_⟩:=h.wlk p e
  grind
theorem PI.size {q:Prop} {S:List RSt} {r:Str} {n:Nat} {P:List PB} (h:PI q S r n P):P.length<=2*S.length+1:=by
  cases h with
  | one=>simp
  | more h1 h2 h3=>have:=h3.len (P:=[]) (λx d=>xb_ x d);omega
theorem PI.sound {q:Prop} {S:List RSt} {r:Str} {n:Nat} {P:List PB} (h:PI q S r n P) {p:PB} (B:p∈P) (e:iH_ p S=true):qk_ S:=by
  obtain⟨g,d,u,x,G,C⟩:=h.wlk p B;have v:=h.pos;unfold iH_ at e;rw[ybS_]at e;obtain⟨s,F,e⟩:=e;unfold sJ_ at e;rw[yaJ_,yaJ_,ycd_,ycd_]at e;obtain⟨A,k,E⟩:=e;rw[PW.lst (S:=S) (r:=r) v u,yai_]at A;rw[u,yaD_,List.getElem?_range v]at k;simp only[yba_,yai_]at k;have w:Wlk (sE S) r (g (n - 1)) (sig d (n - 1)) (n - 1):=⟨g,d,x,rfl,λm hm=>G m zaa_,rfl⟩;have o:sE S (g (n - 1)) r s.2.2:=by rw[A,<-x,k];exact F
  have y:=w.snoc o;rw[<-C,E]at y;exact⟨_,y.clo⟩
theorem PI.down {q:Prop} {S:List RSt} {r:Str} {M:Nat} {P:List PB} (h:PI q S r M P):∀ n,0<n->n<M->∃ Q,PI q S r n Q/\(q->∀ p∈Q,iH_ p S=false):=by
  induction h<;>grind
theorem PI.kept {q:Prop} {S:List RSt} {N:Nat} {f:Nat->Str} {c:Nat->Bool} (A:Clw (sE S) N f c) (hm:∀ k,Clo (sE S) k->N<=k) {n:Nat} {P:List PB} (h:PI q S (f 0) n P):n<=N->∃ p∈P,lst p.1=some (f (n - 1))/\p.2=sig c (n - 1):=by
  induction h with
  | one=>intro _;exact⟨([f 0],false),by simp,rfl,rfl⟩
  | @more n P O h1 h2 h3 ih =>
    intro Q;obtain⟨p,E,G,J⟩:=ih zaa_;have H:=h1.pos;obtain⟨g,d,F,I,L,M⟩:=h1.wlk p E;have C:=PW.lst (S:=S) (r:=f 0) H F;rw[G,yai_]at C;have v:=A.subst (j:=n - 1) zaa_ (g:=g) (d:=d) I C.symm (λm hm=>L m zaa_) zap_
    have o:f n ∉ p.1:=λu=>by
      rw[F,yaM_]at u;obtain⟨k,B,e⟩:=u;rw[ycq_]at B;have:=v.inj hm k n B zaa_
      grind
    have x:(f (n - 1),f n,c (n - 1))∈S:=by
      have:=A.2.2.1 (n - 1) zaa_;rwa [show n - 1+1=n by omega]at this
    obtain⟨z,K,y⟩:=h3.has (p.1++[f n],p.2||c (n - 1)) (mI_.2 ⟨p,E,_,x,G,o,rfl⟩);unfold PB.key at y;simp only[me_,ycl_]at y;refine⟨z,K,by grind,?_⟩;rw[y.2,J,Nat.add_sub_cancel];obtain⟨k,rfl⟩:∃ k,n=k+1:=⟨n - 1,by omega⟩;rfl
theorem AT_ {S:List RSt} {R:List Str} (L:∀ s∈S,s.1∈R) (h:∀ r∈R,∃ P,PI True S r (R.length+1) P):¬ qk_ S:=by
 rintro ⟨n,I⟩;obtain⟨N,⟨f,c,o⟩,_,e⟩:=tT_ I;have B:=o.1;have y:∀ m,m<N->f m∈R:=λm hm=>L _ (o.2.2.1 m hm)
 have E:N<=R.length:=by
   have A:((List.range N).map f).Nodup:=by
     unfold List.Nodup;rw[ybQ_,yaK_];intro i j hi U x;simp only[List.getElem_range];exact o.inj e i j x zap_
   have v:((List.range N).map f) ⊆ R:=by
     grind
   have:=A.length_le_of_subset v
   grind
 obtain⟨P,K⟩:=h (f 0) (y 0 B);obtain⟨Q,C,F⟩:=K.down N B zaa_;obtain⟨p,H,J,G⟩:=C.kept o e (yab_ _);obtain⟨g,d,T,M,V,O⟩:=C.wlk p H;have u:=o.2.2.1 (N - 1) zaa_;rw[show N - 1+1=N by omega,o.2.1]at u
 have:iH_ p S=true:=by
   unfold iH_;rw[ybS_];refine⟨_,u,?_⟩;unfold sJ_;rw[yaJ_,yaJ_,ycd_,ycd_];refine⟨J,?_,?_⟩
   . grind
   . rw[G]
     have:=(jv_ (c:=c) (n:=N)).2 o.2.2.2;obtain⟨k,rfl⟩:∃ k,N=k+1:=⟨N - 1,by omega⟩;exact this
 grind
structure Pth where
  rl:List Str
  ad:Ao
  cap:Nat
  st:Bool
def Pth.b (x:Pth):PB:=(x.rl,x.st)
def Pth.ok (x:Pth):Prop:=x.rl.length<=x.cap/\x.cap<=maxLen/\(x.ad=none->x.cap=0)
structure Prw where
  ps:List Pth
  ad:Ao
  cap:Nat
def Prw.bs (x:Prw):List PB:=x.ps.map Pth.b
structure PX (q:Prop) (S:List RSt) (R:List Str) (X:List Prw) (n i:Nat):Prop where
  len:X.length=R.length
  lo:∀ (k:Nat) (r:Str) (y:Prw),k<i->R[k]? = some r->X[k]? = some y->PI q S r (n+1) y.bs
  hi:∀ (k:Nat) (r:Str) (y:Prw),i<=k->R[k]? = some r->X[k]? = some y->n=0\/PI q S r n y.bs
  ok:∀ y∈X,∀ z∈y.ps,z.ok
theorem PX.imp {q v:Prop} (u:v->q) {S:List RSt} {R:List Str} {X:List Prw} {n i:Nat} (h:PX q S R X n i):PX v S R X n i :=
  ⟨h.len,λk r y e d o=>(h.lo k r y e d o).imp u,λk r y e d o=>(h.hi k r y e d o).imp id λt=>t.imp u,h.ok⟩
theorem PX.init {S:List RSt} {R:List Str}:PX True S R (List.replicate R.length ⟨[],none,0⟩) 0 0 :=
  ⟨ybJ_,λk r y h=>by omega,λk r y _ _ _=>.inl rfl,λy d=>by grind⟩
theorem PX.set {q:Prop} {S:List RSt} {R:List Str} {X:List Prw} {n i:Nat} {r:Str} {y:Prw} (h:PX q S R X n i) (A:R[i]? = some r) (x:PI q S r (n+1) y.bs) (u:∀ z∈y.ps,z.ok):PX q S R (X.set i y) n (i+1):=by
 have hi:i<X.length:=by grind[len]
 refine⟨by grind[len],λk t z v o d=>?_,λk t z v o d=>?_,λz d=>?_⟩
 .by_cases e:k=i
  .grind
  rw[ybW_ (Ne.symm e)]at d;exact h.lo k t z zaa_ o d
 .rw[ybW_ zaa_]at d
  exact h.hi k t z zaa_ o d
 rcases ybx_ d with d|rfl
 .exact h.ok z d
 exact u
theorem PX.next {q:Prop} {S:List RSt} {R:List Str} {X:List Prw} {n i:Nat} (h:PX q S R X n i) (hi:R.length<=i):PX q S R X (n+1) 0 :=
  ⟨h.len,λk r y o=>by omega,λk r y _ d e=>.inr (h.lo k r y zap_ d e),h.ok⟩
theorem PX.at {q:Prop} {S:List RSt} {R:List Str} {X:List Prw} {n i:Nat} {r:Str} {y:Prw} (h:PX q S R X n i) (o:0<n) (k:R[i]? = some r) (d:X[i]? = some y):PI q S r n y.bs :=
  (h.hi i r y (yab_ _) k d).elim (λe=>by omega) id
theorem PX.fine {S:List RSt} {R:List Str} {X:List Prw} (h:PX True S R X (R.length+1) 0) (o:∀ s∈S,s.1∈R):¬ qk_ S:=AT_ o λr u=>by
  obtain⟨k,d⟩:=yaA_ u;have hl:k<X.length:=by grind[len]
  exact⟨_,(h.hi k r _ (yaV_ _) d (yaa_ hl)).elim (λe=>by omega) id⟩
theorem PX.size {q:Prop} {S:List RSt} {R:List Str} {X:List Prw} {n i:Nat} {r:Str} {y:Prw} (h:PX q S R X n i) (k:0<n) (e:R[i]? = some r) (d:X[i]? = some y):y.ps.length<=2*S.length+1/\∀ z∈y.ps,z.rl.length=n:=by
  have:=h.at k e d;refine⟨by have q:=this.size;grind[Prw.bs],λz o=>?_⟩;exact this.len z.b (yaU_ o)
def Pth.cells (x:Pth):List Value:=[.slice x.ad x.rl.length x.cap,.bool x.st]
theorem Pth.cells_len (x:Pth):x.cells.length=2:=rfl
def Pth.val (x:Pth):Value:=.agg x.cells.toArray
theorem Pth.cells_one (x:Pth):x.cells.all Value.oneCell'=true:=rfl
def Prw.cells (x:Prw):List Value:=[.slice x.ad x.ps.length x.cap]
theorem Prw.cells_len (x:Prw):x.cells.length=1:=rfl
def gh_ (X:List Pth):Fct where
  p v:=∀ y∈X,bW_ v y.ad (y.rl.flatMap V_)
  mono v v' h hp y hy:=(O_ y.ad (y.rl.flatMap V_)).mono v v' h (hp y hy)
theorem pm_ {X:List Pth} {y:Pth} {v:Vw} (h:(gh_ X).p v) (e:(O_ y.ad (y.rl.flatMap V_)).p v):(gh_ (X++[y])).p v:=λz d=>by
 rcases yaj_.1 d with d|d
 .exact h z d
 rw[yal_]at d;subst d;exact e
theorem xU_ {X:List Pth} {y:Pth} {i:Nat} {v:Vw} (h:(gh_ X).p v) (e:(O_ y.ad (y.rl.flatMap V_)).p v):(gh_ (X.set i y)).p v:=λz d=>by
 rcases ybx_ d with d|rfl
 .exact h z d
 exact e
def pn_ (X:List Prw):Fct where
  p v:=∀ y∈X,bW_ v y.ad (y.ps.flatMap Pth.cells)/\∀ z∈y.ps,bW_ v z.ad (z.rl.flatMap V_)
  mono v v' h hp y hy:=⟨(O_ y.ad (y.ps.flatMap Pth.cells)).mono v v' h (hp y hy).1,λz hz=>(O_ z.ad (z.rl.flatMap V_)).mono v v' h ((hp y hy).2 z hz)⟩
theorem qN_ {X:List Prw} {y:Prw} {i:Nat} {v:Vw} (h:(pn_ X).p v) (k:(O_ y.ad (y.ps.flatMap Pth.cells)).p v) (e:(gh_ y.ps).p v):(pn_ (X.set i y)).p v:=λz d=>by
 rcases ybx_ d with d|rfl
 .exact h z d
 exact⟨k,e⟩
theorem xV_ {n:Nat} {v:Vw}:(pn_ (List.replicate n ⟨[],none,0⟩)).p v:=λy d=>by
  rw[List.mem_replicate]at d;rw[d.2];exact⟨.inl rfl,λz e=>by simp at e⟩
end Go.Vs
namespace Go.Sx
open Go Go.Vs
theorem tR_ {α β:Type} (f:α->β):∀ (l:List α) (i:Nat),(l.eraseIdx i).map f=(l.map f).eraseIdx i
  | [],_=>rfl
  | _::_,0=>rfl
  | x::l,i+1=>by simp only[List.eraseIdx_cons_succ,yaE_];rw[tR_ f l i]
structure StM where
  es:Array MapEntry
  c:Nat
  ks:List Str
  hE:SetE str es ks
  hB:Born es c
def StM.add (s:StM) (k:Str):StM:=if h:k∈s.ks then s else ⟨s.es.push ⟨str k,.bool true,s.c⟩,s.c+1,s.ks++[k],s.hE.push h s.c,s.hB.push _ _⟩
theorem StM.mem {s:StM} {k n:Str}:n∈(s.add k).ks↔n∈s.ks\/n=k:=by
  grind[add]
theorem StM.len {s:StM} {k:Str}:(s.add k).ks.length<=s.ks.length+1:=by
  grind[add]
section
variable {P:Program} {N:Nat} {v0:Vw} {H0:Hp} {R:Exit->Act->World->Prop} {Kk:List Kt} {fr:Fr} {H:Hp} {Γ:List Fct}
variable {ops:Array Oper} {lo:List Oper} {d:Nat} {ty:TypeId} {ps:String} {af:Array Edge}
theorem ie_ {t e G:TypeId} {x y:Operand} {b c i:Nat} {es:Array MapEntry} {key u:Value} (B:∀ w,(underlying t).run P w=.ok (.map e G) w) (E:Fr.ev fr x=some (.map (some b))) (o:Fr.ev fr y=some key) (n:Nat)
    (hi:H[n]? = some (b,.map es c)) (F:kH_ P e key) (k:ek_ P e key es.toList (some (i,u))):Yld P N fr H Γ (.lookup t x y true) ty (.tuple #[u,.bool true]) :=
  λa v h A I _ _ _=>by
    have C:=MapKept.run_getObj_map (P:=P) (A.own _ (yad_ hi)).1;simp[execOp,h.ev E,h.ev o,Instr.lookup,B,C,F _ _,k _]
theorem uK_ {t e k:TypeId} {x y:Operand} {b c:Nat} {es:Array MapEntry} {key z:Value} (B:∀ w,(underlying t).run P w=.ok (.map e k) w) (G:∀ w,(zeroValue k).run P w=.ok z w) (E:Fr.ev fr x=some (.map (some b))) (u:Fr.ev fr y=some key) (n:Nat)
    (hi:H[n]? = some (b,.map es c)) (F:kH_ P e key) (o:ek_ P e key es.toList none):Yld P N fr H Γ (.lookup t x y true) ty (.tuple #[z,.bool false]) :=
  λa v h A I _ _ _=>by
    have C:=MapKept.run_getObj_map (P:=P) (A.own _ (yad_ hi)).1;simp[execOp,h.ev E,h.ev u,Instr.lookup,B,C,F _ _,o _,G]
theorem io_ {Fc:Fence} {M:Nat} {D:List Deferred} {o:Op} {t L Z:TypeId} {x y z:Operand} {b:Nat} (Y:Opn Fc) (n:Nat) (s:StM) {k:Str} (B:KeyT P L str) (I:o=.insert t x y z\/o=.mapUpdate t x y z) (U:∀ w,(underlying t).run P w=.ok (.map L Z) w)
    (V:Fr.ev fr x=some (.map (some b))) (S:Fr.ev fr y=some (str k)) (O:Fr.ev fr z=some (.bool true)) (hi:H[n]? = some (b,.map s.es s.c))
    (G:fH_ Fc M P R N D v0 H0 ops lo Kk fr (H.set n (b,.map (s.add k).es (s.add k).c)) Γ):fH_ Fc M P R N D v0 H0 ops (⟨none,o,ty,ps,af,none⟩::lo) Kk fr H Γ :=
  eE_ (by rfl) λa v h E h3 X=>by
    refine⟨λf _=>Y.fn f,?_⟩;rw[semAt_eq (by rcases I with rfl|rfl<;>rfl)];have F:=(E.own _ (yad_ hi)).1;have K:=MapKept.run_getObj_map (P:=P) F;have C:=MapKept.run_setObj_map (P:=P) (.map (s.add k).es (s.add k).c) F
    have he:(execOp (Act.eval ⟨a.tmps,[]⟩) ⟨none,o,ty,ps,af,none⟩).run P v.w=.ok .skip { v.w with heap:=v.w.heap.setIfInBounds b (.map (s.add k).es (s.add k).c) }:=by
      by_cases u:k∈s.ks
      . have J:s.add k=s:=by grind[StM.add]
        rw[J]at C ⊢;obtain⟨i,e,Q,A,W,g4,g5⟩:=s.hE.yes B u;have em:=ht_ A W g4;rcases I with rfl|rfl<;>simp[execOp,h.sat.ev V,h.sat.ev S,h.sat.ev O,Instr.mapUpdate,U,K,B.ok _ _ _,g5 _,C,Instr.keyThatStays,A,W,B.same,em]
      . have J:s.add k=⟨s.es.push ⟨str k,.bool true,s.c⟩,s.c+1,s.ks++[k],s.hE.push u s.c,s.hB.push _ _⟩:=by grind[StM.add]
        rw[J]at C ⊢;dsimp only at C ⊢;have hf:=s.hE.no B u;rcases I with rfl|rfl<;>simp[execOp,h.sat.ev V,h.sat.ev S,h.sat.ev O,Instr.mapUpdate,U,K,B.ok _ _ _,hf _,C]
    rw[show a.eval=Act.eval ⟨a.tmps,[]⟩ from rfl,he];have T:=MapKept.heap_set (o':=.map (s.add k).es (s.add k).c) F;obtain⟨Q,A⟩:=fw_ (w':={ v.w with heap:=v.w.heap.setIfInBounds b (.map (s.add k).es (s.add k).c) }) E hi rfl rfl rfl (yab_ _) zak_ T.1 (λk u=>T.2 k u);exact G _ _ h Q (h3.trans A) (ba_ (A.le E) X)
theorem tK_ {N:Nf} {t G et:TypeId} {x y:Operand} {b:Nat} {A:Option Nat} (n:Nat) {es:Array MapEntry} {c:Nat} {ks:List Str} {k:Str} (I:KeyT P G str) (Y:∀ w,(underlying t).run P w=.ok (.map G et) w)
    (u:Fr.ev fr x=some (.map (some b))) (W:Fr.ev fr y=some (str k)) (hi:H[n]? = some (b,.map es c)) (hE:SetE str es ks) (hB:Born es c) (Z:A=none)
    (O:∀ h,SetE str h (ks.filter λq=>decide (q≠k))->Born h c->Ops P R N v0 H0 ops lo Kk fr (H.set n (b,.map h c)) Γ):Ops P R N v0 H0 ops (⟨A,.call ⟨.builtin .delete,#[x,y],#[t,G]⟩,ty,ps,af,none⟩::lo) Kk fr H Γ :=
  dl_ rfl λa v C L h3 h4=>by
    subst Z;have E:=(L.own _ (yad_ hi)).1;have V:=MapKept.run_getObj_map (P:=P) E
    obtain⟨h,K,M,S⟩:∃ h,(execOp a.eval ⟨none,.call ⟨.builtin .delete,#[x,y],#[t,G]⟩,ty,ps,af,none⟩).run P v.w=.ok (.value (.tuple #[])) { v.w with heap:=v.w.heap.setIfInBounds b (.map h c) }/\SetE str h (ks.filter λq=>decide (q≠k))/\Born h c:=by
      by_cases F:k∈ks
      . obtain⟨i,e,J,Q,g3,g4,g5⟩:=hE.yes I F
        have his:i<es.size:=by
          grind
        have o:(es.eraseIdxIfInBounds i).toList=es.toList.eraseIdx i:=by
          simp
        have U:=MapKept.run_setObj_map (P:=P) (.map (es.eraseIdxIfInBounds i) c) E
        have B:ks.eraseIdx i=ks.filter λq=>decide (q≠k):=by
          have h9:ks.erase k=ks.filter (λq=>q != k):=hE.nd.erase_eq_filter k
          have h8:ks.erase k=ks.eraseIdx i:=by
            have T:=(yaf_.1 J).1;rw[List.erase_eq_eraseIdx_of_idxOf (i:=i)];have e1:=(yaf_.1 J).2;rw[<-e1];exact hE.nd.idxOf_getElem i T
          grind
        refine⟨es.eraseIdxIfInBounds i,?_,⟨?_,λx u=>?_,?_⟩,⟨λx u=>?_,?_⟩⟩
        . simp[execOp,resolve,invoke,builtin,C.ev u,C.ev W,Builtin.delete_,Y,V,I.ok _ _ _,g5 _,U,Result.andThen]
        . grind[tR_,SetE.keys]
        . rw[o]at u;exact hE.vals x ((ycI_ _ _).subset u)
        . exact hE.nd.filter _
        . rw[o]at u;exact hB.lt x ((ycI_ _ _).subset u)
        . rw[o];exact hB.nd.sublist ((ycI_ _ _).map _)
      . have U:=MapKept.run_setObj_map (P:=P) (.map es c) E
        have hf:=hE.no I F
        have B:(ks.filter λq=>decide (q≠k))=ks:=List.filter_eq_self.2 λq hq=>by
          grind
        refine⟨es,?_,by grind,hB⟩;simp[execOp,resolve,invoke,builtin,C.ev u,C.ev W,Builtin.delete_,Y,V,I.ok _ _ _,hf _,U,Result.andThen]
    unfold Oper.wp;rw[K];have X:=MapKept.heap_set (o':=.map h c) E;obtain⟨J,Q⟩:=fw_ (w':={ v.w with heap:=v.w.heap.setIfInBounds b (.map h c) }) L hi rfl rfl rfl (yab_ _) zak_ X.1 (λk F=>X.2 k F);exact O h M S a _ C J (h3.trans Q) (ba_ (Q.le L) h4)
end
end Go.Sx
