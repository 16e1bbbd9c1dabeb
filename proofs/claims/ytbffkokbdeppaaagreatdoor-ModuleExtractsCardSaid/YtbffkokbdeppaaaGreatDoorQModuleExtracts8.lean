/-
  Lemmas for the law ModuleExtracts (no condition).
-/
import Derived.Test.YtbffkokbdeppaaaGreatDoorQModuleExtracts7
import Derived.Scope
import Derived.Lib.Join
import Derived.Lib.AppendZeros
set_option linter.unusedVariables false
set_option linter.unusedSimpArgs false
set_option linter.unusedSectionVars false
set_option maxHeartbeats 1000000
namespace Go.Proofs.YtbffkokbdeppaaaGreatDoor
open Go Go.Sx Go.Proofs Tryz
attribute [local irreducible] Code.wp wpList wpAnyH
open Go.Vs
theorem zB_ (x:Ax) (hok:x.ok) (hc:x.check=0) (hk:x.kind=6):Tri prog 256 #[Ax.val x] [] [Ax.memF x] (λy:{y:Ao×Nat // (Ax.chainL x.role (x.roles.drop 1) (x.roles.headD [])).length<=y.2/\y.2<=maxLen/\(y.1=none->y.2=0)}=>.slice y.1.1 (Ax.chainL x.role (x.roles.drop 1) (x.roles.headD [])).length y.1.2) (λ_=>[]) (λy=>[O_ y.1.1 (List.flatMap Pc.cells (Ax.chainL x.role (x.roles.drop 1) (x.roles.headD [])))]):=by
 refine l_ func256 rfl rfl ntmps256 rfl λv_1=>?_;have G:=Ax.good_of hc;have h_1:=G.chain hk;have hlr:=dt_ (G.role zaa_);refine Zz 2 ?_;refine Q_ rfl rfl λK=>Zz 9 ?_
 obtain⟨Z,E,R,J⟩:=zge (show 0<x.roles.length by omega);have hl_1:=dt_ (G.roles E J);refine Zz 15 ?_;refine bc_ [(1,zp_ K 0),(3,.slice none 0 0),(4,str E),(5,i4_ ((0+1:Nat):Int))] zl ?_;refine bs_ (ι:={y:Nat×Str×List Pc×Value×Hp // y.1+1<=x.roles.length/\y.2.1.length<=30*(y.1+1)/\y.2.2.1.length=y.1/\y.2.2.1++Ax.chainL x.role (List.drop (y.1+1) x.roles) y.2.1=(Ax.chainL x.role (x.roles.drop 1) E)/\av_ 80 10 y.2.2.2.1 y.2.2.1.length (y.2.2.1.flatMap Pc.cells) y.2.2.2.2}) (λy=>[(1,zp_ K 0),(3,y.1.2.2.2.1),(4,str y.1.2.1),(5,i4_ ((y.1.1+1:Nat):Int))]) (λy=>_::y.1.2.2.2.2) (λ_=>_) (λy=>x.roles.length - y.1.1) ⟨(0,E,[],.slice none 0 0,[]),by dsimp only;omega,by dsimp only;omega,rfl,rfl,av_.nil _ _⟩ ?_;rintro ⟨⟨q,f,L,sv,Hr⟩,hq,a0,I,h,o⟩;dsimp only at hq a0 I h o;dsimp only;refine bc_ [(1,zp_ K 0),(3,sv),(4,str f),(5,i4_ ((q+1:Nat):Int))] zl ?_;refine Zi 7 (λB=>?_) λB=>?_
 .refine Zz 12 ?_
  have Y:List.drop (q+1) x.roles=[]:=yaO_ zaa_;rw[Y]at h;have hLe:L=Ax.chainL x.role (x.roles.drop 1) (x.roles.headD []):=by rw[hQ_ R,<-h];simp[Ax.chainL]
  rw[hLe]at o;refine I_ o (g_ an_) λO S X P T Q=>?_;exact W_ results256 ⟨(O,S),P,T,Q⟩ (cw_ rfl X) e_ zf
 obtain⟨V,d,F,H⟩:=zge (show (q+1:Nat)<x.roles.length by omega);have hl_2:=dt_ (G.roles d H);refine Zz 10 ?_;refine c_ (bn_ rfl rfl zad_) rfl ?_;refine Zz 5 ?_;refine c_ (bn_ rfl rfl zad_) rfl ?_;refine Zi 11 (λC=>?_) λC=>?_
 .refine Zz 15 ?_
  refine c_ (x_ ct_ rfl rfl) rfl (p_ u_ ab_ N_ rfl rfl rfl rfl rfl rfl λW=>?_);refine am_ (news:=Pc.cells (Pc.mk 6 [] [] [] f d ((f++[46])++d) 0 0 0)) hU_ o rfl rfl zp rfl (aO_ 0 rfl) (λu hu=>dn_ (Pc.cells_one _) u hu) zay_ zaa_ rfl λk v B=>?_;refine s_ (@List.perm_append_comm _ _ [_,_]) ?_;have A:av_ 80 10 k (L++[(Pc.mk 6 [] [] [] f d ((f++[46])++d) 0 0 0)]).length ((L++[(Pc.mk 6 [] [] [] f d ((f++[46])++d) 0 0 0)]).flatMap Pc.cells) v:=by rw[yae_,yan_];simpa using B
  refine Zz 14 ?_;have U:List.drop (q+1) x.roles=d::List.drop (q+2) x.roles:=fd_ F;have M:(if List.drop (q+2) x.roles=[] then Ax.role x else f++[46]++d)=(f++[46])++d:=by rw[yam_ (λe=>by have:=yag_ List.length e;rw[ybD_]at this;simp only[yaw_]at this;omega)]
  rw[U]at h;simp only[Ax.chainL]at h;rw[M]at h;exact w_ ⟨(q+1,(f++[46])++d,(L++[(Pc.mk 6 [] [] [] f d ((f++[46])++d) 0 0 0)]),k,v),by dsimp only;omega,by dsimp only;first|omega|(simp only[yae_,yap_,yaw_];omega),by dsimp only;rw[yae_,I];rfl,by dsimp only;rw[yak_];exact h,A⟩ zae_ zl (E_ (g_ f_) (g_ an_)) zh
 refine Zz 19 ?_;refine c_ (x_ ct_ rfl rfl) rfl (p_ u_ ab_ N_ rfl rfl rfl rfl rfl rfl λW=>?_);refine am_ (news:=Pc.cells (Pc.mk 6 [] [] [] f d x.role 0 0 0)) hU_ o rfl rfl zp rfl (aO_ 0 rfl) (λu hu=>dn_ (Pc.cells_one _) u hu) zay_ zaa_ rfl λk v C=>?_;refine s_ (@List.perm_append_comm _ _ [_,_]) ?_;have A:av_ 80 10 k (L++[(Pc.mk 6 [] [] [] f d x.role 0 0 0)]).length ((L++[(Pc.mk 6 [] [] [] f d x.role 0 0 0)]).flatMap Pc.cells) v:=by rw[yae_,yan_];simpa using C
 refine Zz 14 ?_;have U:List.drop (q+1) x.roles=d::List.drop (q+2) x.roles:=fd_ F;have M:(if List.drop (q+2) x.roles=[] then Ax.role x else f++[46]++d)=x.role:=by rw[yax_ (yaO_ zaa_)]
 rw[U]at h;simp only[Ax.chainL]at h;rw[M]at h;exact w_ ⟨(q+1,x.role,(L++[(Pc.mk 6 [] [] [] f d x.role 0 0 0)]),k,v),by dsimp only;omega,by dsimp only;first|omega|(simp only[yae_,yap_,yaw_];omega),by dsimp only;rw[yae_,I];rfl,by dsimp only;rw[yak_];exact h,A⟩ zae_ zl (E_ (g_ f_) (g_ an_)) zh
theorem Az_ {d:List Pw} {i k:Nat} {w:Pw} (h:d[i]? = some w):(List.flatMap Pw.l (d.take i)++List.take k w.l).length<=(d.flatMap Pw.l).length:=by
  have e:d=List.take i d++(w::List.drop (i+1) d):=by grind[fd_,List.take_append_drop]
  grind
theorem Cv_ {d:List Pw} {i:Nat} {w:Pw} (h:d[i]? = some w):List.flatMap Pw.l (List.take (i+1) d)=List.flatMap Pw.l (d.take i)++w.l:=by
  grind[List.take_add_one]
theorem ro_ (frm:Int) {A l:List Pc} {k:Nat} {y:Pc} (h:l[k]? = some y):fj_ frm [] (A++List.take (k+1) l)=ins frm (fj_ frm [] (A++List.take k l)) y:=by
  grind[List.take_add_one,cB_,gl_]
theorem nk_ {G:Prop} (h:G:=by
 obtain⟨u,R,he⟩:=ybS_.1 B.symm;have E:=ybB_ he;subst E;exact yaS_ R):G:=h
theorem nl_ {G:Prop} (h:G:=by
 have e:=ro_ frm (A:=(List.flatMap Pw.l (d.take i))) Y;rw[hJ]at e;unfold ins at e;rw[yax_ F]at e;exact w_ ⟨(k+1,L,Hw),G,by dsimp only;rw[e];exact o⟩ zae_ zl (g_ an_) zh):G:=h
theorem xN_ (d:List Pw) (ad:Ao) (cap:Nat) (frm:Int) (hl:d.length<=100) (ht:(d.flatMap Pw.l).length<=100000):Tri prog 98 #[.slice ad d.length cap,i4_ frm] [] [O_ ad (d.flatMap Pw.cells),pwF d] (λy:{y:Ao×Nat // (fj_ frm [] (d.flatMap Pw.l)).length<=y.2/\y.2<=maxLen/\(y.1=none->y.2=0)}=>.slice y.1.1 (fj_ frm [] (d.flatMap Pw.l)).length y.1.2) (λ_=>[]) (λy=>[O_ y.1.1 (List.flatMap Pc.cells (fj_ frm [] (d.flatMap Pw.l)))]):=by
 refine l_ func98 rfl rfl ntmps98 rfl λv_1=>?_;refine Zz 17 ?_;refine bc_ [(0,.slice ad d.length cap),(1,i4_ frm),(5,.slice none 0 0),(6,i4_ ((0:Nat):Int))] zl ?_;refine bs_ (ι:={y:Nat×Value×Hp // y.1<=d.length/\av_ 80 10 y.2.1 (fj_ frm [] (List.flatMap Pw.l (d.take y.1))).length ((fj_ frm [] (List.flatMap Pw.l (d.take y.1))).flatMap Pc.cells) y.2.2}) (λy=>[(0,.slice ad d.length cap),(1,i4_ frm),(5,y.1.2.1),(6,i4_ y.1.1)]) (λy=>y.1.2.2) (λ_=>_) (λy=>d.length - y.1.1) ⟨(0,.slice none 0 0,[]),by simp,av_.nil _ _⟩ ?_;rintro ⟨⟨i,sv,Hr⟩,hi,x⟩;dsimp only at hi x;dsimp only;refine bc_ [(0,.slice ad d.length cap),(1,i4_ frm),(5,sv),(6,i4_ i)] zl ?_;refine Zi 6 (λC=>?_) λC=>?_
 .refine Zz 12 ?_
  have et:List.take i d=d:=yac_ zaa_;rw[et]at x;refine I_ x an_ λO a0 hsv P a1 V=>?_;exact W_ results98 ⟨(O,a0),P,a1,V⟩ (cw_ rfl hsv) e_ zf
 have U:i<d.length:=by omega
 obtain⟨w,hw⟩:∃ K,d[i]? = some K:=⟨_,yaa_ U⟩;have T:w∈d:=yad_ hw;refine Zz 13 ?_;refine bc_ [(0,.slice ad d.length cap),(1,i4_ frm),(5,sv),(6,i4_ i),(7,i4_ ((0:Nat):Int))] zl ?_;refine bs_ (ι:={y:Nat×Value×Hp // y.1<=(Pw.l w).length/\av_ 80 10 y.2.1 (fj_ frm [] ((List.flatMap Pw.l (d.take i))++List.take y.1 (Pw.l w))).length ((fj_ frm [] ((List.flatMap Pw.l (d.take i))++List.take y.1 (Pw.l w))).flatMap Pc.cells) y.2.2}) (λy=>[(0,.slice ad d.length cap),(1,i4_ frm),(5,y.1.2.1),(6,i4_ i),(7,i4_ y.1.1)]) (λy=>y.1.2.2) (λ_=>_) (λy=>(Pw.l w).length - y.1.1) ⟨(0,sv,Hr),by simp,by simpa using x⟩ ?_;rintro ⟨⟨k,L,Hw⟩,hk,o⟩;dsimp only at hk o;dsimp only;have hfl:=Az_ (k:=k) hw;have Z:=ud_ frm ((List.flatMap Pw.l (d.take i))++List.take k (Pw.l w)) [];have hwl:=Az_ (k:=(Pw.l w).length) hw;rw[yae_,ybE_]at hwl;rw[yaw_]at Z;generalize hJ:(fj_ frm [] ((List.flatMap Pw.l (d.take i))++List.take k (Pw.l w)))=J at o Z
 refine bc_ [(0,.slice ad d.length cap),(1,i4_ frm),(5,L),(6,i4_ i),(7,i4_ k)] zl ?_;refine Zi 9 (λa2=>?_) λa2=>?_
 .refine Zz 11 ?_
  exact w_ ⟨(i+1,L,Hw),U,by dsimp only;rw[Cv_ hw];have:=o;rw[<-hJ,yac_ (show (Pw.l w).length<=k by omega)]at this;exact this⟩ zae_ zl an_ zh
 have G:k<List.length (Pw.l w):=by omega
 obtain⟨y,Y⟩:∃ K,(Pw.l w)[k]? = some K:=⟨_,yaa_ G⟩;refine Zz 14 ?_;refine c_ (J_ u_ ab_ rfl rfl (λv _ h=>az_ (n:=10) Pc.cells_len zaj_ (by exact (h.2.1 w T)) Y) zaa_ zah_) rfl ?_;refine c_ (ax_ (ad:=(Pw.ad w)) (us:=Pc.cells y) isAgg80 ab_ rfl (λv _ h=>by exact (h.2.1 w T)) (Pc.cells_len _) (t_ Pc.cells_len Y)) rfl (K_ N_ rfl λM=>o_ 0 ab_ rfl rfl rfl rfl rfl rfl (Zz 6 ?_));refine o_ 0 af_ rfl rfl rfl rfl rfl rfl (Zz 14 ?_);refine bc_ [(0,.slice ad d.length cap),(1,i4_ frm),(5,L),(6,i4_ i),(7,i4_ k),(8,zp_ M 0),(9,.bool false),(10,i4_ ((0:Nat):Int))] zl ?_;refine bs_ (ι:={z:Nat×Bool // z.1<=J.length/\z.2=(J.take z.1).any (λu=>decide (u=(Pc.mk y.kind y.a y.b y.c y.r y.s y.t y.lo y.hi frm)))}) (λz=>[(0,.slice ad d.length cap),(1,i4_ frm),(5,L),(6,i4_ i),(7,i4_ k),(8,zp_ M 0),(9,.bool z.1.2),(10,i4_ z.1.1)]) (λ_=>_) (λ_=>_) (λz=>J.length - z.1.1) ⟨(0,false),by simp,by simp⟩ ?_;rintro ⟨⟨n,m⟩,hn⟩;dsimp only at hn;obtain⟨hn_1,B⟩:=hn;refine bc_ [(0,.slice ad d.length cap),(1,i4_ frm),(5,L),(6,i4_ i),(7,i4_ k),(8,zp_ M 0),(9,.bool m),(10,i4_ n)] zl ?_;refine Zz 5 ?_;refine c_ (dF_ o u_ rfl) rfl ?_;refine Zi 0 (λS=>?_) λS=>?_
 .refine Zz 12 ?_
  refine c_ (aI_ rfl) rfl (Zz 2 ?_);cases m
  .have F:¬ (Pc.mk y.kind y.a y.b y.c y.r y.s y.t y.lo y.hi frm)∈J:=λq=>by
     rw[yac_ zaa_]at B;have:=List.any_eq_false.1 B.symm _ q;simp at this
   refine Zz 4 ?_;refine p_ u_ ab_ N_ rfl rfl rfl rfl rfl rfl λb_2=>?_;refine am_ (news:=Pc.cells (Pc.mk y.kind y.a y.b y.c y.r y.s y.t y.lo y.hi frm)) hU_ o rfl rfl (g_ (g_ an_)) rfl (aO_ 0 rfl) (λu R=>dn_ (Pc.cells_one _) u R) zay_ zaa_ rfl λH I C=>?_;refine s_ (@List.perm_append_comm _ _ [_,_]) ?_;have X:av_ 80 10 H (J++[(Pc.mk y.kind y.a y.b y.c y.r y.s y.t y.lo y.hi frm)]).length ((J++[(Pc.mk y.kind y.a y.b y.c y.r y.s y.t y.lo y.hi frm)]).flatMap Pc.cells) I:=by rw[yae_,yan_];simpa using C
   refine Zz 9 ?_;have e:=ro_ frm (A:=(List.flatMap Pw.l (d.take i))) Y;rw[hJ]at e;unfold ins at e;rw[yam_ F]at e;exact w_ ⟨(k+1,H,I),G,by dsimp only;rw[e];exact X⟩ zae_ zl zp zh
  have F:(Pc.mk y.kind y.a y.b y.c y.r y.s y.t y.lo y.hi frm)∈J:=by
    exact nk_
  refine Zz 9 ?_;exact nl_
 have Q:n<J.length:=by omega
 obtain⟨z,hz⟩:∃ z,J[n]? = some z:=⟨_,yaa_ Q⟩;refine Zz 4 ?_;refine c_ (aI_ rfl) rfl (Zz 3 ?_);cases m
 .refine Zz 6 ?_
  refine C_ 0 [0,1,2,3,4,5,6] zk zs (Zz 2 ?_);refine G_ rfl (bJ_ o u_ ab_ rfl rfl zaa_ zaa_) rfl (G_ rfl (fn_ (us:=Pc.cells z) o (g_ an_) isAgg80 ab_ rfl z.cells_len zaj_ (t_ Pc.cells_len hz)) rfl (Zz 1 ?_));refine kd_ rfl (xj_ (p:=z) (q:=(Pc.mk y.kind y.a y.b y.c y.r y.s y.t y.lo y.hi frm)) rfl rfl) rfl λr_1 W=>Zz 10 ?_
  exact w_ ⟨(n+1,r_1),Q,by dsimp only;rw[yL_ hz,<-B,yci_];exact W.symm⟩ zae_ zl an_ zh
 have F:(Pc.mk y.kind y.a y.b y.c y.r y.s y.t y.lo y.hi frm)∈J:=by
   exact nk_
 refine Zz 6 ?_;refine c_ (aI_ rfl) rfl (Zz 11 ?_);exact nl_
theorem bm_ (d:List Pw) (ad:Ao) (cap:Nat) (frm:Int) (hl:d.length<=100) (h:(d.flatMap Pw.l).length<=100000) {J:List Pc} (e:fj_ frm [] (d.flatMap Pw.l)=J) :
    Tri prog 98 #[.slice ad d.length cap,i4_ frm] [] [O_ ad (d.flatMap Pw.cells),pwF d] (λy:{y:Ao×Nat // J.length<=y.2/\y.2<=maxLen/\(y.1=none->y.2=0)}=>.slice y.1.1 J.length y.1.2) (λ_=>[]) (λy=>[O_ y.1.1 (J.flatMap Pc.cells)]):=by
  subst e
  grind[xN_]
theorem Con.has_empty {c:Con} (h:c.empty=true):c.has/\c.sz=1:=by
  simp only[Con.empty,yaJ_,ybZ_]at h;have d:c.parts=[]:=yau_ zaa_;exact⟨.inr ⟨h.1.1.1.1,d⟩,by rw[Con.sz_eq,d];rfl⟩
theorem Ax.sides {x:Ax} (y:x.check=0):(x.left.has/\x.left.sz<=64)/\(x.right.has/\x.right.sz<=64):=by
 have key:∀ c:Con,(c.check=0\/c.empty=true)->c.has/\c.sz<=64:=by
   intro c h;rcases h with h|h
   . exact⟨Con.has_of h,(Con.check_zero h).2⟩
   grind[Con.has_empty]
 have G:=Ax.good_of y
 have k:x.shaped=true:=by
   grind[Ax.check]
 have v:=G.k1;have u:=G.k9;unfold Ax.shaped at k;rw[yam_ zaa_]at k;simp only[yaJ_,ybj_]at k;refine⟨key _ ?_,key _ ?_⟩
 .by_cases h:x.kind<=3
  .exact .inl (G.left h)
  right
  have o:x.kind=4\/x.kind=5\/x.kind=6\/x.kind=7\/x.kind=8\/x.kind=9:=by omega
  have d:=k.1.1.1.1.1.1;rcases o with e|e|e|e|e|e<;>simpa [us,kQ_,e] using d
 by_cases h:x.kind<=4\/x.kind=8
 .exact .inl (G.right h)
 right
 have o:x.kind=5\/x.kind=6\/x.kind=7\/x.kind=9:=by omega
 have d:=k.1.1.1.1.1.2;rcases o with e|e|e|e<;>simpa [us,kQ_,e] using d
theorem hl_ {G:Prop} (h:G:=by
 dsimp only;refine Zz 3 ?_;refine C_ 0 [11] zk zs (Zz 5 ?_);exact fk_):G:=h
theorem hm_ {G:Prop} (h:G:=by
 dsimp only;refine Zz 3 ?_;refine C_ 0 [13] zk zs (Zz 5 ?_);exact fk_):G:=h
theorem fk_ {G:Prop} (h:G:=by
 exact W_ results171 ⟨(O,P),u⟩ rfl e_ zf):G:=h
set_option maxHeartbeats 4000000 in
theorem rOf1_c (x:Ax) (F:x.ok) (hc:x.check=0) (frm:Int):Tri prog 171 #[Ax.val x,i4_ frm] [] [Ax.memF x] (λy:{y:Ao×Nat // (Ax.pieces frm x).length<=y.2/\y.2<=maxLen/\(y.1=none->y.2=0)}=>.slice y.1.1 (Ax.pieces frm x).length y.1.2) (λ_=>[]) (λy=>[O_ y.1.1 (List.flatMap Pc.cells (Ax.pieces frm x))]):=by
 refine l_ func171 rfl rfl ntmps171 rfl λv_1=>?_;have G:=Ax.good_of hc;have S:=Ax.sides hc;have b4:=Con.rleft_len _ x.left (yab_ _);have a6:=Con.rright_len _ x.left (yab_ _);have c4:=Con.rleft_len _ x.right (yab_ _);have b_4:=Con.rright_len _ x.right (yab_ _);have hola:=F.a;have holb:=F.b;refine Zz 2 ?_;refine Q_ rfl rfl λb_5=>Zz 7 ?_
 refine d_ (lW_ x.left F.left S.1.1 (by have:=S.1.2;omega)) rfl e_ (λv _ h=>by exact⟨h.1.1,trivial⟩) rfl λ_=>?_;refine Zz 7 ?_;refine d_ (lW_ x.right F.right S.2.1 (by have:=S.2.2;omega)) rfl e_ (λv _ h=>by exact⟨h.1.2.1,trivial⟩) rfl λ_=>?_;refine Zi 13 (λb6=>?_) λb6=>?_
 .refine Zi 6 (λc5=>?_) λc5=>?_
  .refine Zi 6 (λb5=>?_) λb5=>?_
   .refine Zi 6 (λb9=>?_) λb9=>?_
    .refine Zi 6 (λb8=>?_) λb8=>?_
     .refine Zi 6 (λb7=>?_) λb7=>?_
      .refine Zi 6 (λb2=>?_) λb2=>?_
       .refine Zi 6 (λb0=>?_) λb0=>?_
        .refine Zz 8 ?_
         refine C_ 7 [0,1,3,4,5,6,11] zk zs (Zz 8 ?_);refine j_ 2 rfl zk (d_ (el_ x.a zaa_) rfl e_ zt rfl λ_=>Zz 3 ?_);refine j_ 7 rfl zk (d_ (el_ x.b zaa_) rfl e_ zt rfl λ_=>Zz 3 ?_);refine C_ 4 [8] zk zs (G_ rfl (x_ ct_ rfl rfl) rfl (bd_ (j_ 9 rfl zk (p_ u_ ab_ N_ rfl rfl rfl rfl rfl rfl λk=>?_))));refine R_ (List.flatMap Pc.cells [(Pc.mk 3 ([123]++x.a++[125]) [] ([123]++x.b++[125]) x.role [] [] 0 0 0)]) f_ rfl ?_;refine Zz 3 ?_;refine j_ 10 rfl zk (p_ aj_ aN_ aG_ rfl rfl rfl rfl rfl rfl λQ=>?_);refine R_ (List.flatMap Pw.cells [(Pw.mk [(Pc.mk 3 ([123]++x.a++[125]) [] ([123]++x.b++[125]) x.role [] [] 0 0 0)] (some ⟨k,0,none⟩) 1)]) f_ rfl ?_;refine Zz 3 ?_;refine j_ 12 rfl zk (d_ (bm_ [(Pw.mk [(Pc.mk 3 ([123]++x.a++[125]) [] ([123]++x.b++[125]) x.role [] [] 0 0 0)] (some ⟨k,0,none⟩) 1)] (some ⟨Q,0,none⟩) 1 frm zak_ zai_ (J:=x.pieces frm) zax_) rfl e_ (λv _ h=>by exact⟨h.1,(T_ h.2.1 bX_),trivial⟩) rfl λ⟨⟨O,P⟩,u⟩=>?_);exact hm_
        have Z:=Con.nameR_eq (G.right zaa_);refine Zz 6 ?_;refine C_ 6 [0,1,3,4,6,9] zk zs (Zz 7 ?_);refine j_ 2 rfl zk (d_ (ds_ _ x.right (yab_ _) F.right (G.right zaa_)) rfl e_ (λv _ h=>by exact⟨h.1.2.1,trivial⟩) rfl λ⟨⟨R,T⟩,C⟩=>?_);dsimp only;refine I_ C ag_ λe d o K L I=>?_;subst o;refine Zz 3 ?_;refine j_ 5 rfl zk (d_ (el_ x.a zaa_) rfl e_ zt rfl λ_=>Zz 3 ?_);refine j_ 7 rfl zk (d_ (jB_ ([123]++x.a++[125]) (Con.nameR x.right)) rfl e_ zt rfl λM=>Zz 3 ?_);refine j_ 8 rfl zk (p_ aj_ aN_ aG_ rfl rfl rfl rfl rfl rfl λk=>?_);refine R_ (List.flatMap Pw.cells [(Pw.mk (Con.rright x.right) e d),(Pw.mk [(Pc.mk 1 ([123]++x.a++[125]) [] (Con.nameR x.right) [] [] [] 0 0 0)] (some ⟨M,0,none⟩) 1)]) f_ rfl ?_;refine Zz 3 ?_;refine j_ 10 rfl zk (d_ (bm_ [(Pw.mk (Con.rright x.right) e d),(Pw.mk [(Pc.mk 1 ([123]++x.a++[125]) [] (Con.nameR x.right) [] [] [] 0 0 0)] (some ⟨M,0,none⟩) 1)] (some ⟨k,0,none⟩) 2 frm zak_ zai_ (J:=x.pieces frm) zax_) rfl e_ (λv _ h=>by exact⟨h.1,(T_ h.2.2.1 (T_ h.2.1 bX_)),trivial⟩) rfl λ⟨⟨O,P⟩,u⟩=>?_);exact hl_
       refine Zz 8 ?_;refine c_ (x_ ct_ rfl rfl) rfl (p_ u_ ab_ N_ rfl rfl rfl rfl rfl rfl λk=>?_);refine R_ (List.flatMap Pc.cells [(Pc.mk 7 [] [] [] x.role [] [] 0 0 0)]) f_ rfl ?_;refine p_ aj_ aN_ aG_ rfl rfl rfl rfl rfl rfl λQ=>?_;refine R_ (List.flatMap Pw.cells [(Pw.mk [(Pc.mk 7 [] [] [] x.role [] [] 0 0 0)] (some ⟨k,0,none⟩) 1)]) f_ rfl ?_;refine Zz 1 ?_;refine d_ (bm_ [(Pw.mk [(Pc.mk 7 [] [] [] x.role [] [] 0 0 0)] (some ⟨k,0,none⟩) 1)] (some ⟨Q,0,none⟩) 1 frm zak_ zai_ (J:=x.pieces frm) zax_) rfl e_ (λv _ h=>by exact⟨h.1,(T_ h.2.1 bX_),trivial⟩) rfl λ⟨⟨O,P⟩,u⟩=>?_;dsimp only;refine Zz 4 ?_;exact fk_
      have h_1:=G.chain zaa_;refine Zz 7 ?_;refine d_ (zB_ x F hc zaa_) rfl e_ zf rfl λ⟨⟨c0,c3⟩,hch⟩=>?_;dsimp only;refine p_ aj_ aN_ aG_ rfl rfl rfl rfl rfl rfl λk=>?_;refine R_ (List.flatMap Pw.cells [(Pw.mk (Ax.chainL x.role (x.roles.drop 1) (x.roles.headD [])) c0 c3)]) f_ rfl ?_;refine Zz 1 ?_;refine d_ (bm_ [(Pw.mk (Ax.chainL x.role (x.roles.drop 1) (x.roles.headD [])) c0 c3)] (some ⟨k,0,none⟩) 1 frm zak_ zai_ (J:=x.pieces frm) zax_) rfl e_ (λv _ h=>by exact⟨h.1,(T_ h.2.1 bX_),trivial⟩) rfl λ⟨⟨O,P⟩,u⟩=>?_;dsimp only;refine Zz 4 ?_;exact fk_
     have h_1:=G.one zaa_;have a7:0<x.roles.length:=by omega
     obtain⟨a0,b3⟩:∃ c6,x.roles[0]? = some c6:=⟨_,yaa_ a7⟩;have d1:x.roles.headD []=a0:=hQ_ b3;refine Zz 6 ?_;refine C_ 4 [0,1,2,3,4,5,6,9] zk zs (Zz 6 ?_);refine G_ rfl (x_ ct_ rfl rfl) rfl (Zz 2 ?_);refine j_ 7 rfl zk (p_ u_ ab_ N_ rfl rfl rfl rfl rfl rfl λk=>?_);refine R_ (List.flatMap Pc.cells [(Pc.mk 5 [] [] [] a0 [] x.role 0 0 0)]) f_ rfl ?_;refine Zz 3 ?_;refine j_ 8 rfl zk (p_ aj_ aN_ aG_ rfl rfl rfl rfl rfl rfl λQ=>?_);refine R_ (List.flatMap Pw.cells [(Pw.mk [(Pc.mk 5 [] [] [] a0 [] x.role 0 0 0)] (some ⟨k,0,none⟩) 1)]) f_ rfl ?_;refine Zz 3 ?_;refine j_ 10 rfl zk (d_ (bm_ [(Pw.mk [(Pc.mk 5 [] [] [] a0 [] x.role 0 0 0)] (some ⟨k,0,none⟩) 1)] (some ⟨Q,0,none⟩) 1 frm zak_ zai_ (J:=x.pieces frm) (by rw[Ax.pieces_ins];congr 1;unfold Ax.rpieces;rw[d1];simp[*])) rfl e_ (λv _ h=>by exact⟨h.1,(T_ h.2.1 bX_),trivial⟩) rfl λ⟨⟨O,P⟩,u⟩=>?_);exact hl_
    have Z:=Con.nameR_eq (G.right zaa_);refine Zz 6 ?_;refine C_ 5 [0,1,3,4,5,6,9] zk zs (Zz 5 ?_);refine G_ rfl (x_ ct_ rfl rfl) rfl (Zz 2 ?_);refine bx_ 2 7 rfl rfl zk ?_ ?_
    .refine d_ (ds_ _ x.right (yab_ _) F.right (G.right zaa_)) rfl e_ (λv _ h=>by exact⟨h.1.2.1,trivial⟩) rfl λ⟨⟨R,T⟩,C⟩=>?_
     dsimp only;refine I_ C ag_ λe d o K L I=>?_;subst o;refine Zz 3 ?_;refine j_ 7 rfl zk (p_ u_ ab_ N_ rfl rfl rfl rfl rfl rfl λk=>?_);refine R_ (List.flatMap Pc.cells [(Pc.mk 4 [42] [] (Con.nameR x.right) x.role [] [] 0 0 0)]) f_ rfl ?_;refine Zz 3 ?_;refine j_ 8 rfl zk (p_ aj_ aN_ aG_ rfl rfl rfl rfl rfl rfl λb4=>?_);refine R_ (List.flatMap Pw.cells [(Pw.mk (Con.rright x.right) e d),(Pw.mk [(Pc.mk 4 [42] [] (Con.nameR x.right) x.role [] [] 0 0 0)] (some ⟨k,0,none⟩) 1)]) f_ rfl ?_;refine Zz 3 ?_;refine j_ 10 rfl zk (d_ (bm_ [(Pw.mk (Con.rright x.right) e d),(Pw.mk [(Pc.mk 4 [42] [] (Con.nameR x.right) x.role [] [] 0 0 0)] (some ⟨k,0,none⟩) 1)] (some ⟨b4,0,none⟩) 2 frm zak_ zai_ (J:=x.pieces frm) zax_) rfl e_ (λv _ h=>by exact⟨h.1,(T_ h.2.2.1 (T_ h.2.1 bX_)),trivial⟩) rfl λ⟨⟨O,P⟩,u⟩=>?_);exact hl_
    refine p_ u_ ab_ N_ rfl rfl rfl rfl rfl rfl λa6=>?_;refine R_ (List.flatMap Pc.cells [(Pc.mk 4 [42] [] (Con.nameR x.right) x.role [] [] 0 0 0)]) f_ rfl ?_;refine Zz 3 ?_;refine j_ 2 rfl zk (d_ (ds_ _ x.right (yab_ _) F.right (G.right zaa_)) rfl e_ (λv _ h=>by exact⟨h.2.1.2.1,trivial⟩) rfl λ⟨⟨R,T⟩,C⟩=>?_);dsimp only;refine I_ C ag_ λe d o K L I=>?_;subst o;refine Zz 3 ?_;refine j_ 8 rfl zk (p_ aj_ aN_ aG_ rfl rfl rfl rfl rfl rfl λk=>?_);refine R_ (List.flatMap Pw.cells [(Pw.mk (Con.rright x.right) e d),(Pw.mk [(Pc.mk 4 [42] [] (Con.nameR x.right) x.role [] [] 0 0 0)] (some ⟨a6,0,none⟩) 1)]) f_ rfl ?_;refine Zz 3 ?_;refine j_ 10 rfl zk (d_ (bm_ [(Pw.mk (Con.rright x.right) e d),(Pw.mk [(Pc.mk 4 [42] [] (Con.nameR x.right) x.role [] [] 0 0 0)] (some ⟨a6,0,none⟩) 1)] (some ⟨k,0,none⟩) 2 frm zak_ zai_ (J:=x.pieces frm) zax_) rfl e_ (λv _ h=>by exact⟨h.1,(T_ h.2.1 (T_ h.2.2.1 bX_)),trivial⟩) rfl λ⟨⟨O,P⟩,u⟩=>?_);exact hl_
   have c1:=Con.nameR_eq (G.left zaa_);have Z:=Con.nameR_eq (G.right zaa_);refine Zz 6 ?_;refine C_ 6 [0,1,3,4,6,7,8,11] zk zs (Zz 6 ?_);refine G_ rfl (x_ ct_ rfl rfl) rfl (Zz 2 ?_);refine bx_ 2 9 rfl rfl zk ?_ ?_
   .refine d_ (cR_ _ x.left (yab_ _) F.left (G.left zaa_)) rfl e_ (λv _ h=>by exact⟨h.1.1,trivial⟩) rfl λ⟨⟨R,T⟩,C⟩=>?_
    dsimp only;refine I_ C ag_ λe d o K L I=>?_;subst o;refine Zz 3 ?_;refine bx_ 5 9 rfl rfl zk ?_ ?_
    .refine d_ (cR_ _ x.right (yab_ _) F.right (G.right zaa_)) rfl e_ (λv _ h=>by exact⟨h.2.1.2.1,trivial⟩) rfl λ⟨⟨Y,X⟩,H⟩=>?_
     dsimp only;refine I_ H ag_ λA B E W V U=>?_;subst E;refine Zz 3 ?_;refine j_ 9 rfl zk (p_ u_ ab_ N_ rfl rfl rfl rfl rfl rfl λk=>?_);refine R_ (List.flatMap Pc.cells [(Pc.mk 2 (Con.nameR x.left) (Con.nameR x.right) [33] [] [] [] 0 0 0)]) f_ rfl ?_;refine Zz 3 ?_;refine j_ 10 rfl zk (p_ aj_ aN_ aG_ rfl rfl rfl rfl rfl rfl λQ=>?_);refine R_ (List.flatMap Pw.cells [(Pw.mk (Con.rleft x.left) e d),(Pw.mk (Con.rleft x.right) A B),(Pw.mk [(Pc.mk 2 (Con.nameR x.left) (Con.nameR x.right) [33] [] [] [] 0 0 0)] (some ⟨k,0,none⟩) 1)]) f_ rfl ?_;refine Zz 3 ?_;refine j_ 12 rfl zk (d_ (bm_ [(Pw.mk (Con.rleft x.left) e d),(Pw.mk (Con.rleft x.right) A B),(Pw.mk [(Pc.mk 2 (Con.nameR x.left) (Con.nameR x.right) [33] [] [] [] 0 0 0)] (some ⟨k,0,none⟩) 1)] (some ⟨Q,0,none⟩) 3 frm zak_ zai_ (J:=x.pieces frm) zax_) rfl e_ (λv _ h=>by exact⟨h.1,(T_ h.2.2.2.1 (T_ h.2.2.1 (T_ h.2.1 bX_))),trivial⟩) rfl λ⟨⟨O,P⟩,u⟩=>?_);exact hm_
    refine p_ u_ ab_ N_ rfl rfl rfl rfl rfl rfl λk=>?_;refine R_ (List.flatMap Pc.cells [(Pc.mk 2 (Con.nameR x.left) (Con.nameR x.right) [33] [] [] [] 0 0 0)]) f_ rfl ?_;refine Zz 3 ?_;refine j_ 5 rfl zk (d_ (cR_ _ x.right (yab_ _) F.right (G.right zaa_)) rfl e_ (λv _ h=>by exact⟨h.2.2.1.2.1,trivial⟩) rfl λ⟨⟨Y,X⟩,H⟩=>?_);dsimp only;refine I_ H ag_ λA B E W V U=>?_;subst E;refine Zz 3 ?_;refine j_ 10 rfl zk (p_ aj_ aN_ aG_ rfl rfl rfl rfl rfl rfl λQ=>?_);refine R_ (List.flatMap Pw.cells [(Pw.mk (Con.rleft x.left) e d),(Pw.mk (Con.rleft x.right) A B),(Pw.mk [(Pc.mk 2 (Con.nameR x.left) (Con.nameR x.right) [33] [] [] [] 0 0 0)] (some ⟨k,0,none⟩) 1)]) f_ rfl ?_;refine Zz 3 ?_;refine j_ 12 rfl zk (d_ (bm_ [(Pw.mk (Con.rleft x.left) e d),(Pw.mk (Con.rleft x.right) A B),(Pw.mk [(Pc.mk 2 (Con.nameR x.left) (Con.nameR x.right) [33] [] [] [] 0 0 0)] (some ⟨k,0,none⟩) 1)] (some ⟨Q,0,none⟩) 3 frm zak_ zai_ (J:=x.pieces frm) zax_) rfl e_ (λv _ h=>by exact⟨h.1,(T_ h.2.2.2.1 (T_ h.2.1 (T_ h.2.2.1 bX_))),trivial⟩) rfl λ⟨⟨O,P⟩,u⟩=>?_);exact hm_
   refine p_ u_ ab_ N_ rfl rfl rfl rfl rfl rfl λk=>?_;refine R_ (List.flatMap Pc.cells [(Pc.mk 2 (Con.nameR x.left) (Con.nameR x.right) [33] [] [] [] 0 0 0)]) f_ rfl ?_;refine Zz 3 ?_;refine j_ 2 rfl zk (d_ (cR_ _ x.left (yab_ _) F.left (G.left zaa_)) rfl e_ (λv _ h=>by exact⟨h.2.1.1,trivial⟩) rfl λ⟨⟨R,T⟩,C⟩=>?_);dsimp only;refine I_ C ag_ λe d o K L I=>?_;subst o;refine Zz 3 ?_;refine j_ 5 rfl zk (d_ (cR_ _ x.right (yab_ _) F.right (G.right zaa_)) rfl e_ (λv _ h=>by exact⟨h.2.2.1.2.1,trivial⟩) rfl λ⟨⟨Y,X⟩,H⟩=>?_);dsimp only;refine I_ H ag_ λA B E W V U=>?_;subst E;refine Zz 3 ?_;refine j_ 10 rfl zk (p_ aj_ aN_ aG_ rfl rfl rfl rfl rfl rfl λQ=>?_);refine R_ (List.flatMap Pw.cells [(Pw.mk (Con.rleft x.left) e d),(Pw.mk (Con.rleft x.right) A B),(Pw.mk [(Pc.mk 2 (Con.nameR x.left) (Con.nameR x.right) [33] [] [] [] 0 0 0)] (some ⟨k,0,none⟩) 1)]) f_ rfl ?_;refine Zz 3 ?_;refine j_ 12 rfl zk (d_ (bm_ [(Pw.mk (Con.rleft x.left) e d),(Pw.mk (Con.rleft x.right) A B),(Pw.mk [(Pc.mk 2 (Con.nameR x.left) (Con.nameR x.right) [33] [] [] [] 0 0 0)] (some ⟨k,0,none⟩) 1)] (some ⟨Q,0,none⟩) 3 frm zak_ zai_ (J:=x.pieces frm) zax_) rfl e_ (λv _ h=>by exact⟨h.1,(T_ h.2.2.1 (T_ h.2.1 (T_ h.2.2.2.1 bX_))),trivial⟩) rfl λ⟨⟨O,P⟩,u⟩=>?_);exact hm_
  have c1:=Con.nameR_eq (G.left zaa_);have Z:=Con.nameR_eq (G.right zaa_);refine Zz 6 ?_;refine C_ 9 [0,1,3,4,6,7,9,10,12,13,15,16,19] zk zs (Zz 14 ?_);refine j_ 2 rfl zk (d_ (cR_ _ x.left (yab_ _) F.left (G.left zaa_)) rfl e_ (λv _ h=>by exact⟨h.1.1,trivial⟩) rfl λ⟨⟨R,T⟩,C⟩=>?_);dsimp only;refine I_ C ag_ λe d o K L I=>?_;subst o;refine Zz 3 ?_;refine j_ 5 rfl zk (d_ (ds_ _ x.right (yab_ _) F.right (G.right zaa_)) rfl e_ (λv _ h=>by exact⟨h.2.1.2.1,trivial⟩) rfl λ⟨⟨Y,X⟩,H⟩=>?_);dsimp only;refine I_ H ag_ λA B E W V U=>?_;subst E;refine Zz 3 ?_;refine j_ 8 rfl zk (d_ (jB_ (Con.nameR x.left) (Con.nameR x.right)) rfl e_ zt rfl λM=>Zz 3 ?_);refine j_ 11 rfl zk (d_ (cR_ _ x.right (yab_ _) F.right (G.right zaa_)) rfl e_ (λv _ h=>by exact⟨h.2.2.2.1.2.1,trivial⟩) rfl λ⟨⟨sl_3,HL_3⟩,b1⟩=>?_);dsimp only;refine I_ b1 ag_ λa4 a5 a8 hca_3 c8 c7=>?_;subst a8;refine Zz 3 ?_;refine j_ 14 rfl zk (d_ (ds_ _ x.left (yab_ _) F.left (G.left zaa_)) rfl e_ (λv _ h=>by exact⟨h.2.2.2.2.1.1,trivial⟩) rfl λ⟨⟨sl_4,HL_4⟩,c2⟩=>?_);dsimp only;refine I_ c2 ag_ λa2 a1 a9 hca_4 d0 c9=>?_;subst a9;refine Zz 3 ?_;refine j_ 17 rfl zk (d_ (jB_ (Con.nameR x.right) (Con.nameR x.left)) rfl e_ zt rfl λa3=>Zz 3 ?_);refine j_ 18 rfl zk (p_ aj_ aN_ aG_ rfl rfl rfl rfl rfl rfl λk=>?_);refine R_ (List.flatMap Pw.cells [(Pw.mk (Con.rleft x.left) e d),(Pw.mk (Con.rright x.right) A B),(Pw.mk [(Pc.mk 1 (Con.nameR x.left) [] (Con.nameR x.right) [] [] [] 0 0 0)] (some ⟨M,0,none⟩) 1),(Pw.mk (Con.rleft x.right) a4 a5),(Pw.mk (Con.rright x.left) a2 a1),(Pw.mk [(Pc.mk 1 (Con.nameR x.right) [] (Con.nameR x.left) [] [] [] 0 0 0)] (some ⟨a3,0,none⟩) 1)]) f_ rfl ?_;refine Zz 3 ?_;refine j_ 20 rfl zk (d_ (bm_ [(Pw.mk (Con.rleft x.left) e d),(Pw.mk (Con.rright x.right) A B),(Pw.mk [(Pc.mk 1 (Con.nameR x.left) [] (Con.nameR x.right) [] [] [] 0 0 0)] (some ⟨M,0,none⟩) 1),(Pw.mk (Con.rleft x.right) a4 a5),(Pw.mk (Con.rright x.left) a2 a1),(Pw.mk [(Pc.mk 1 (Con.nameR x.right) [] (Con.nameR x.left) [] [] [] 0 0 0)] (some ⟨a3,0,none⟩) 1)] (some ⟨k,0,none⟩) 6 frm zak_ zai_ (J:=x.pieces frm) zax_) rfl e_ (λv _ h=>by exact⟨h.1,(T_ h.2.2.2.2.2.2.1 (T_ h.2.2.2.2.2.1 (T_ h.2.2.2.2.1 (T_ h.2.2.2.1 (T_ h.2.2.1 (T_ h.2.1 bX_)))))),trivial⟩) rfl λ⟨⟨O,P⟩,u⟩=>?_);dsimp only;refine Zz 3 ?_;refine C_ 0 [21] zk zs (Zz 5 ?_);exact fk_
 have c1:=Con.nameR_eq (G.left zaa_);have Z:=Con.nameR_eq (G.right zaa_);refine Zz 6 ?_;refine C_ 6 [0,1,3,4,6,7,10] zk zs (Zz 8 ?_);refine j_ 2 rfl zk (d_ (cR_ _ x.left (yab_ _) F.left (G.left zaa_)) rfl e_ (λv _ h=>by exact⟨h.1.1,trivial⟩) rfl λ⟨⟨R,T⟩,C⟩=>?_);dsimp only;refine I_ C ag_ λe d o K L I=>?_;subst o;refine Zz 3 ?_;refine j_ 5 rfl zk (d_ (ds_ _ x.right (yab_ _) F.right (G.right zaa_)) rfl e_ (λv _ h=>by exact⟨h.2.1.2.1,trivial⟩) rfl λ⟨⟨Y,X⟩,H⟩=>?_);dsimp only;refine I_ H ag_ λA B E W V U=>?_;subst E;refine Zz 3 ?_;refine j_ 8 rfl zk (d_ (jB_ (Con.nameR x.left) (Con.nameR x.right)) rfl e_ zt rfl λM=>Zz 3 ?_);refine j_ 9 rfl zk (p_ aj_ aN_ aG_ rfl rfl rfl rfl rfl rfl λc4=>?_);refine R_ (List.flatMap Pw.cells [(Pw.mk (Con.rleft x.left) e d),(Pw.mk (Con.rright x.right) A B),(Pw.mk [(Pc.mk 1 (Con.nameR x.left) [] (Con.nameR x.right) [] [] [] 0 0 0)] (some ⟨M,0,none⟩) 1)]) f_ rfl ?_;refine Zz 3 ?_;refine j_ 11 rfl zk (d_ (bm_ [(Pw.mk (Con.rleft x.left) e d),(Pw.mk (Con.rright x.right) A B),(Pw.mk [(Pc.mk 1 (Con.nameR x.left) [] (Con.nameR x.right) [] [] [] 0 0 0)] (some ⟨M,0,none⟩) 1)] (some ⟨c4,0,none⟩) 3 frm zak_ zai_ (J:=x.pieces frm) zax_) rfl e_ (λv _ h=>by exact⟨h.1,(T_ h.2.2.2.1 (T_ h.2.2.1 (T_ h.2.1 bX_))),trivial⟩) rfl λ⟨⟨O,P⟩,u⟩=>?_);dsimp only;refine Zz 3 ?_;refine C_ 0 [12] zk zs (Zz 5 ?_);exact fk_
end Go.Proofs.YtbffkokbdeppaaaGreatDoor
namespace Go.Sx
open Go
section
variable {P:Program} {N:Nf} {v0:Vw} {H0:Hp} {R:Exit->Act->World->Prop} {K:List Kt} {fr:Fr} {H F:Hp} {Γ:List Fct} {ops:Array Oper} {l:List Oper} {ty:TypeId} {ps:String} {af:Array Edge} {e:TypeId} {sz n:Nat} {sv:Value} {xs:List Value} {Hr:Hp}
theorem zd_ {α:Type} (l:List α) (k m:Nat) (u:α) (h:k<m) (hm:m<=l.length):(l.take k++[u]++l.drop (k+1)).take m=(l.take m).set k u:=by
 apply yaT_
 intro j;rw[ybM_,yck_,yat_]
 by_cases d:j<m
 .rw[yax_ d]
  by_cases v:j<k
  .grind
  by_cases o:j=k
  .grind
  grind
 grind
theorem eu_ {t:TypeId} {x y:Operand} {k:Nat} {u:Value} (d:av_ e sz sv n xs Hr) (A:H.Perm (Hr++F)) (G:∀ w,(sizeOf t).run P w=.ok 1 w) (I:Fr.ev fr x=some (.pointer (some ⟨svB sv,k,none⟩))) (v:Fr.ev fr y=some u) (O:k<n*sz) (C:u.cells=#[u]) (B:u.oneCell'=true)
    (h:∀ Hr',av_ e sz sv n (xs.set k u) Hr'->Ops P R N v0 H0 ops l K fr (Hr'++F) Γ):Ops P R N v0 H0 ops (⟨none,.store t x y,ty,ps,af,none⟩::l) K fr H Γ:=by
  rcases d.2 with⟨_,M,_⟩|⟨g,cap,cur,rfl,rfl,o,J,S,Q⟩
  . grind
  . have L:n*sz<=cap*sz:=ybc_ _ o
    refine s_ A (o_ (b:=g) (off:=k) 0 G I v rfl zap_ ?_ zap_ ?_)
    . have E:k+1<=cur.size:=by grind
      simpa using E
    . rw[C]
      refine h [(g,.cells (cur.toList.take k++[u]++cur.toList.drop (k+1)).toArray e (0,0))] ⟨by grind,.inr ⟨g,cap,_,rfl,rfl,o,J,?_,?_⟩⟩
      all_goals grind[zd_]
theorem gZ_ {α:Type} (f:α->List Value) (z:Nat) (d:∀ x,(f x).length=z):∀ (l:List α) (i j:Nat) (x y:α) (u:Value),l[i]? = some x->j<z->f y=(f x).set j u->(l.flatMap f).set (i*z+j) u=(l.set i y).flatMap f
  | [],i,_,_,_,_,h,_,_=>by simp at h
  | a::l,0,j,x,y,u,h,hj,he=>by
    grind
  | a::l,i+1,j,x,y,u,h,hj,he=>by
    simp only[ybp_]at h;rw[yaR_,ycy_,yaR_,<-gZ_ f z d l i j x y u h hj he,List.set_append_right _ _ zap_,d]
    grind
theorem vU_ {t h:TypeId} {x:Operand} {k d:IntKind} {m r:Int} {u:TypeDesc} (B:P.underlying t=some u) (o:P.underlying h=some (.int d)) (C:Fr.ev fr x=some (.int k m)) (y:IntKind.wrap d m=r):Yld P N fr H Γ (.convert t h x) ty (.int d r) :=
  λa v A _ _ _ _ _=>by subst y;simp[execOp,A.ev C,convert,run_underlying B,run_underlying o,Conv.intToInt]
theorem wrapU {r:Int} (d:0<=r) (h:r<=18446744073709551615):IntKind.wrap .u64 r=r:=by
  grind[IntKind.wrap,IntKind.signed,IntKind.bits]
end
end Go.Sx
namespace Go.Sx
open Go
section
variable {P:Program} {N:Nf} {v0:Vw} {H0:Hp} {R:Exit->Act->World->Prop} {K:List Kt} {fr:Fr} {H F:Hp} {Γ:List Fct} {ops:Array Oper} {l:List Oper} {ty:TypeId} {ps:String} {af:Array Edge} {e:TypeId} {sz n:Nat} {sv:Value} {xs:List Value} {Hr:Hp}
theorem xn_ {α:Type} (l us:List α) (k m:Nat) (d:k+us.length<=m) (hm:m<=l.length):(l.take k++us++l.drop (k+us.length)).take m=(l.take m).take k++us++(l.take m).drop (k+us.length):=by
  rw[List.take_take,ybk_ zaa_,ydc_,yac_ zap_]
  grind[List.drop_take]
theorem ps_ {t:TypeId} {x y:Operand} {k:Nat} {us:List Value} (d:av_ e sz sv n xs Hr) (B:H.Perm (Hr++F)) (G:∀ w,(sizeOf t).run P w=.ok sz w) (I:Fr.ev fr x=some (.pointer (some ⟨svB sv,k,none⟩))) (A:Fr.ev fr y=some (.agg us.toArray)) (S:k+sz<=n*sz) (o:us.length=sz) (O:0<sz) (C:us.all Value.oneCell'=true)
    (h:∀ Hr',av_ e sz sv n (xs.take k++us++xs.drop (k+sz)) Hr'->Ops P R N v0 H0 ops l K fr (Hr'++F) Γ):Ops P R N v0 H0 ops (⟨none,.store t x y,ty,ps,af,none⟩::l) K fr H Γ:=by
  rcases d.2 with⟨_,Q,_⟩|⟨g,cap,cur,rfl,rfl,u,L,T,J⟩
  . grind
  . have M:n*sz<=cap*sz:=ybc_ _ u
    have v:=d.1;refine s_ B (o_ (b:=g) (off:=k) (n:=sz) 0 G I A rfl (by grind[Value.cells]) ?_ (by grind[Value.cells]) ?_)
    . have E:k+sz<=cur.size:=by grind
      simpa using E
    . refine h [(g,.cells (cur.toList.take k++us++cur.toList.drop (k+sz)).toArray e (0,0))] ⟨by grind,.inr ⟨g,cap,_,rfl,rfl,u,L,?_,?_⟩⟩
      . grind
      . show ((cur.toList.take k++us++cur.toList.drop (k+sz)).toArray).toList.take (n*sz)=_
        rw[ycR_,<-J];have:=xn_ cur.toList us k (n*sz) zaa_ zap_;rw[o]at this;exact this
theorem sw_ {α:Type} (f:α->List Value) (z:Nat) (d:∀ x,(f x).length=z):∀ (l:List α) (i:Nat) (y:α),i<l.length->(l.flatMap f).take (i*z)++f y++(l.flatMap f).drop (i*z+z)=(l.set i y).flatMap f
  | [],i,y,h=>by simp at h
  | a::l,0,y,h=>by
    grind
  | a::l,i+1,y,h=>by
    have k:i<l.length:=by grind
    rw[yaR_,ycy_,yaR_,<-sw_ f z d l i y k,Nat.succ_mul,ydc_,yac_ zap_,List.drop_append,yaO_ zap_,d]
    grind
end
end Go.Sx
namespace Go.Sx
open Go
section
variable {P:Program} {N:Nf} {v0:Vw} {H0:Hp} {R:Exit->Act->World->Prop} {K:List Kt} {fr:Fr} {H F:Hp} {Γ:List Fct} {ops:Array Oper} {l:List Oper} {d:Nat} {ty:TypeId} {ps:String} {af:Array Edge} {e:TypeId} {sz n:Nat} {sv:Value} {xs:List Value} {Hr:Hp}
def svK:Value->Nat
  | .slice _ _ c=>c
  | _=>0
def svT (sv:Value) (n k sz:Nat):Value:=.slice (some ⟨svB sv,k*sz,none⟩) (n - k) (svK sv - k)
theorem sT_ {x y:Operand} {t o:TypeId} {kl:IntKind} {k:Nat} (h:av_ e sz sv n xs Hr) (v:∀ w,(underlying t).run P w=.ok (.slice o) w) (B:∀ w,(sizeOf o).run P w=.ok sz w) (C:Fr.ev fr x=some sv) (u:Fr.ev fr y=some (.int kl (k:Int))) (G:k<n) :
    Yld P N fr H Γ (.slice t x (some y) none none) ty (svT sv n k sz):=by
  rcases h.2 with⟨_,E,_⟩|⟨g,cap,cur,rfl,rfl,A,J,L,I⟩
  . omega
  . refine aD_ (cq_ (i:=k) (j:=n) (kl:=kl) (kh:=.i64) v B C u rfl zaa_ A) ?_
    grind[svT,sad,da_,svB,svK]
theorem xi_ {x:Operand} {t o:TypeId} {k:Nat} (h:∀ w,(underlying t).run P w=.ok (.slice o) w) (u:Fr.ev fr x=some (svT sv n k sz)):Yld P N fr H Γ (.call ⟨.builtin .len,#[x],#[t]⟩) ty (.int .i64 ((n - k:Nat):Int)):=dS_ h u
theorem rM_ {x y:Operand} {t h:TypeId} {k j:Nat} (u:∀ w,(underlying t).run P w=.ok (.slice h) w) (v:∀ w,(sizeOf h).run P w=.ok sz w) (A:Fr.ev fr x=some (svT sv n k sz)) (o:Fr.ev fr y=some (.int .i64 (j:Int))) (B:j<n - k) :
    Yld P N fr H Γ (.indexAddr t x y) ty (.pointer (some ⟨svB sv,((k+j:Nat):Int).toNat*sz,none⟩)):=by
  refine aD_ (ka_ u v A o zaa_ zaa_) ?_
  grind[Int.toNat_natCast]
theorem cutRow (h:av_ e sz sv n xs Hr) {k:Nat} (J:k<=n) (I:0<n):∃ o,av_ e sz o k (xs.take (k*sz)) Hr/\
    ∀ {N:Nf} {fr:Fr} {H:Hp} {Γ:List Fct} {ty t:TypeId} {x y:Operand},(∀ w,(underlying t).run P w=.ok (.slice e) w)->(∀ w,(sizeOf e).run P w=.ok sz w)->Fr.ev fr x=some sv->Fr.ev fr y=some (.int .i64 (k:Int))->Yld P N fr H Γ (.slice t x none (some y) none) ty o:=by
  obtain⟨hl,⟨_,G,_⟩|⟨g,cap,cur,rfl,rfl,v,hm,E,u⟩⟩:=h
  . omega
  . refine⟨.slice (some ⟨g,0,none⟩) k cap,⟨?_,.inr ⟨g,cap,cur,rfl,rfl,by omega,hm,E,?_⟩⟩,λB C u A=>?_⟩
    . grind[Nat.mul_le_mul_right]
    . grind[Nat.mul_le_mul_right]
    . refine aD_ (cq_ (i:=0) (j:=k) (kl:=.i64) (kh:=.i64) B C u rfl A (yaV_ _) zaa_) ?_
      grind[sad,da_]
theorem vo_ {x:Operand} {t:TypeId} {k:Nat} {z:Value} (o:av_ e sz sv n xs Hr) (hH:H.Perm (Hr++F)) (hu:∀ w,(underlying t).run P w=.ok (.slice e) w) (hz:∀ w,(zeroValue e).run P w=.ok z w) (Q:z.cells.size=sz) (Z:z.cells.toList.all Value.oneCell'=true) (hsz:0<sz)
    (hx:Fr.ev fr x=some (svT sv n k sz)) (hk:k<n)
    (h:∀ Hr' zs,zs.length=(n - k)*sz->av_ e sz sv n (xs.take (k*sz)++zs) Hr'->Ops P R N v0 H0 ops l K fr (Hr'++F) Γ):Ops P R N v0 H0 ops (⟨none,.call ⟨.builtin .clear,#[x],#[t]⟩,ty,ps,af,none⟩::l) K fr H Γ:=by
  rcases o.2 with⟨_,h2,_⟩|⟨g,cap,cur,rfl,rfl,V,X,O,h6⟩
  . omega
  . have hle:n*sz<=cap*sz:=ybc_ _ V
    have y:k*sz<=n*sz:=ybc_ _ zaa_;obtain⟨m,hm⟩:∃ m,n - k=m+1:=⟨n - k - 1,by omega⟩;have u:(Builtin.zeroCells z.cells (n - k)).toList.length=(n - k)*sz:=by simp[Builtin.zeroCells,Q]
    have B:k*sz+(n - k)*sz=n*sz:=by rw[<-ycE_];congr 1;omega
    refine s_ hH (dl_ rfl λa v U M g3 g4=>?_);have T:=(M.own _ yaq_).1
    have A:=run_storeCells_at P g (k*sz) e (Builtin.zeroCells z.cells (n - k)).toList 0 cur v.w T (by rw[u,O];omega) (λc I=>by
      have C:0<z.cells.size:=by omega
      simp only[Builtin.zeroCells,Array.toList_map,Array.toList_range,yaM_,ycq_]at I;obtain⟨i,_,rfl⟩:=I;have L:i%z.cells.size<z.cells.size:=Nat.mod_lt _ C;rw[getElem!_pos z.cells _ L];exact ybn_.1 Z _ zak_)
    have he:(execOp a.eval ⟨none,.call ⟨.builtin .clear,#[x],#[t]⟩,ty,ps,af,none⟩).run P v.w=.ok (.value (.tuple #[])) (v.w.setRow g (cur.toList.take (k*sz)++(Builtin.zeroCells z.cells (n - k)).toList++cur.toList.drop (k*sz+(n - k)*sz)).toArray):=by
      rw[u]at A;simp only[Nat.add_zero]at A
      have J:a.eval x=.slice (some ⟨g,k*sz,none⟩) (m+1) (cap - k):=by
        have:=U.ev hx;rw[this];unfold svT;rw[hm];rfl
      rw[hm]at A ⊢;simp[execOp,resolve,invoke,builtin,J,Builtin.clear_,hu,hz,A]
    unfold Oper.wp;rw[he];obtain⟨Y,W⟩:=fw_ (i:=0) (w':=v.w.setRow g (cur.toList.take (k*sz)++(Builtin.zeroCells z.cells (n - k)).toList++cur.toList.drop (k*sz+(n - k)*sz)).toArray) M rfl rfl rfl rfl (yab_ _) zak_ (setRow_heap _ _ _ _ _ _ T) (λc I=>setRow_other _ _ _ _ I);refine h [(g,.cells (cur.toList.take (k*sz)++(Builtin.zeroCells z.cells (n - k)).toList++cur.toList.drop (k*sz+(n - k)*sz)).toArray e (0,0))] (Builtin.zeroCells z.cells (n - k)).toList u ⟨?_,.inr ⟨g,cap,_,rfl,rfl,V,X,?_,?_⟩⟩ _ _ U Y (g3.trans W) (ba_ (W.le M) g4)
    . rw[yae_,yat_,u,o.1,ybk_ y];exact B
    . simp only[ycD_,yae_,yat_,ybD_,ycr_,O,u,B]
      omega
    . have G:(cur.toList.take (k*sz)).length=k*sz:=by rw[yat_,ycr_,O];omega
      rw[ycR_]
      apply yaT_
      intro j;rw[ybM_]
      by_cases S:j<n*sz
      . rw[yax_ S]
        by_cases E:j<k*sz
        . rw[yak_,ybw_ zaa_,ybw_ (by rw[yat_,o.1];omega),ybM_,yax_ E,ybM_,yax_ E,<-h6,ybM_,yax_ S]
        . rw[ybw_ (by rw[yae_,G,u];omega),ybR_ zaa_,G,ybR_ (by rw[yat_,o.1];omega),yat_,o.1,ybk_ y]
      . rw[yam_ S,List.getElem?_eq_none (by rw[yae_,yat_,u,o.1,ybk_ y];omega)]
end
end Go.Sx
namespace Go.Vs
def cpG {α:Type} (q:α->α->Bool):α->List α->List α
  | _,[]=>[]
  | x,y::l=>if q y x then cpG q y l else y::cpG q y l
def cpL {α:Type} (q:α->α->Bool):List α->List α
  | []=>[]
  | x::l=>x::cpG q x l
theorem uq_ {α:Type} {q:α->α->Bool}:∀ (l:List α) (x z w:α),(x::l)[l.length]? = some w->cpG q x (l++[z])=cpG q x l++(if q z w then [] else [z])
  | [],x,z,w,h=>by
    grind[cpG]
  | y::l,x,z,w,h=>by
    simp only[yap_,ybp_]at h;simp only[yaL_,cpG];have:=uq_ (q:=q) l y z w h
    grind
theorem mo_ {α:Type} {q:α->α->Bool} {l:List α} {p:Nat} {w z:α} (h:l[p]? = some w) (k:l[p+1]? = some z):cpL q (l.take (p+2))=cpL q (l.take (p+1))++(if q z w then [] else [z]):=by
  cases l<;>grind[List.getElem?_eq_some_iff,List.take_add_one,cpL,uq_]
theorem CG_ {α:Type} {q:α->α->Bool} (l:List α):(cpL q l).length<=l.length:=by
  cases l with
  | nil=>simp[cpL]
  | cons x l =>
    simp only[cpL,yap_]
    have:∀ (l:List α) (x:α),(cpG q x l).length<=l.length:=by
      intro l
      induction l<;>grind[cpG]
    grind
theorem sF_ {α:Type} {q:α->α->Bool}:∀ (l:List α) (x z:α),z∈cpG q x l->z∈l
 | [],_,_,h=>by grind[cpG]
 | y::l,x,z,h=>by
   simp only[cpG]at h
   split at h
   . exact yaN_ _ (sF_ l y z h)
   . rcases yar_.1 h with rfl|h
     . simp
     . exact yaN_ _ (sF_ l y z h)
theorem sE_ {α:Type} {q:α->α->Bool} {l:List α} {z:α} (h:z∈cpL q l):z∈l:=by
  cases l<;>grind[cpL,sF_]
structure CmI {α:Type} (q:α->α->Bool) (S M:List α) (k p:Nat):Prop where
  len:M.length=S.length
  kp:k<p
  pl:p<=S.length
  rest:∀ j,k<=j->M[j]? = S[j]?
  fst:M.take k=cpL q (S.take p)
theorem CmI.none {α:Type} {q:α->α->Bool} {S:List α} {k:Nat} {x y:α} (u:cpL q (S.take (k+1))=S.take (k+1)) (v:S[k]? = some x) (o:S[k+1]? = some y) (h:q y x=true):CmI q S S (k+1) (k+2) :=
  ⟨rfl,by omega,by grind,λ_ _=>rfl,by rw[mo_ v o,yax_ h,yas_,u]⟩
theorem CmI.skip {α:Type} {q:α->α->Bool} {S M:List α} {k p:Nat} {x y:α} (h:CmI q S M k (p+1)) (u:M[p]? = some x) (o:M[p+1]? = some y) (v:q y x=true):CmI q S M k (p+2):=by
  have A:=h.kp;rw[h.rest p zaa_]at u;rw[h.rest (p+1) zaa_]at o;exact⟨h.len,by omega,by grind,h.rest,by rw[mo_ u o,yax_ v,yas_,h.fst]⟩
theorem CmI.keep {α:Type} {q:α->α->Bool} {S M:List α} {k p:Nat} {x y:α} (h:CmI q S M k (p+1)) (v:M[p]? = some x) (o:M[p+1]? = some y) (B:q y x=false):CmI q S (M.set k y) (k+1) (p+2):=by
 have A:=h.kp;have u:=(yaf_.1 o).1;rw[h.rest p zaa_]at v;rw[h.rest (p+1) zaa_]at o;refine⟨by grind[len],by omega,by grind,λj C=>?_,?_⟩
 .rw[ybW_ zaa_];exact h.rest j zaa_
 grind[mo_,fst,List.take_add_one,List.take_set,List.length_take]
theorem CmI.done {α:Type} {q:α->α->Bool} {S M:List α} {k:Nat} (h:CmI q S M k S.length):M.take k=cpL q S:=by rw[h.fst,ybE_]
theorem AK_ {α:Type} {q:α->α->Bool} {S:List α} {k:Nat} {x y:α} (u:cpL q (S.take (k+1))=S.take (k+1)) (v:S[k]? = some x) (o:S[k+1]? = some y) (h:q y x=false):cpL q (S.take (k+2))=S.take (k+2):=by
  grind[mo_,List.take_add_one]
theorem rx_ {α:Type} {q:α->α->Bool} {S:List α} (h:S.length<2):cpL q S=S:=by
  match S,h with
  | [],_=>rfl
  | [x],_=>rfl
end Go.Vs
namespace Go.Vs
open Go Go.Sx
def gm_ (a b:Str):Fc:=⟨1,a,b,[],0,0⟩
def hS_ (a r b:Str):Fc:=⟨2,a,b,r,0,0⟩
def gY_ (a r:Str) (lo hi:Int):Fc:=⟨3,a,[],r,lo,hi⟩
inductive One (p:List Pc) (A:List Str) (S:Fc->Prop) (M:Fc->Fc->Prop):Fc->Prop
  | r1 {a:Str} (h:a∈A):One p A S M (gm_ a a)
  | r2 {a:Str} (h:a∈A):One p A S M (gm_ a [42])
  | r10 {a:Str} {x:Pc} (hx:x∈p) (hk:x.kind=7) (h:a∈A):One p A S M (hS_ a x.r a)
  | r3 {a:Str} {x:Pc} (hx:x∈p) (hk:x.kind=1) (h:S (gm_ a x.a)):One p A S M (gm_ a x.c)
  | r4 {a:Str} {x:Pc} (hx:x∈p) (hk:x.kind=2) (h:S (gm_ a x.a)) (h':S (gm_ a x.b)):One p A S M (gm_ a x.c)
  | r5 {a:Str} {x:Pc} (hx:x∈p) (hk:x.kind=3) (h:S (gm_ a x.a)):One p A S M (hS_ a x.r x.c)
  | r6 {a b:Str} {x:Pc} (hx:x∈p) (hk:x.kind=5) (h:S (hS_ a x.r b)):One p A S M (hS_ a x.t b)
  | r7 {a b c:Str} {x:Pc} (hx:x∈p) (hk:x.kind=6) (h:S (hS_ a x.r b)) (h':S (hS_ b x.s c)):One p A S M (hS_ a x.t c)
  | r8 {a b:Str} {x:Pc} (hx:x∈p) (hk:x.kind=4) (h:S (hS_ a x.r b)) (h':S (gm_ b x.a)):One p A S M (gm_ a x.c)
  | r9 {a r b:Str} (h:S (hS_ a r b)) (h':S (gm_ b [33])):One p A S M (gm_ a [33])
  | r11 {a:Str} {x:Pc} (hx:x∈p) (hk:x.kind=8) (h:S (gm_ a x.a)):One p A S M (gY_ a x.r x.lo x.hi)
  | r12 {a r:Str} {lo hi lo' hi':Int} (h:S (gY_ a r lo hi)) (h':S (gY_ a r lo' hi')) (hm:M (gY_ a r lo hi) (gY_ a r lo' hi')) (hl:max lo lo'<=min hi hi'):One p A S M (gY_ a r (max lo lo') (min hi hi'))
  | r13 {a r:Str} {lo hi lo' hi':Int} (h:S (gY_ a r lo hi)) (h':S (gY_ a r lo' hi')) (hm:M (gY_ a r lo hi) (gY_ a r lo' hi')) (hl:min hi hi'<max lo lo'):One p A S M (gm_ a [33])
  | r14 {a:Str} {lo hi:Int} {x:Pc} (hx:x∈p) (hk:x.kind=9) (h:S (gY_ a x.r lo hi)) (h1:x.lo<=lo) (h2:hi<=x.hi):One p A S M (gm_ a x.c)
abbrev One' (p:List Pc) (A:List Str) (S:Fc->Prop):Fc->Prop:=One p A S (λ_ _=>True)
theorem One.mono {p v:List Pc} {A E:List Str} {S u:Fc->Prop} {M C:Fc->Fc->Prop} (k:∀ x∈p,∃ y∈v,∃ n,{ y with frm:=n }=x) (o:∀ a∈A,a∈E) (d:∀ y,S y->u y) (B:∀ x y,M x y->C x y) {y:Fc} (h:One p A S M y):One v E u C y:=by
  cases h with
  | r1 h=>exact .r1 (o _ h)
  | r2 h=>exact .r2 (o _ h)
  | r10 hx hk h=>obtain⟨z,e,n,rfl⟩:=k _ hx;exact One.r10 (x:=z) e hk (o _ h)
  | r3 hx hk h=>obtain⟨z,e,n,rfl⟩:=k _ hx;exact One.r3 (x:=z) e hk (d _ h)
  | r4 hx hk h h'=>obtain⟨z,e,n,rfl⟩:=k _ hx;exact One.r4 (x:=z) e hk (d _ h) (d _ h')
  | r5 hx hk h=>obtain⟨z,e,n,rfl⟩:=k _ hx;exact One.r5 (x:=z) e hk (d _ h)
  | r6 hx hk h=>obtain⟨z,e,n,rfl⟩:=k _ hx;exact One.r6 (x:=z) e hk (d _ h)
  | r7 hx hk h h'=>obtain⟨z,e,n,rfl⟩:=k _ hx;exact One.r7 (x:=z) e hk (d _ h) (d _ h')
  | r8 hx hk h h'=>obtain⟨z,e,n,rfl⟩:=k _ hx;exact One.r8 (x:=z) e hk (d _ h) (d _ h')
  | r9 h h'=>exact .r9 (d _ h) (d _ h')
  | r11 hx hk h=>obtain⟨z,e,n,rfl⟩:=k _ hx;exact One.r11 (x:=z) e hk (d _ h)
  | r12 h h' hm hl=>exact .r12 (d _ h) (d _ h') (B _ _ hm) hl
  | r13 h h' hm hl=>exact .r13 (d _ h) (d _ h') (B _ _ hm) hl
  | r14 hx hk h h1 h2=>obtain⟨z,e,n,rfl⟩:=k _ hx;exact One.r14 (x:=z) e hk (d _ h) h1 h2
def Der (p:List Pc) (A:List Str) (y:Fc):Prop:=∀ T:Fc->Prop,(∀ y,One' p A T y->T y)->T y
theorem Der.step {p:List Pc} {A:List Str} {y:Fc} (h:One' p A (Der p A) y):Der p A y :=
  λT d=>d y (h.mono (λx e=>⟨x,e,x.frm,rfl⟩) (λ_ h=>h) (λz k=>k T d) (λ_ _ h=>h))
theorem Der.mono {p d:List Pc} {A e:List Str} (k:∀ x∈p,∃ y∈d,∃ n,{ y with frm:=n }=x) (o:∀ a∈A,a∈e) {y:Fc} (h:Der p A y):Der d e y :=
  h _ λ_ u=>Der.step (u.mono k o (λ_ h=>h) (λ_ _ h=>h))
structure Ky where
  kind:Int
  role:Str
  atom:Str
deriving DecidableEq
abbrev CX_:=Str×Str
def lat {K D:Type} [DecidableEq K] (l:List (K×D)) (k:K):List D:=(l.filter λe=>decide (e.1=k)).map (·.2)
theorem wH_ {K D:Type} [DecidableEq K] {l:List (K×D)} {k:K} {d:D}:d∈lat l k↔(k,d)∈l:=by
  unfold lat;simp only[yaM_,ybC_,yaY_]
  grind
theorem vu_ {K D:Type} [DecidableEq K] (l m:List (K×D)) (k:K):lat (l++m) k=lat l k++lat m k:=by simp[lat]
theorem wI_ {K D:Type} [DecidableEq K] (l:List (K×D)) (k:K):(lat l k).length<=l.length:=by
  grind[lat]
def putL (x:Pc):List (Ky×Pc) :=
  if x.kind=1\/x.kind=3\/x.kind=8 then [(⟨x.kind,[],x.a⟩,x)]
  else if x.kind=2 then if x.b≠x.a then [(⟨x.kind,[],x.a⟩,x),(⟨x.kind,[],x.b⟩,x)] else [(⟨x.kind,[],x.a⟩,x)]
  else if x.kind=4 then [(⟨x.kind,[],x.a⟩,x),(⟨x.kind,x.r,x.a⟩,x)]
  else if x.kind=5\/x.kind=9 then [(⟨x.kind,x.r,[]⟩,x)]
  else if x.kind=6 then [(⟨x.kind,x.r,[]⟩,x),(⟨x.kind,[],x.s⟩,x)]
  else []
def pmOf (ps:List Pc):List (Ky×Pc):=ps.flatMap putL
def Cg_ (ps:List Pc):List Str:=(ps.filter λx=>decide (x.kind=7)).map (·.r)
structure Ix where
  above:List (Str×Str)
  under:List (Str×Str)
  frm:List (CX_×Str)
  into:List (CX_×Str)
  ranges:List (CX_×Fc)
  firms:List (CX_×Fc)
section
variable (pm:List (Ky×Pc)) (x:Ix) (f:Fc)
def AM_:List Fc:=(lat pm ⟨1,[],f.b⟩).map λy=>gm_ f.a y.c
def someL:List Fc:=(lat pm ⟨3,[],f.b⟩).map λy=>hS_ f.a y.r y.c
def As_:List Fc:=(lat pm ⟨5,f.r,[]⟩).map λy=>hS_ f.a y.t f.b
def CM_:List Fc:=(lat pm ⟨6,f.r,[]⟩).flatMap λy=>(lat x.frm (f.b,y.s)).map λc=>hS_ f.a y.t c
def CL_:List Fc:=(lat pm ⟨6,[],f.r⟩).flatMap λy=>(lat x.into (f.a,y.r)).map λa=>hS_ a y.t f.b
def ys_:List Fc:=(lat x.above f.b).flatMap λc=>(lat pm ⟨4,f.r,c⟩).map λy=>gm_ f.a y.c
def yt_:List Fc:=(lat pm ⟨4,[],f.b⟩).flatMap λy=>(lat x.into (f.a,y.r)).map λa=>gm_ a y.c
def vE_:List Fc:=if f.b=[33] then (lat x.under f.a).map λa=>gm_ a [33] else []
def outL:List Fc:=((lat pm ⟨9,f.r,[]⟩).filter λy=>decide (y.lo<=f.lo/\f.hi<=y.hi)).map λy=>gm_ f.a y.c
def wD_ (y:Fc):Fc:=gY_ f.a f.r (max f.lo y.lo) (min f.hi y.hi)
def Dn_ (y:Fc):Bool:=decide (min f.hi y.hi<max f.lo y.lo)
def Dd_ (firm:Bool):List Fc:=if firm then lat x.ranges (f.a,f.r) else lat x.firms (f.a,f.r)
def meetG (l:List Fc):List Fc:=(l.filter λy=>!Dn_ f y&&decide (wD_ f y≠f/\wD_ f y≠y)).map (wD_ f)
def meetE (l:List Fc):List Fc:=if l.any (Dn_ f) then [gm_ f.a [33]] else []
end
section
variable (stp:Fc->List Fc->List Fc) (kof:List Fc->List Fc)
def mn_ (L:List Fc) (s:List Fc):List Fc:=L.foldl (λs y=>stp y s) s
def bothF (f:Fc) (l:List Pc) (s:List Fc):List Fc:=l.foldl (λs y=>if gm_ f.a y.a∈kof s/\gm_ f.a y.b∈kof s then stp (gm_ f.a y.c) s else s) s
def valueF (f:Fc) (l:List Pc) (s:List Fc×List Fc):List Fc×List Fc:=l.foldl (λs y=>(stp (gY_ f.a y.r y.lo y.hi) s.1,if gY_ f.a y.r y.lo y.hi∈kof s.1 then s.2 else gY_ f.a y.r y.lo y.hi::s.2)) s
end
structure Grows (stp:Fc->List Fc->List Fc) (kof:List Fc->List Fc):Prop where
  up:∀ y s z,z∈kof s->z∈kof (stp y s)
section
variable {ps:List Pc} {A:List Str} {x:Ix} {S Fm:Fc->Prop} {f:Fc} {kn:List Fc}
end
section
variable (stp:Fc->List Fc->List Fc) (kof:List Fc->List Fc) (pm:List (Ky×Pc)) (x:Ix) (f:Fc)
def rl (j:Nat) (s:List Fc×List Fc):List Fc×List Fc :=
  if f.kind=1 then
    (match j with
    | 0=>(mn_ stp (AM_ pm f) s.1,s.2)
    | 1=>(bothF stp kof f (lat pm ⟨2,[],f.b⟩) s.1,s.2)
    | 2=>(mn_ stp (someL pm f) s.1,s.2)
    | 3=>(mn_ stp (yt_ pm x f) s.1,s.2)
    | 4=>(mn_ stp (vE_ x f) s.1,s.2)
    | _=>valueF stp kof f (lat pm ⟨8,[],f.b⟩) s)
  else if f.kind=2 then
    (match j with
    | 0=>(mn_ stp (As_ pm f) s.1,s.2)
    | 1=>(mn_ stp (CM_ pm x f++CL_ pm x f) s.1,s.2)
    | 2=>(mn_ stp (ys_ pm x f) s.1,s.2)
    | _=>(if gm_ f.b [33]∈kof s.1 then stp (gm_ f.a [33]) s.1 else s.1,s.2))
  else
    (match j with
    | 0=>(mn_ stp (meetG f (Dd_ x f (decide (f∈s.2)))++meetE f (Dd_ x f (decide (f∈s.2)))) s.1,s.2)
    | _=>(mn_ stp (outL pm f) s.1,s.2))
end
section
variable {stp:Fc->List Fc->List Fc} {kof:List Fc->List Fc} {ps:List Pc} {A:List Str} {x:Ix} {S Fm:Fc->Prop} {f:Fc}
end
end Go.Vs
namespace Go.Vs
open Go Go.Sx
section
variable {ps:List Pc} {A:List Str} {m:Nat} {x:Ix} {S Fm:Fc->Prop} {f:Fc}
end
inductive Fmd (fm:List Fc):Fc->Prop
  | base {y:Fc} (h:y∈fm):Fmd fm y
  | meet {y z:Fc} (hy:Fmd fm y) (hz:Fmd fm z) (ha:z.a=y.a) (hr:z.r=y.r) (hl:max y.lo z.lo<=min y.hi z.hi):Fmd fm (wD_ y z)
theorem Fmd.mono {fm d:List Fc} (h:∀ y∈fm,y∈d) {y:Fc} (e:Fmd fm y):Fmd d y:=by
  induction e with
  | base h1=>exact .base (h _ h1)
  | meet _ _ ha hr hl ih1 ih2=>exact .meet ih1 ih2 ha hr hl
section
variable {ps:List Pc} {A:List Str} {m n:Nat} {q fm:List Fc} {x:Ix} {f:Fc}
end
section
variable {ps:List Pc} {A:List Str} {m n:Nat} {q fm:List Fc} {x:Ix} {f:Fc}
end
def Fc.lt (x y:Fc):Prop:=x.kind<y.kind\/x.kind=y.kind/\(x.a<y.a\/x.a=y.a/\(x.b<y.b\/x.b=y.b/\(x.r<y.r\/x.r=y.r/\(x.lo<y.lo\/x.lo=y.lo/\x.hi<y.hi))))
instance (x y:Fc):Decidable (Fc.lt x y):=by unfold Fc.lt;exact inferInstance
theorem hL_ {α:Type} [DecidableEq α]:∀ {l m:List α},l.Nodup->(∀ x∈l,x∈m)->l.length<=m.length
  | [],m,_,_=>by simp
  | x::l,m,h,hs=>by
    rw[yby_]at h
    have:=hL_ (l:=l) (m:=m.erase x) h.2 λy d=>by
      grind
    grind
end Go.Vs
namespace Go.Vs
open Go Go.Sx
section
variable {ps:List Pc} {A:List Str} {c:List Fc} {x:Ix} {f:Fc}
end
section
variable {p:List Pc} {A:List Str} {l:List Fc} {f:Fc}
theorem Dg_ {α β:Type} {g:α->List β} {n:Nat}:∀ (l:List α),(∀ x∈l,(g x).length<=n)->(l.flatMap g).length<=l.length*n
  | [],_=>by simp
  | x::l,h=>by
    have:=Dg_ l λy d=>h y zbH_
    grind[Nat.add_mul]
end
end Go.Vs
namespace Go.Sx
open Go Go.Vs
structure KeyT (P:Program) (kt:TypeId) {K:Type} [DecidableEq K] (kv:K->Value):Prop where
  ok:∀ k,kH_ P kt (kv k)
  nf:∀ (k:K) (es:List MapEntry) (ks:List K),es.map (·.key)=ks.map kv->k ∉ ks->ek_ P kt (kv k) es none
  sf:∀ (k:K) (es:List MapEntry) (ks:List K) (i:Nat) (e:MapEntry),es.map (·.key)=ks.map kv->ks.Nodup->ks[i]? = some k->es[i]? = some e->ek_ P kt (kv k) es (some (i,e.val))
  same:∀ k,Instr.sameBits 10000 (kv k) (kv k)=true
section
variable {P:Program}
theorem sN_ (a b:List UInt8):((⟨a.toArray⟩:ByteArray)==⟨b.toArray⟩)=decide (a=b):=by
  show (a.toArray==b.toArray)=_
  grind
theorem Ah_ {kt:TypeId} (o:P.underlying kt=some .string):KeyT P kt str where
  ok:=λk e w=>by
    have key:∀ m,(Instr.checkKey e (m+1) kt (str k)).run P w=.ok () w:=λm=>by simp[Instr.checkKey,run_underlying o,str]
    grind
  nf:=λk es ks h v=>bu_ o (by
    have:∀ (ks:List Str) (es:List MapEntry) (i:Nat),es.map (·.key)=ks.map str->k ∉ ks->Instr.findNow .string (str k) es i=some none:=by
      intro ks
      induction ks with
      | nil => intro es i h _; have : es = [] := by simpa using h
               subst this;rfl
      | cons q ks ih =>
        intro es i h v;cases es<;>grind[Instr.sameNow,str,sN_,Instr.findNow]
    grind)
  sf:=λk es ks i e h u hi y=>bu_ o (by
    have:∀ (ks:List Str) (es:List MapEntry) (j i:Nat),es.map (·.key)=ks.map str->ks.Nodup->ks[i]? = some k->es[i]? = some e->Instr.findNow .string (str k) es j=some (some (j+i,e.val)):=by
      intro ks
      induction ks with
      | nil=>grind
      | cons q ks ih =>
        intro es j i h u hi y;cases es with
        | nil=>simp at h
        | cons x es =>
          simp only[yaE_,ybv_]at h;rw[yby_]at u;cases i<;>grind[Instr.sameNow,str,sN_,Instr.findNow]
    grind)
  same:=λk=>by
    grind[Instr.sameBits,str,sN_]
theorem tX_ {K:Type} [DecidableEq K] {kt:TypeId} {B:Array Field} {kv:K->Value} (A:P.underlying kt=some (.struct B)) (y:∀ k,kH_ P kt (kv k)) (v:∀ p q w,(Op.equal kt (kv p) (kv q)).run P w=.ok (decide (p=q)) w) (o:∀ k,Instr.sameBits 10000 (kv k) (kv k)=true):KeyT P kt kv where
  ok:=y
  nf:=λk es ks h F=>(iw_ A v k ks es h).1 F
  sf:=λk es ks i e h C hi E=>by
    have key:∀ (ks:List K) (es:List MapEntry) (j i:Nat),es.map (·.key)=ks.map kv->ks.Nodup->ks[i]? = some k->es[i]? = some e->∀ w,(Instr.findAsking kt (kv k) es j).run P w=.ok (some (j+i,e.val)) w:=by
      intro ks
      induction ks with
      | nil=>grind
      | cons q ks ih =>
        intro es j i h C hi E w;cases es with
        | nil=>simp at h
        | cons x es =>
          simp only[yaE_,ybv_]at h;rw[yby_]at C;cases i<;>grind[Instr.findAsking,Sem.run_bind,Result.andThen_ok,Sem.run_pure]
    intro w;have u:∀ (x:MapEntry) (r:List MapEntry),Instr.findNow (.struct B) (kv k) (x::r) 0=none:=λx r=>by grind[Instr.findNow,Instr.sameNow]
    cases es with
    | nil=>simp at E
    | cons x r =>
      simp only[Instr.findKey,Sem.run_bind,run_underlying A,Result.andThen_ok,u]
      grind
  same:=o
end
theorem tl_ (n:Nat) {k:IntKind} (i:Int):Instr.sameBits n (.int k i) (.int k i)=true:=by
  grind[Instr.sameBits]
theorem zn_ (n:Nat) (s:List UInt8):Instr.sameBits n (str s) (str s)=true:=by
  cases n<;>(show ((⟨s.toArray⟩:ByteArray)==⟨s.toArray⟩)=true;grind[sN_])
theorem zo_ {n:Nat} {l:List Value} (h:∀ v∈l,Instr.sameBits n v v=true):Instr.sameBits (n+1) (.agg l.toArray) (.agg l.toArray)=true:=by
  simp only[Instr.sameBits,BEq.rfl,ycx_,ybn_];intro p k
  have:∀ (l:List Value),(∀ v∈l,Instr.sameBits n v v=true)->∀ p∈l.zip l,Instr.sameBits n p.1 p.2=true:=by
    intro l
    induction l with
    | nil=>intro _ p k;simp at k
    | cons a l ih =>
      grind[List.zip_cons_cons]
  grind
structure Born (es:Array MapEntry) (c:Nat):Prop where
  lt:∀ x∈es.toList,x.born<c
  nd:(es.toList.map (·.born)).Nodup
theorem Born.nil (c:Nat):Born #[] c:=⟨by simp,by simp⟩
theorem Born.push {es:Array MapEntry} {c:Nat} (h:Born es c) (key val:Value):Born (es.push ⟨key,val,c⟩) (c+1):=by
 refine⟨λx k=>?_,?_⟩
 .rw[ycg_,yaj_]at k
  rcases k with k|k
  .exact Nat.lt_succ_of_lt (h.lt x k)
  grind
 rw[ycg_,yaz_,ybA_];refine⟨h.nd,by simp,λa o b u e=>?_⟩;obtain⟨x,k,rfl⟩:=yaM_.1 o;simp at u
 have:=h.lt x k;omega
theorem Born.modify {es:Array MapEntry} {c:Nat} (h:Born es c) (i:Nat) (f:MapEntry->MapEntry) (v:∀ e,(f e).born=e.born):Born (es.modify i f) c:=by
  have o:(es.modify i f).toList.map (·.born)=es.toList.map (·.born):=by
    apply yaT_
    grind
  refine⟨λx u=>?_,by grind[nd]⟩;have:x.born∈(es.modify i f).toList.map (·.born):=yaU_ u;rw[o]at this;obtain⟨y,k,e⟩:=yaM_.1 this;rw[<-e];exact h.lt y k
theorem Born.find {es:Array MapEntry} {c i:Nat} {x:MapEntry} (h:Born es c) (k:es[i]? = some x):es.findIdx? (λe=>(e.born:Int)==(x.born:Int))=some i:=by
  grind[Array.findIdx?_eq_some_iff_getElem,Array.getElem?_eq_some_iff,Array.size,nd,List.pairwise_iff_getElem]
section
variable {K D:Type} [DecidableEq K] (kv:K->Value) (cells:D->List Value) (e:TypeId) (sz:Nat) (l:List (K×D))
def hX_:List K->List MapEntry->Hp->Prop
  | [],[],H=>H=[]
  | k::ks,x::es,H=>∃ Hk Hr,H=Hk++Hr/\x.key=kv k/\av_ e sz x.val (lat l k).length ((lat l k).flatMap cells) Hk/\hX_ ks es Hr
  | _,_,_=>False
def kv_ (mb:Nat) (H:Hp):Prop:=∃ ks es c Hr,H=(mb,.map es c)::Hr/\ks.Nodup/\(∀ x∈l,x.1∈ks)/\hX_ kv cells e sz l ks es.toList Hr/\Born es c
end
section
variable {K D:Type} [DecidableEq K] {kv:K->Value} {cells:D->List Value} {e:TypeId} {sz:Nat} {l:List (K×D)}
theorem hX_.keys:∀ {ks:List K} {es:List MapEntry} {H:Hp},hX_ kv cells e sz l ks es H->es.map (·.key)=ks.map kv
  | [],[],_,_=>rfl
  | k::ks,x::es,_,h=>by
    obtain⟨v,Hr,_,o,_,u⟩:=h;simp[o,u.keys]
  | [],_::_,_,h=>h.elim
  | _::_,[],_,h=>h.elim
theorem hX_.congr {o:List (K×D)}:∀ {ks:List K} {es:List MapEntry} {H:Hp},(∀ k∈ks,lat o k=lat l k)->hX_ kv cells e sz l ks es H->hX_ kv cells e sz o ks es H
  | [],[],_,_,h=>h
  | k::ks,x::es,_,hl,h=>by
    obtain⟨v,Hr,A,y,C,B⟩:=h;exact⟨v,Hr,A,y,by grind,B.congr λq u=>hl q (by simp[u])⟩
  | [],_::_,_,_,h=>h.elim
  | _::_,[],_,_,h=>h.elim
theorem hX_.get : ∀ {ks : List K} {es : List MapEntry} {H : Hp} {i : Nat} {k : K}, hX_ kv cells e sz l ks es H->ks.Nodup->ks[i]? = some k->∃ x v Hr, es[i]? = some x/\H.Perm (v ++ Hr)/\x.key = kv k/\av_ e sz x.val (lat l k).length ((lat l k).flatMap cells) v/\
      ∀ (u:List (K×D)) (y:MapEntry) (o:Hp),y.key=kv k->(∀ q,q≠k->lat u q=lat l q)->av_ e sz y.val (lat u k).length ((lat u k).flatMap cells) o->∃ H',hX_ kv cells e sz u ks (es.set i y) H'/\H'.Perm (o++Hr)
  | [],_,_,_,_,_,_,h=>by simp at h
  | _::_,[],_,_,_,h,_,_=>h.elim
  | q::ks,x::es,H,0,k,h,hn,hi=>by
    simp only[ybq_,yai_]at hi;subst hi;rw[yby_]at hn;obtain⟨v,Hr,C,G,J,E⟩:=h;exact⟨x,v,Hr,rfl,C▸.refl _,G,J,λu y o B F I=>⟨o++Hr,⟨o,Hr,rfl,B,I,E.congr λz W=>F z (λe=>hn.1 (e▸W))⟩,.refl _⟩⟩
  | q::ks,x::es,H,i+1,k,h,hn,hi=>by
    simp only[ybp_]at hi;rw[yby_]at hn;obtain⟨A,X,C,G,J,E⟩:=h;obtain⟨y,v,Hr,T,S,O,Q,U⟩:=E.get hn.2 hi;have L:q≠k:=λe=>hn.1 (e▸yad_ hi)
    refine⟨y,v,A++Hr,T,?_,O,Q,λu z o B F I=>?_⟩
    . rw[C]
      refine (ybh_ A S).trans ?_;rw[<-yak_,<-yak_];exact yah_.append_right _
    . obtain⟨H',M,V⟩:=U u z o B F I
      refine⟨A++H',⟨A,H',rfl,G,by grind,M⟩,(ybh_ A V).trans ?_⟩;rw[<-yak_,<-yak_];exact yah_.append_right _
theorem hX_.push:∀ {ks:List K} {es:List MapEntry} {H:Hp} {k:K} {x:MapEntry} {Hk:Hp},hX_ kv cells e sz l ks es H->x.key=kv k->av_ e sz x.val (lat l k).length ((lat l k).flatMap cells) Hk->hX_ kv cells e sz l (ks++[k]) (es++[x]) (H++Hk)
  | [],[],_,k,x,Hk,h,h1,h2=>by subst h;exact⟨Hk,[],by simp,h1,h2,rfl⟩
  | q::ks,y::es,_,k,x,Hk,h,h1,h2=>by
    obtain⟨A,Hr,rfl,v,o,u⟩:=h;exact⟨A,Hr++Hk,by simp,v,o,u.push h1 h2⟩
  | [],_::_,_,_,_,_,h,_,_=>h.elim
  | _::_,[],_,_,_,_,h,_,_=>h.elim
theorem rl_ {k q:K} {d:D} (h:q≠k):lat (l++[(k,d)]) q=lat l q:=by
  grind[lat]
theorem Ae_ {k:K} {d:D}:lat (l++[(k,d)]) k=lat l k++[d]:=by
  grind[lat]
structure MOpn (kv:K->Value) (cells:D->List Value) (e:TypeId) (sz:Nat) (l:List (K×D)) (mb:Nat) (k:K) (es:Array MapEntry) (c i:Nat) (st:Int) (Hr:Hp):Prop where
  find:es.findIdx? (λx=>(x.born:Int)==st)=some i
  close:∀ d sv' Hk',av_ e sz sv' (lat (l++[(k,d)]) k).length ((lat (l++[(k,d)]) k).flatMap cells) Hk'->∃ H',kv_ kv cells e sz (l++[(k,d)]) mb H'/\H'.Perm ((mb,.map (es.modify i λy=>{ y with val:=sv' }) c)::(Hk'++Hr))
theorem vq_ {es:Array MapEntry} {i:Nat} {x:MapEntry} {key:Value} (o:es[i]? = some x) (k:x.key=key):(es.modify i λy=>{ y with key:=key })=es:=by
 apply ycw_
 intro j;rw[ybl_]
 by_cases h:i=j
 .subst h;rw[yax_ rfl,o];simp only[yba_];rw[<-k]
 grind
theorem kv_.entry {P:Program} {kt:TypeId} (Q:KeyT P kt kv) {B:Nat} {H:Hp} (h:kv_ kv cells e sz l B H) (k:K) :
    ∃ es c v F i st sv E Hr,H.Perm ((B,.map es c)::(E++Hr))/\av_ e sz sv (lat l k).length ((lat l k).flatMap cells) E/\MOpn kv cells e sz l B k v F i st Hr/\
      ((ek_ P kt (kv k) es.toList none/\sv=.slice none 0 0/\v=es.push ⟨kv k,.slice none 0 0,c⟩/\F=c+1/\st=(c:Int))\/(∃ j x,ek_ P kt (kv k) es.toList (some (j,sv))/\es[j]? = some x/\x.key=kv k/\v=es/\F=c/\st=(x.born:Int))):=by
  have U:=h;obtain⟨ks,es,c,S,rfl,M,hl,hm,u⟩:=U
  by_cases G:k∈ks
  . obtain⟨i,hi⟩:=yaA_ G
    obtain⟨x,E,Hr,Y,V,g3,X,g5⟩:=hm.get M hi;have T:es[i]? = some x:=by grind
    refine⟨es,c,es,c,i,x.born,x.val,E,Hr,.cons _ V,X,⟨u.find T,λd o A J=>?_⟩,.inr ⟨i,x,Q.sf k es.toList ks i x hm.keys M hi Y,T,g3,rfl,rfl,rfl⟩⟩;obtain⟨H',j1,j2⟩:=g5 (l++[(k,d)]) { x with key:=kv k,val:=o } A rfl (λq I=>rl_ I) J;refine⟨(B,.map (es.modify i λy=>{ y with val:=o }) c)::H',⟨ks,_,c,H',rfl,M,λy Z=>?_,?_,u.modify i _ λ_=>rfl⟩,.cons _ j2⟩
    . grind
    . have e1:(es.modify i λy=>{ y with val:=o }).toList=es.toList.set i { x with key:=kv k,val:=o }:=by
        apply yaT_
        grind
      grind
  . have O:lat l k=[]:=by
      apply yca_.2
      grind[wH_]
    have L:=u.push (kv k) (.slice none 0 0);have C:(es.push ⟨kv k,.slice none 0 0,c⟩)[es.size]? = some ⟨kv k,.slice none 0 0,c⟩:=by simp
    refine⟨es,c,es.push ⟨kv k,.slice none 0 0,c⟩,c+1,es.size,(c:Int),.slice none 0 0,[],S,.refl _,by grind[av_.nil],⟨L.find C,λd o A J=>?_⟩,.inl ⟨Q.nf k es.toList ks hm.keys G,rfl,rfl,rfl,rfl⟩⟩
    have W:((es.push ⟨kv k,.slice none 0 0,c⟩).modify es.size λy=>{ y with val:=o })=es.push ⟨kv k,o,c⟩:=by
      grind
    rw[W];refine⟨(B,.map (es.push ⟨kv k,o,c⟩) (c+1))::(S++A),⟨ks++[k],_,_,_,rfl,?_,λy Z=>?_,?_,u.push _ _⟩,.cons _ yah_⟩
    . grind
    . grind
    . rw[ycg_]
      exact (hm.congr λq I=>rl_ (λ(e:q=k)=>G (e▸I))).push rfl J
theorem kv_.nil (h:Nat) (c:Nat):kv_ kv cells e sz ([]:List (K×D)) h [(h,.map #[] c)]:=⟨[],#[],c,[],rfl,ybH_,by simp,rfl,Born.nil c⟩
def mlF (P:Program) (kt:TypeId) (kv:K->Value) (cells:D->List Value) (mb:Nat) (l:List (K×D)) (adr:K->Ao×Nat):Fct where
  p:=λv=>v.im mb/\∃ es c,v.w.heap[mb]? = some (.map es c)/\∀ k,bW_ v (adr k).1 ((lat l k).flatMap cells)/\
    ((ek_ P kt (kv k) es.toList none/\Value.slice (adr k).1 (lat l k).length (adr k).2=.slice none 0 0)\/∃ i,ek_ P kt (kv k) es.toList (some (i,.slice (adr k).1 (lat l k).length (adr k).2)))
  mono:=λv v' h ⟨h1,es,c,h2,h3⟩=>⟨h.imUp mb h1,es,c,by rw[h.block mb h1];exact h2,λk=>⟨(O_ _ _).mono v v' h (h3 k).1,(h3 k).2⟩⟩
theorem wC_ {P:Program} {kt:TypeId} {o:Nat} {adr:K->Ao×Nat} {v:Vw} (h:(mlF P kt kv cells o l adr).p v) (k:K):bW_ v (adr k).1 ((lat l k).flatMap cells):=by
  obtain⟨_,_,_,_,h⟩:=h
  grind
theorem xs_ {sv:Value} {n:Nat} {xs:List Value} {Hr:Hp} {v:Vw} (h:av_ e sz sv n xs Hr) (y:∀ p∈Hr,v.im p.1/\v.w.heap[p.1]? = some p.2):∃ ad cap,sv=.slice ad n cap/\n<=cap/\cap<=maxLen/\(n≠0->∃ b,ad=some ⟨b,0,none⟩)/\bW_ v ad xs:=by
 rcases h.2 with⟨rfl,rfl,rfl⟩|⟨g,cap,cur,rfl,rfl,o,A,E,B⟩
 .have:xs=[]:=yau_ (by simpa using h.1)
  exact⟨none,0,rfl,yab_ _,by simp,λh=>absurd rfl h,.inl this⟩
 obtain⟨k,u⟩:=y _ (yal_.2 rfl);refine⟨some ⟨g,0,none⟩,cap,rfl,o,A,λ_=>⟨g,rfl⟩,.inr ⟨g,0,cur,e,(0,0),rfl,k,u,λj x C=>?_⟩⟩
 grind
theorem kv_.lentC {P:Program} {kt:TypeId} (I:KeyT P kt kv) {A:Nat} {H:Hp} (h:kv_ kv cells e sz l A H):∃ adr:K->Ao×Nat,(∀ k,(lat l k).length<=(adr k).2/\((adr k).1=none->(adr k).2=0))/\∀ v:Vw,(∀ p∈H,v.im p.1/\v.w.heap[p.1]? = some p.2)->(mlF P kt kv cells A l adr).p v:=by
 have M:=h;obtain⟨ks,es,c,Q,rfl,L,hl,hm,_⟩:=M
 have key:∀ k,∃ q:Ao×Nat,((lat l k).length<=q.2/\(q.1=none->q.2=0))/\∀ v:Vw,(∀ p∈(A,Obj.map es c)::Q,v.im p.1/\v.w.heap[p.1]? = some p.2)->bW_ v q.1 ((lat l k).flatMap cells)/\((ek_ P kt (kv k) es.toList none/\Value.slice q.1 (lat l k).length q.2=.slice none 0 0)\/∃ i,ek_ P kt (kv k) es.toList (some (i,.slice q.1 (lat l k).length q.2))):=λk=>by
   by_cases G:k∈ks
   . obtain⟨i,hi⟩:=yaA_ G
     obtain⟨x,Z,Hr,C,y,g3,J,_⟩:=hm.get L hi;have V:=I.sf k es.toList ks i x hm.keys L hi C
     have B:∃ ad cap,x.val=.slice ad (lat l k).length cap/\(lat l k).length<=cap/\(ad=none->cap=0):=by
       rcases J.2 with⟨O,q2,_⟩|⟨g,cap,cur,O,_,U,_⟩
       all_goals grind
     obtain⟨ad,cap,X,u⟩:=B;refine⟨(ad,cap),u,λv o=>⟨?_,.inr ⟨i,by grind⟩⟩⟩;obtain⟨T,F,Y,_,_,_,W⟩:=xs_ J λp S=>o p (yaN_ _ (y.mem_iff.2 (yaG_ _ S)))
     grind
   . have E:lat l k=[]:=by
       apply yca_.2
       grind[wH_]
     exact⟨(none,0),⟨by grind,λ_=>rfl⟩,λv o=>⟨.inl zap_,.inl ⟨I.nf k es.toList ks hm.keys G,by grind⟩⟩⟩
 refine⟨λk=>(key k).choose,λk=>(key k).choose_spec.1,λv o=>?_⟩;obtain⟨C,y⟩:=o _ yaq_;exact⟨C,es,c,y,λk=>(key k).choose_spec.2 v o⟩
theorem kv_.lent {P:Program} {kt:TypeId} (o:KeyT P kt kv) {k:Nat} {H:Hp} (h:kv_ kv cells e sz l k H):∃ adr,∀ v:Vw,(∀ p∈H,v.im p.1/\v.w.heap[p.1]? = some p.2)->(mlF P kt kv cells k l adr).p v:=⟨_,(h.lentC o).choose_spec.2⟩
end
section
variable {P:Program} {K:Type} [DecidableEq K] {kv:K->Value} {kt:TypeId}
structure SetE (kv:K->Value) (es:Array MapEntry) (q:List K):Prop where
  keys:es.toList.map (·.key)=q.map kv
  vals:∀ x∈es.toList,x.val=.bool true
  nd:q.Nodup
theorem SetE.nil:SetE kv #[] ([]:List K):=⟨rfl,by simp,ybH_⟩
theorem SetE.size {es:Array MapEntry} {q:List K} (h:SetE kv es q):es.size=q.length:=by
  have:=yag_ List.length h.keys
  grind
theorem SetE.yes (A:KeyT P kt kv) {es:Array MapEntry} {q:List K} (h:SetE kv es q) {k:K} (v:k∈q):∃ i x,q[i]? = some k/\es[i]? = some x/\x.key=kv k/\x.val=.bool true/\ek_ P kt (kv k) es.toList (some (i,.bool true)):=by
  obtain⟨i,hi⟩:=yaA_ v
  have o:i<es.toList.length:=by
    have:=(yaf_.1 hi).1;have e:=yag_ List.length h.keys
    grind
  have B:=yaa_ o;have y:=h.vals _ (ydb_ o)
  have u:es.toList[i].key=kv k:=by
    have:=yag_ (λl=>l[i]?) h.keys
    grind
  refine⟨i,es.toList[i],hi,by grind,u,y,?_⟩;have:=A.sf k es.toList q i _ h.keys h.nd hi B
  grind
theorem SetE.no (o:KeyT P kt kv) {es:Array MapEntry} {q:List K} (h:SetE kv es q) {k:K} (u:k ∉ q):ek_ P kt (kv k) es.toList none:=o.nf k es.toList q h.keys u
theorem SetE.push {es:Array MapEntry} {q:List K} (h:SetE kv es q) {k:K} (u:k ∉ q) (c:Nat):SetE kv (es.push ⟨kv k,.bool true,c⟩) (q++[k]):=by
 refine⟨by grind[keys],λx o=>?_,?_⟩
 .rw[ycg_,yaj_]at o
  rcases o with o|o
  .exact h.vals x o
  grind
 grind[nd]
end
section ops
variable {P:Program} {N:Nf} {v0:Vw} {H0:Hp} {R:Exit->Act->World->Prop} {Kk:List Kt} {fr:Fr} {H:Hp} {Γ:List Fct}
variable {ops:Array Oper} {lo:List Oper} {d:Nat} {ty:TypeId} {ps:String} {af:Array Edge}
variable {K D:Type} [DecidableEq K] {kv:K->Value} {cells:D->List Value}
theorem xh_ {t kt G:TypeId} {x y:Operand} {E:Nat} {l:List (K×D)} {adr:K->Ao×Nat} {k:K} (F:KeyT P kt kv) (A:∀ w,(underlying t).run P w=.ok (.map kt G) w) (Q:∀ w,(zeroValue G).run P w=.ok (.slice none 0 0) w) (C:Fr.ev fr x=some (.map (some E))) (u:Fr.ev fr y=some (kv k))
    (hm:∀ v,v.sat H->aC_ Γ v->(mlF P kt kv cells E l adr).p v):Yld P N fr H Γ (.lookup t x y false) ty (.slice (adr k).1 (lat l k).length (adr k).2) :=
  λa v h J O _ _ _=>by
    obtain⟨_,es,c,I,L⟩:=hm v J O;have B:=MapKept.run_getObj_map (P:=P) I;rcases (L k).2 with⟨o,M⟩|⟨i,o⟩
    . rw[M];simp[execOp,h.ev C,h.ev u,Instr.lookup,A,B,F.ok _ _ _,o _,Q]
    . simp[execOp,h.ev C,h.ev u,Instr.lookup,A,B,F.ok _ _ _,o _]
theorem jn_ {t kt F:TypeId} {x y:Operand} {E c:Nat} {es:Array MapEntry} {q:List K} {k:K} (o:KeyT P kt kv) (A:∀ w,(underlying t).run P w=.ok (.map kt F) w) (I:∀ w,(zeroValue F).run P w=.ok (.bool false) w) (B:Fr.ev fr x=some (.map (some E))) (u:Fr.ev fr y=some (kv k))
    (C:SetE kv es q) (hm:∀ v,v.sat H->aC_ Γ v->v.w.heap[E]? = some (.map es c)):Yld P N fr H Γ (.lookup t x y false) ty (.bool (decide (k∈q))):=by
  by_cases h:k∈q
  . obtain⟨i,_,_,_,_,_,G⟩:=C.yes o h
    rw[ycc_ h];exact fL_ A B u hm (o.ok k) G
  . rw[ycS_ h]
    exact gx_ A I B u hm (o.ok k) (C.no o h)
theorem gQ_ {o:Op} {t kt Q:TypeId} {x y z:Operand} {b c i:Nat} (n:Nat) {es:Array MapEntry} {e:MapEntry} {k:K} {u u':Value} (I:KeyT P kt kv) (U:o=.insert t x y z\/o=.mapUpdate t x y z) (X:∀ w,(underlying t).run P w=.ok (.map kt Q) w)
    (hx:Fr.ev fr x=some (.map (some b))) (W:Fr.ev fr y=some (kv k)) (S:Fr.ev fr z=some u) (hi:H[n]? = some (b,.map es c)) (T:ek_ P kt (kv k) es.toList (some (i,u'))) (F:es[i]? = some e) (E:e.key=kv k)
    (C:Ops P R N v0 H0 ops lo Kk fr (H.set n (b,.map (es.modify i λy=>{ y with key:=kv k,val:=u }) c)) Γ):Ops P R N v0 H0 ops (⟨none,o,ty,ps,af,none⟩::lo) Kk fr H Γ :=
  dl_ rfl λa v h A Y O=>by
    have B:=(A.own _ (yad_ hi)).1;have L:=MapKept.run_getObj_map (P:=P) B;have Z:=MapKept.run_setObj_map (P:=P) (.map (es.modify i λy=>{ y with key:=kv k,val:=u }) c) B
    have F:(execOp a.eval ⟨none,o,ty,ps,af,none⟩).run P v.w=.ok .skip { v.w with heap:=v.w.heap.setIfInBounds b (.map (es.modify i λy=>{ y with key:=kv k,val:=u }) c) }:=by
      rcases U with rfl|rfl<;>simp[execOp,h.ev hx,h.ev W,h.ev S,Instr.mapUpdate,X,L,I.ok _ _ _,T _,Z,Instr.keyThatStays,F,E,I.same]
    unfold Oper.wp;rw[F];have J:=MapKept.heap_set (o':=.map (es.modify i λy=>{ y with key:=kv k,val:=u }) c) B;obtain⟨V,G⟩:=fw_ (w':={ v.w with heap:=v.w.heap.setIfInBounds b (.map (es.modify i λy=>{ y with key:=kv k,val:=u }) c) }) A hi rfl rfl rfl (yab_ _) zak_ J.1 (λk M=>J.2 k M);exact C a _ h V (Y.trans G) (ba_ (G.le A) O)
theorem ht_ {es:Array MapEntry} {i:Nat} {e:MapEntry} {key val:Value} (o:es[i]? = some e) (k:e.key=key) (u:e.val=val):(es.modify i λy=>{ y with key:=key,val:=val })=es:=by
 apply ycw_
 intro j;rw[ybl_]
 by_cases h:i=j
 .subst h;rw[yax_ rfl,o];simp only[yba_];rw[<-k,<-u]
 grind
theorem zS_ {o:Op} {t kt O:TypeId} {x y z:Operand} {b c:Nat} (n:Nat) {es:Array MapEntry} {q:List K} {k:K} (u:KeyT P kt kv) (B:o=.insert t x y z\/o=.mapUpdate t x y z) (E:∀ w,(underlying t).run P w=.ok (.map kt O) w)
    (G:Fr.ev fr x=some (.map (some b))) (C:Fr.ev fr y=some (kv k)) (J:Fr.ev fr z=some (.bool true)) (hi:H[n]? = some (b,.map es c)) (A:SetE kv es q)
    (v:∀ es' c',SetE kv es' (if k∈q then q else q++[k])->Ops P R N v0 H0 ops lo Kk fr (H.set n (b,.map es' c')) Γ):Ops P R N v0 H0 ops (⟨none,o,ty,ps,af,none⟩::lo) Kk fr H Γ:=by
  by_cases h:k∈q
  . obtain⟨i,e,Q,I,F,L,M⟩:=A.yes u h
    refine gQ_ n u B E G C J hi M I F ?_;rw[ht_ I F L]
    grind
  . exact bG_ n B E G C J hi (u.ok k) (A.no u h) (v _ _ (by rw[yam_ h];exact A.push h c))
theorem ye_ {t kt S:TypeId} {x y:Operand} {o:Nat} {e:TypeId} {sz:Nat} {l:List (K×D)} {k:K} {Z F:Hp} (G:KeyT P kt kv) (hm:kv_ kv cells e sz l o Z) (X:∀ w,(underlying t).run P w=.ok (.map kt S) w) (hz:∀ w,(zeroValue S).run P w=.ok (.slice none 0 0) w)
    (Y:Fr.ev fr x=some (.map (some o))) (V:Fr.ev fr y=some (kv k)) (hH:H.Perm (Z++F)) (hN:Nat.blt d N.n=true)
    (I:∀ es c i st sv C Hr,MOpn kv cells e sz l o k es c i st Hr->av_ e sz sv (lat l k).length ((lat l k).flatMap cells) C->Ops P R N v0 H0 ops lo Kk ((d,.tuple #[sv,.int .i64 st])::fr) ((o,.map es c)::(C++(Hr++F))) Γ) :
    Ops P R N v0 H0 ops (⟨some d,.mapEntry t x y,ty,ps,af,none⟩::lo) Kk fr H Γ:=by
  obtain⟨es,c,h,A,i,st,sv,C,Hr,p1,p2,p3,p4⟩:=hm.entry G k;refine dl_ rfl λa v B h2 h3 h4=>?_
  have T:H.Perm ((o,.map es c)::(C++(Hr++F))):=hH.trans (by
    have:=p1.append_right F
    grind)
  have u:=h2.perm T;have E:=(u.own _ yaq_).1;have O:=MapKept.run_getObj_map (P:=P) E
  have he:(execOp a.eval ⟨some d,.mapEntry t x y,ty,ps,af,none⟩).run P v.w=.ok (.value (.tuple #[sv,.int .i64 st])) { v.w with heap:=v.w.heap.setIfInBounds o (.map h A) }:=by
    rcases p4 with⟨L,rfl,rfl,rfl,rfl⟩|⟨j,z,L,q2,Q,rfl,rfl,rfl⟩
    . have M:=MapKept.run_setObj_map (P:=P) (.map (es.push ⟨kv k,.slice none 0 0,c⟩) (c+1)) E
      simp[execOp,B.ev Y,B.ev V,Instr.mapEntry,X,O,G.ok _ _ _,L _,hz,M,goInt]
    . have M:=MapKept.run_setObj_map (P:=P) (.map h A) E
      simp[execOp,B.ev Y,B.ev V,Instr.mapEntry,X,O,G.ok _ _ _,L _,Instr.keyThatStays,q2,Q,G.same,vq_ q2 Q,M,goInt]
  unfold Oper.wp;rw[he];have W:=MapKept.heap_set (o':=.map h A) E;obtain⟨U,J⟩:=fw_ (i:=0) (o':=.map h A) (w':={ v.w with heap:=v.w.heap.setIfInBounds o (.map h A) }) u rfl rfl rfl rfl (yab_ _) zak_ W.1 (λk I=>W.2 k I);simp only[ycU_]at U J;exact I h A i st sv C Hr p3 p2 _ _ (B.put hN) U (h3.trans (J.permL T.symm)) (ba_ (J.le u) h4)
theorem pu_ {t:TypeId} {x y z:Operand} {h c i:Nat} {e:TypeId} {sz:Nat} {l:List (K×D)} {k:K} {dd:D} {es:Array MapEntry} {st:Int} {sv:Value} {B Hr F:Hp} (G:MOpn kv cells e sz l h k es c i st Hr) (X:av_ e sz sv (lat (l++[(k,dd)]) k).length ((lat (l++[(k,dd)]) k).flatMap cells) B)
    (hx:Fr.ev fr x=some (.map (some h))) (W:Fr.ev fr y=some (.int .i64 st)) (U:Fr.ev fr z=some sv) (L:H.Perm ((h,.map es c)::(B++(Hr++F))))
    (C:∀ H',kv_ kv cells e sz (l++[(k,dd)]) h H'->Ops P R N v0 H0 ops lo Kk fr (H'++F) Γ):Ops P R N v0 H0 ops (⟨none,.entryStore t x y z,ty,ps,af,none⟩::lo) Kk fr H Γ:=by
  obtain⟨H',T,q2⟩:=G.close dd sv B X;refine dl_ rfl λa v A O Y S=>?_;have o:=O.perm L;have u:=(o.own _ yaq_).1;have Q:=MapKept.run_getObj_map (P:=P) u;have Z:=MapKept.run_setObj_map (P:=P) (.map (es.modify i λy=>{ y with val:=sv }) c) u
  have he:(execOp a.eval ⟨none,.entryStore t x y z,ty,ps,af,none⟩).run P v.w=.ok .skip { v.w with heap:=v.w.heap.setIfInBounds h (.map (es.modify i λy=>{ y with val:=sv }) c) }:=by
    have V:=G.find;simp[execOp,A.ev hx,A.ev W,A.ev U,Instr.entryStore,Q,Z,asInt,asIntOf,V]
  unfold Oper.wp;rw[he];have J:=MapKept.heap_set (o':=.map (es.modify i λy=>{ y with val:=sv }) c) u;obtain⟨I,E⟩:=fw_ (i:=0) (o':=.map (es.modify i λy=>{ y with val:=sv }) c) (w':={ v.w with heap:=v.w.heap.setIfInBounds h (.map (es.modify i λy=>{ y with val:=sv }) c) }) o rfl rfl rfl rfl (yab_ _) zak_ J.1 (λk C=>J.2 k C);simp only[ycU_]at I E
  have M:((h,Obj.map (es.modify i λy=>{ y with val:=sv }) c)::(B++(Hr++F))).Perm (H'++F):=by
    have:=(q2.append_right F).symm
    grind
  exact C H' T _ _ A (I.perm M) (Y.trans ((E.permL L.symm).subR λb u=>((M.map Prod.fst).mem_iff).2 u)) (ba_ (E.le o) S)
theorem zL_ {b:Nat×Obj} {O Q F:Hp} (h:H.Perm ((b::(O++Q))++F)):H.Perm (b::(O++(Q++F))):=by grind
theorem cg_ {b:Nat×Obj} {F:Hp} (h:H.Perm ([b]++F)):H.Perm (b::F):=h
theorem aL_ {b:Nat×Obj} {F k:Hp} (h:H.Perm ([b]++F)) (o:F.Perm k):H.Perm (b::k):=List.Perm.trans h (o.cons b)
theorem xy_ {fn:Func} {k:Ending->World->Prop} {c:Code} (h:Run P (bodyPost P fn k) N v0 H0 c [] fr H Γ):Run P (bodyPost P fn k) N v0 H0 (.scope c) [] fr H Γ :=
  λa v y u A x=>wp_scope_straight (wp_mono (h a v y u A x) λe a w o=>by cases e<;>exact o)
theorem xz_ {c:Nat} (h:Fin P R N v0 H0 Kk fr H Γ):Run P R N v0 H0 (.label c) Kk fr H Γ :=
  λa v u k x o=>wp_label (h a v u k x o)
end ops
end Go.Sx
namespace Go.Vs
open Go Go.Sx
structure Rul where
  f:Str
  s:Str
  r:Str
  deriving DecidableEq
structure Itm where
  r:Str
  i:Nat
  j:Nat
  deriving DecidableEq
def addI {α:Type} [DecidableEq α] (y:α) (l:List α):List α:=if y∈l then l else l++[y]
theorem mu_ {α:Type} [DecidableEq α] {y z:α} {l:List α}:z∈addI y l↔z∈l\/z=y:=by
  grind[addI]
section
variable {R:List Rul} {U:List Str} {n:Nat}
def Pr1 (n:Nat) (x:Itm) (T0:List Itm) (L:List Rul) (T:List Itm):Prop:=∀ y∈L,∀ e,x.j<=e->e<=n->(⟨y.s,x.j,e⟩:Itm)∈T0->(⟨y.r,x.i,e⟩:Itm)∈T
def Pr2 (x:Itm) (T0:List Itm) (L:List Rul) (T:List Itm):Prop:=∀ y∈L,∀ b,b<=x.i->(⟨y.f,b,x.i⟩:Itm)∈T0->(⟨y.r,b,x.j⟩:Itm)∈T
theorem Pr1.mono {x:Itm} {d T k:List Itm} {L:List Rul} (h:Pr1 n x d L T) (u:∀ y∈T,y∈k):Pr1 n x d L k:=λy v e A o B=>u _ (h y v e A o B)
theorem Pr2.mono {x:Itm} {d T e:List Itm} {L:List Rul} (h:Pr2 x d L T) (o:∀ y∈T,y∈e):Pr2 x d L e:=λy k b u v=>o _ (h y k b u v)
end
end Go.Vs
namespace Go.Sx
open Go Go.Vs
def my_ (T:List Itm) (r:Str):List Value:=(List.range 4225).map λk=>.bool (decide ((⟨r,k / 65,k%65⟩:Itm)∈T))
theorem tk_ (T:List Itm) (r:Str):(my_ T r).length=4225:=by simp[my_]
theorem rV_ (T:List Itm) (r:Str) {k:Nat} (e:k<4225):(my_ T r)[k]? = some (.bool (decide ((⟨r,k / 65,k%65⟩:Itm)∈T))):=by
  unfold my_;rw[yaD_,List.getElem?_range e];rfl
theorem spn_ix {i j:Nat} (e:j<=64):(i*65+j) / 65=i/\(i*65+j)%65=j:=by omega
theorem zl_ (T:List Itm) (r:Str) {i j:Nat} (hi:i<=64) (e:j<=64):(my_ T r)[i*65+j]? = some (.bool (decide ((⟨r,i,j⟩:Itm)∈T))):=by
  grind[rV_]
theorem pf_ {T:List Itm} {r q:Str} {i j:Nat} (h:q≠r):my_ (addI ⟨r,i,j⟩ T) q=my_ T q:=by
  grind[my_,mu_]
theorem zk_ (T:List Itm) (r:Str) {i j:Nat} (hi:i<=64) (h:j<=64):(my_ T r).set (i*65+j) (.bool true)=my_ (addI ⟨r,i,j⟩ T) r:=by
 apply yaT_
 intro k;rw[yck_,tk_];obtain⟨o,u⟩:=spn_ix (i:=i) h
 by_cases e:i*65+j=k
 .grind[zl_,mu_]
 rw[yam_ e]
 by_cases hl:k<4225
 .rw[rV_ _ _ hl,rV_ _ _ hl]
  grind[mu_]
 grind[tk_]
def hE_ (ks:List (Str×Nat)) (k:Str):Option Nat:=(ks.find? λp=>decide (p.1=k)).map (·.2)
def tptr (o:Option Nat):Value:=.pointer (o.map λb=>⟨b,0,none⟩)
def rS_ (tt:TypeId) (T:List Itm) (p:Str×Nat):Nat×Obj:=(p.2,.cells (my_ T p.1).toArray tt (0,0))
structure TabE (ks:List (Str×Nat)) (T:List Itm) (es:Array MapEntry):Prop where
  keys:es.toList.map (·.key)=(ks.map (·.1)).map str
  vals:es.toList.map (·.val)=ks.map λp=>tptr (some p.2)
  nd:(ks.map (·.1)).Nodup
  all:∀ x∈T,x.r∈ks.map (·.1)
def TabO (tt mb:Nat) (ks:List (Str×Nat)) (T:List Itm) (H:Hp):Prop:=∃ es c,H=(mb,.map es c)::ks.map (rS_ tt T)/\TabE ks T es
theorem mx_ {ks:List (Str×Nat)} {k:Str} {b:Nat} (h:hE_ ks k=some b):(k,b)∈ks:=by
  grind[hE_,Option.map_eq_some_iff]
theorem kc_ {ks:List (Str×Nat)} {k:Str} (h:hE_ ks k=none):k ∉ ks.map (·.1):=by
  grind[hE_,Option.map_eq_none_iff]
theorem ze_ {ks:List (Str×Nat)} {k:Str} {b:Nat} (h:hE_ ks k=none):hE_ (ks++[(k,b)]) k=some b:=by
  grind[hE_]
section
variable {P:Program} {kt:TypeId} {tt mb:Nat} {ks:List (Str×Nat)} {T:List Itm} {es:Array MapEntry} {H:Hp}
theorem TabO.at (h:TabO tt mb ks T H) {k:Str} {b:Nat} (A:hE_ ks k=some b):∃ Hr,H.Perm ((b,.cells (my_ T k).toArray tt (0,0))::Hr)/\
    ∀ i j,i<=64->j<=64->∃ H',TabO tt mb ks (addI ⟨k,i,j⟩ T) H'/\((b,Obj.cells ((my_ T k).set (i*65+j) (.bool true)).toArray tt (0,0))::Hr).Perm H':=by
  obtain⟨es,c,rfl,hE⟩:=h;have hm:=mx_ A;obtain⟨e,o,rfl⟩:=List.append_of_mem hm;refine⟨(mb,.map es c)::(e++o).map (rS_ tt T),?_,λi j hi C=>?_⟩
  . rw[yaz_,yaE_,yaz_]
    exact (List.Perm.cons _ ybo_).trans (.swap _ _ _)
  . refine⟨(mb,.map es c)::(e++(k,b)::o).map (rS_ tt (addI ⟨k,i,j⟩ T)),⟨es,c,rfl,hE.keys,hE.vals,hE.nd,λx v=>?_⟩,?_⟩
    . rcases mu_.1 v with v|rfl
      . exact hE.all x v
      . simp
    . have u:=hE.nd
      rw[yaz_,yaE_,ybA_,yby_]at u
      have B:e.map (rS_ tt (addI ⟨k,i,j⟩ T))=e.map (rS_ tt T):=ybG_ λp y=>by
        grind[rS_,pf_,List.mem_map_of_mem]
      have E:o.map (rS_ tt (addI ⟨k,i,j⟩ T))=o.map (rS_ tt T):=ybG_ λp y=>by
        grind[rS_,pf_]
      rw[zk_ T k hi C,yaz_,yaz_,yaE_,B,E];exact ((List.Perm.cons _ ybo_).trans (.swap _ _ _)).symm
end
section ops
variable {P:Program} {N:Nf} {v0:Vw} {H0:Hp} {R:Exit->Act->World->Prop} {K:List Kt} {fr:Fr} {H F:Hp} {Γ:List Fct}
variable {ops:Array Oper} {l:List Oper} {d:Nat} {ty:TypeId} {ps:String} {af:Array Edge}
variable {tt mb:Nat} {ks:List (Str×Nat)} {T:List Itm} {Hx:Hp}
end ops
end Go.Sx
namespace Go.Sx
open Go Go.Vs
structure IntE {K:Type} (kv:K->Value) (es:Array MapEntry) (ks:List K) (vs:List Int):Prop where
  keys:es.toList.map (·.key)=ks.map kv
  vals:es.toList.map (·.val)=vs.map λn=>Value.int .i64 n
  nd:ks.Nodup
section
variable {P:Program} {K:Type} [DecidableEq K] {kv:K->Value} {kt:TypeId} {es:Array MapEntry} {ks:List K} {vs:List Int}
theorem IntE.nil:IntE kv #[] ([]:List K) []:=⟨rfl,rfl,ybH_⟩
theorem IntE.no (e:KeyT P kt kv) (h:IntE kv es ks vs) {k:K} (o:k ∉ ks):ek_ P kt (kv k) es.toList none:=e.nf k es.toList ks h.keys o
theorem IntE.push (h:IntE kv es ks vs) {k:K} (e:k ∉ ks) (n:Int) (c:Nat):IntE kv (es.push ⟨kv k,.int .i64 n,c⟩) (ks++[k]) (vs++[n]):=by
  refine⟨by grind[keys],by grind[vals],?_⟩
  grind[nd]
end
section ops
variable {P:Program} {N:Nf} {v0:Vw} {H0:Hp} {R:Exit->Act->World->Prop} {Kk:List Kt} {fr:Fr} {H:Hp} {Γ:List Fct}
variable {ops:Array Oper} {lo:List Oper} {d:Nat} {ty:TypeId} {ps:String} {af:Array Edge}
variable {K:Type} [DecidableEq K] {kv:K->Value}
theorem vn_ {o:Op} {t kt F:TypeId} {x y z:Operand} {h c:Nat} (j:Nat) {es:Array MapEntry} {ks:List K} {vs:List Int} {k:K} {n:Int} (v:KeyT P kt kv) (A:o=.insert t x y z\/o=.mapUpdate t x y z) (C:∀ w,(underlying t).run P w=.ok (.map kt F) w)
    (E:Fr.ev fr x=some (.map (some h))) (B:Fr.ev fr y=some (kv k)) (G:Fr.ev fr z=some (.int .i64 n)) (hi:H[j]? = some (h,.map es c)) (hE:IntE kv es ks vs) (u:k ∉ ks)
    (e:∀ es' c',IntE kv es' (ks++[k]) (vs++[n])->Ops P R N v0 H0 ops lo Kk fr (H.set j (h,.map es' c')) Γ):Ops P R N v0 H0 ops (⟨none,o,ty,ps,af,none⟩::lo) Kk fr H Γ :=
  bG_ j A C E B G hi (v.ok k) (hE.no v u) (e _ _ (hE.push u n c))
end ops
def iot (n:Nat):List Int:=(List.range n).map Int.ofNat
theorem Cm_ {n i:Nat} {m:Int} (h:(iot n)[i]? = some m):m=i:=by
  grind[iot]
theorem mi_ (n:Nat):iot (n+1)=iot n++[(n:Int)]:=by simp[iot,List.range_succ]
theorem Cl_ (n:Nat):(iot n).length=n:=by simp[iot]
end Go.Sx
namespace Go.Sx
open Go
section
variable {P:Program} {N:Nf} {v0:Vw} {H0:Hp} {R:Exit->Act->World->Prop} {K:List Kt} {fr:Fr} {H F:Hp} {Γ:List Fct} {ops:Array Oper} {l:List Oper} {d:Nat} {ty:TypeId} {ps:String} {af:Array Edge} {e:TypeId} {sz n:Nat} {sv:Value} {xs:List Value} {Hr:Hp}
theorem tL_ {x y:Operand} {t A:TypeId} {by':Nat} {k kn:IntKind} (B:Elt P t e sz by') (C:P.underlying A=some (.int kn)) (O:Fr.ev fr x=some (.slice none 0 0)) (J:Fr.ev fr y=some (.int k (n:Int))) (M:0<n) (W:n*by'<=140737488355328) (E:n<=maxLen) (S:Nat.blt d N.n=true)
    (Q:∀ (y:Nat×Array Value) (b:Nat),(n<=y.1/\y.1<=maxLen/\y.2.size=y.1*sz)->Ops P R N v0 H0 ops l K ((d,.slice (some ⟨b,0,none⟩) n y.1)::fr) ((b,.cells y.2 e (0,0))::H) Γ) :
    Ops P R N v0 H0 ops (⟨some d,.call ⟨.builtin .append,#[x,y],#[t,A]⟩,ty,ps,af,none⟩::l) K fr H Γ :=
  pt_ (β:=Nat×Array Value) (x:=λy b=>.slice (some ⟨b,0,none⟩) n y.1) (o:=λy=>.cells y.2 e (0,0)) (λy=>n<=y.1/\y.1<=maxLen/\y.2.size=y.1*sz) S
    (λa v G V X=>by
      obtain⟨i,z,hi,U,es,T,I⟩:=B.info;subst es T;have L:=Lib.run_append_nil_zeros (P:=P) v.w t A ty e i z k kn B.und C hi U n M B.pos (by grind[maxLen]) zaa_;have u:=grownCap_ge v.w n 0 e;have h:=grownCap_le_maxLen v.w n 0 e E;refine⟨(grownCap v.w n 0 e,Builtin.zeroCells z.cells n++Builtin.zeroCells z.cells (grownCap v.w n 0 e - n)),v.w.drew.alloc (.cells (Builtin.zeroCells z.cells n++Builtin.zeroCells z.cells (grownCap v.w n 0 e - n)) e),⟨u,h,?_⟩,?_,rfl,rfl,rfl,rfl,by simp⟩
      . simp only[Array.size_append,size_zeroCells,I,<-ycE_]
        grind
      . simp only[execOp,resolve,invoke,builtin,Sem.run_bind,Sem.run_pure,Result.andThen_ok,ybd_,yaE_,ybz_,G.ev O,G.ev J,L])
    Q
theorem sW_ {x:Operand} {t:TypeId} {ad:Ao} {len cap:Nat} (k:∀ w,(underlying t).run P w=.ok (.slice e) w) (o:Fr.ev fr x=some (.slice ad len cap)) :
    Yld P N fr H Γ (.call ⟨.builtin .cap,#[x],#[t]⟩) ty (.int .i64 (cap:Int)) :=
  λa v h _ _ _ _ _=>by simp[execOp,resolve,invoke,builtin,Builtin.cap_,k,h.ev o,goInt]
theorem xr_ {b cap:Nat} {cur:Array Value} (h:cap<=maxLen) (k:cur.size=cap*sz):av_ e sz (.slice (some ⟨b,0,none⟩) 0 cap) 0 [] [(b,.cells cur e (0,0))] :=
  ⟨by simp,.inr ⟨b,cap,cur,rfl,rfl,yaV_ _,h,k,by simp⟩⟩
end
end Go.Sx
namespace Go.Sx
open Go
theorem tY_ {P:Program} {v:TypeId} {o:IntKind} (u:P.underlying v=some (.int o)):KeyT P v (λn:Int=>.int o n) where
  ok:=λk=>bR_ u
  nf:=λk es ks h A=>bu_ u (by
    have:∀ (ks:List Int) (es:List MapEntry) (i:Nat),es.map (·.key)=ks.map (λn:Int=>Value.int o n)->k ∉ ks->Instr.findNow (.int o) (.int o k) es i=some none:=by
      intro ks
      induction ks with
      | nil => intro es i h _; have : es = [] := by simpa using h
               subst this;rfl
      | cons q ks ih =>
        intro es i h A;cases es<;>grind[Instr.sameNow,Instr.findNow]
    grind)
  sf:=λk es ks i e h y hi B=>bu_ u (by
    have:∀ (ks:List Int) (es:List MapEntry) (j i:Nat),es.map (·.key)=ks.map (λn:Int=>Value.int o n)->ks.Nodup->ks[i]? = some k->es[i]? = some e->Instr.findNow (.int o) (.int o k) es j=some (some (j+i,e.val)):=by
      intro ks
      induction ks with
      | nil=>grind
      | cons q ks ih =>
        intro es j i h y hi B;cases es with
        | nil=>simp at h
        | cons x es =>
          simp only[yaE_,ybv_]at h;rw[yby_]at y;cases i<;>grind[Instr.sameNow,Instr.findNow]
    grind)
  same:=λk=>tl_ 10000 k
end Go.Sx
