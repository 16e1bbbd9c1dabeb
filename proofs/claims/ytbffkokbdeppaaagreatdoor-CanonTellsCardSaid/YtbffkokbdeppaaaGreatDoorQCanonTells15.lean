/-
  Lemmas for the law CanonTells (no condition).
-/
import Derived.Test.YtbffkokbdeppaaaGreatDoorQCanonTells14
import Derived.Shelf.SlSortCmp.NoneTotal
import Derived.Test.YtbffkokbdeppaaaGreatDoorProg
set_option linter.unusedVariables false
set_option linter.unusedSimpArgs false
set_option linter.unusedSectionVars false
set_option maxHeartbeats 1000000
namespace Go.Proofs.YtbffkokbdeppaaaGreatDoor
open Go Go.Sx Go.Proofs Tryz
attribute [local irreducible] Code.wp wpList wpAnyH
open Go.Vs Go.Shelf Go.RowKit
def hpB (m q:Str):Bool:=decide ((q.length:Int)<=(m.length:Int))&&(m.take q.length==q)
def nls (s:Str):Bool:=!(s.take 1==[123])
theorem Bu_ (s:Str):(!(hpB s [123]))=nls s:=by
  unfold hpB nls;cases s with
  | nil=>rfl
  | cons a s=>simp;intro h;omega
theorem wT_ (m q:Str):Fn0 prog 216 #[str m,str q] (.bool (hpB m q)):=by
 refine i_ func216 rfl rfl ntmps216 rfl λh=>?_;refine Zz 8 ?_;refine e_ (ck_ W_ rfl) rfl (Zz 1 ?_);refine e_ (ck_ W_ rfl) rfl ?_;refine Zi 0 (λd=>?_) λd=>?_
 .refine Zz 12 ?_
  exact ab_ results216 () (s_ rfl (by unfold hpB;simp[*])) g_ zt
 refine Zz 6 ?_;refine e_ (ck_ W_ rfl) rfl (ay_ rfl rfl (e_ (ao_ (eX_ (i:=0) (j:=q.length) (kl:=.i64) (kh:=.i64) W_ rfl rfl rfl (ybC_ _) zaa_) (show _=str (m.take q.length) by simp)) rfl (Zz 3 ?_)));refine E_ (cW_ rfl rfl) rfl λv e=>Zz 5 ?_
 exact ab_ results216 () (s_ rfl (by rw[<-e];unfold hpB;simp[*])) g_ zt
theorem qh_ (m q:Str):Fn0 prog 140 #[str m,str q] (.bool (hpB m q)):=by
  refine i_ func140 rfl rfl ntmps140 rfl λd=>?_;refine Zz 9 ?_;refine f_ (wT_ m q) rfl g_ zt rfl λ_=>Zz 4 ?_
  exact ab_ results140 () rfl g_ zt
theorem bW_ (s:Str):Fn0 prog 63 #[str s] (.bool (nls s)):=by
  refine i_ func63 rfl rfl ntmps63 rfl λd=>?_;refine Zz 8 ?_;refine f_ (qh_ s [123]) rfl g_ zt rfl λ_=>e_ (as_ rfl) rfl (Zz 4 ?_)
  exact ab_ results63 () (s_ rfl (Bu_ s)) g_ zt
theorem zL_ (x y:Fc):Fn0 prog 154 #[Fc.val x,Fc.val y] (iv_ (hU_ x y)):=by
  refine i_ func154 rfl rfl ntmps154 rfl λe=>?_;refine Zz 2 ?_;refine P_ rfl rfl λh=>P_ rfl rfl λm=>Zz 5 ?_
  refine D_ 9 [0,1,2,3,5,6,7,8,10,11,12,13,15,16,17,18,20,21,22,23,25,26,27,28] zk zs (Zz 25 ?_);refine p_ 4 rfl zk (f_ (dM_ x.kind y.kind) rfl g_ zt rfl λ_=>Zz 3 ?_);refine p_ 9 rfl zk (f_ (jB_ x.a y.a) rfl g_ zt rfl λ_=>Zz 3 ?_);refine p_ 14 rfl zk (f_ (jB_ x.b y.b) rfl g_ zt rfl λ_=>Zz 3 ?_);refine p_ 19 rfl zk (f_ (jB_ x.r y.r) rfl g_ zt rfl λ_=>Zz 3 ?_);refine p_ 24 rfl zk (f_ (dM_ x.lo y.lo) rfl g_ zt rfl λ_=>Zz 3 ?_);refine p_ 29 rfl zk (f_ (dM_ x.hi y.hi) rfl g_ zt rfl λ_=>Zz 3 ?_);refine p_ 30 rfl zk (O_ aZ_ ag_ dD_ rfl rfl rfl rfl rfl rfl λd=>?_);refine bC_ (List.flatMap fn_ [(Lib.compareInt x.kind y.kind),(Lib.compareBytes x.a y.a),(Lib.compareBytes x.b y.b),(Lib.compareBytes x.r y.r),(Lib.compareInt x.lo y.lo),(Lib.compareInt x.hi y.hi)]) d_ rfl ?_;refine Zz 3 ?_;refine p_ 31 rfl zk (f_ (sy_ [(Lib.compareInt x.kind y.kind),(Lib.compareBytes x.a y.a),(Lib.compareBytes x.b y.b),(Lib.compareBytes x.r y.r),(Lib.compareInt x.lo y.lo),(Lib.compareInt x.hi y.hi)] (some ⟨d,0,none⟩) 6 zaj_) rfl g_ zf rfl λ_=>Zz 3 ?_);refine D_ 0 [32] zk zs (Zz 5 ?_);exact ab_ results154 () (bl_ rfl (by rfl)) g_ zt
theorem zM_ (l:List Fc) (ad:Ao) (cap:Nat) (H:l.length<=cap) (hl:l.length<=1000000000000):Tri prog 239 #[.slice ad l.length cap] [] [ac_ ad (l.flatMap Fc.cells)] (λy:{y:Value×Hp // zR 104 6 Fc.cells y.1 l y.2}=>y.1.1) (λy=>y.1.2) (λ_=>[]):=by
 refine i_ func239 rfl rfl ntmps239 rfl λE=>?_;refine Zz 9 ?_;refine E_ (ny_ underlying50 rfl rfl) rfl λC d=>Zz 2 ?_
 cases C
 .replace d:=zdf d
  refine Zz 5 ?_;refine pR_ I_ y_ rfl λB=>A_ d_ (Zz 1 ?_)
  refine eD_ (news:=List.flatMap Fc.cells l) eb_ (si_ B 104 6) rfl rfl (λq=>absurd q d) H T_ (by rw[cr_ Fc.cells 6 Fc.cells_len]) zf (λu F=>az_ Fc.cells_one F) zaq_ zaa_ rfl λe m d=>?_;refine A_ yaB_ ?_;have A:at_ 104 6 e (List.length (([]:List Fc)++l)) (List.flatMap Fc.cells (([]:List Fc)++l)) m:=by rw[yaf_,yaY_];exact d
  refine Zz 4 ?_;exact ab_ results239 ⟨(e,m),by simpa using A⟩ rfl T_ zt
 replace d:=zdt d;refine Zz 7 ?_;refine yD_ (p:=List.flatMap Fc.cells l=[]) (λv _ h=>by have q:=h.1;subst d;exact sn_ q) λG=>?_;have x:l=[]:=yau_ (by have:=yae_ List.length G;rw[cr_ Fc.cells 6 Fc.cells_len,yaL_]at this;omega);exact ab_ results239 ⟨(.slice none 0 0,[]),by subst x;exact at_.nil _ _⟩ rfl g_ zt
theorem zJ_ (d off size:Nat) (w:World):CmpLays prog 154 #[] Fc.cells 6 hU_ d off size w:=λm os B _ x y=>by
  have h:=(zL_ x y).run ⟨λ_=>False,sortWorldK Fc.cells 6 w d off m B os,False⟩ ⟨by simp,by simp,λ_ h=>h.elim⟩ trivial;refine h.mono ?_;rintro e w' ⟨_,E,rfl,rfl,_,_,C⟩;obtain⟨q,v,A⟩:=fx_ C (λh=>h);exact⟨rfl,q,v,A⟩
theorem AH_ {sv:Value} {xs:List Fc} {Hr:Hp} (h:at_ 104 6 sv xs.length (xs.flatMap Fc.cells) Hr) (hl:xs.length<=1000000000000) :
    Tri prog 150 #[sv,.func (.func 154) #[] #[]] Hr [] (λ_:{y:Hp // at_ 104 6 sv (eU_ xs).length ((eU_ xs).flatMap Fc.cells) y}=>.tuple #[]) (λy=>y.1) (λ_=>[]):=by
  rcases h.2 with⟨rfl,K,rfl⟩|⟨g,cap,cur,rfl,rfl,G,J,E,L⟩
  . obtain rfl:xs=[]:=yau_ K
    have T:=bZ_ (P:=prog) (H:=[]) (Γ:=[]) (callable func150 rfl rfl) (λv _ _=>(AnyF.slices_SortFunc_none Tryz.sortFc none 0 (.func (.func 154) #[] #[]) v.w).mono zag_);exact⟨T.callable,λv a b=>(T.run v a b).mono zbi_⟩
  . have Q:(xs.flatMap Fc.cells).length=xs.length*6:=cr_ Fc.cells 6 Fc.cells_len xs
    have T:=mC_ (P:=prog) (Γ:=[]) (r:=.tuple #[]) (g:=g) (cur:=cur) (T:=104) (d:=((eU_ xs).flatMap Fc.cells).toArray) (f:=150) (args:=#[.slice (some ⟨g,0,none⟩) xs.length cap,.func (.func 154) #[] #[]]) (callable func150 rfl rfl) (λv M=>by
      have N:=AnyQ.slices_SortFunc_total Tryz.sortFc 6 bv_ y_ Fc.cells Fc.cells_len (λx u O=>yaW_.1 x.cells_one u O) hU_ Au_ 154 #[] g 0 cap xs.toArray v.w (λargs w=>(callable func154 rfl rfl) args w) (zJ_ g 0 _ v.w) zbO_ (yax_.1 (M.own _ yav_).1).1 zan_ totF;refine N.mono ?_;rintro e w' ⟨rfl,n,os,rfl⟩;refine⟨rfl,n,os,?_⟩;unfold sortWorldK Sort.putRowK;rw[show ((xs.toArray.toList.mergeSort λx y=>!(ltOf hU_) y x))=eU_ xs from rfl,hO_])
    refine⟨T.callable,λv a b=>(T.run v a b).mono ?_⟩;rintro e w' ⟨x,F,m,q,B,A,C⟩;have I:((eU_ xs).flatMap Fc.cells).length=xs.length*6:=by rw[cr_ Fc.cells 6 Fc.cells_len,dH_]
    refine⟨⟨_,by rw[I,dH_],.inr ⟨g,cap,_,by rw[dH_],rfl,by rw[dH_];exact G,J,by rw[jk_];exact E,?_⟩⟩,F,m,q,B,A,C⟩;have:=jj_ (cur:=cur) (d:=(eU_ xs).flatMap Fc.cells) (by rw[I,E];omega);rw[I]at this;rw[dH_];exact this
theorem uC_ (m:List Fc) (sv:Value) (Hr:Hp) (hr:zR 104 6 Fc.cells sv m Hr) (hl:m.length<=1000000000000):Tri prog 240 #[sv] Hr [] (λy:{y:Value×Hp // zR 104 6 Fc.cells y.1 (cpL (λx w:Fc=>decide (x=w)) m) y.2}=>y.1.1) (λy=>y.1.2) (λ_=>[]):=by
 refine i_ func240 rfl rfl ntmps240 rfl λv_1=>?_;refine Zz 9 ?_;refine e_ (cv_ hr I_ rfl) rfl ?_;refine Zi 0 (λN=>?_) λN=>?_
 .refine Zz 12 ?_
  refine H_ (ι:={y:Nat×Value×Hp // y.1+1<=List.length m/\cpL (λx w:Fc=>decide (x=w)) (List.take (y.1+1) m)=List.take (y.1+1) m/\zR 104 6 Fc.cells y.2.1 m y.2.2}) (λy=>[(0,y.1.2.1),(3,iv_ ((y.1.1+1:Nat):Int))]) (λy=>(y.1.2.2)) (λy=>[]) (λy=>m.length - y.1.1) ⟨((0:Nat),sv,Hr),zaa_,(by obtain⟨t_1,tl,rfl⟩:=ycj_ (show 0<m.length by omega);rfl),hr⟩ zl T_ zt ?_;rintro ⟨⟨k,v,H⟩,hk,K,d⟩;dsimp only at hk K d ⊢;refine Zz 5 ?_;refine e_ (cv_ d I_ rfl) rfl ?_;refine Zi 0 (λa3=>?_) λa3=>?_
  .refine Zz 12 ?_
   have e:cpL (λx w:Fc=>decide (x=w)) m=m:=(by first|exact jA_ zaa_|(have q:=K;rw[yab_ zaa_]at q;exact q));exact ab_ results240 ⟨(v,H),by rw[e];exact d⟩ rfl T_ zt
  refine Zz 8 ?_;have O:(k+1:Nat)<m.length:=by omega
  obtain⟨z_1,F⟩:∃ e,m[(k+1:Nat)]? = some e:=⟨_,yaa_ O⟩;have S:k<m.length:=by omega
  obtain⟨w_1,I⟩:∃ e,m[k]? = some e:=⟨_,yaa_ S⟩;refine Zz 1 ?_;refine D_ 0 [0,1,2,3,4,5,6,7,8,9] zk zs (Zz 2 ?_);refine M_ rfl (be_ d I_ y_ rfl rfl zaa_ zaa_) rfl (M_ rfl (cS_ d T_ bv_ y_ rfl (Fc.cells_len _) zae_ (w_ Fc.cells_len F)) rfl (Zz 2 ?_));refine M_ rfl (ao_ (aC_ rfl rfl rfl (bq_ zaa_ zaa_)) (show _=iv_ k from yae_ _ zaa_)) rfl (M_ rfl (be_ d I_ y_ rfl rfl zaa_ zaa_) rfl (M_ rfl (cS_ d T_ bv_ y_ rfl (Fc.cells_len _) zae_ (w_ Fc.cells_len I)) rfl (es_ rfl (cx_ rfl rfl) rfl λa6 B=>Zz 3 ?_)));cases a6
  .replace B:=zdf B
   refine Zz 5 ?_;refine e_ (ao_ (aC_ rfl rfl rfl (bq_ zaa_ zaa_)) (show _=iv_ ((k+1+1:Nat):Int) from yae_ _ zaa_)) rfl (Zz 3 ?_);exact u_ ⟨(k+1,v,H),(by have:=O;omega),(tj_ K I F (by simpa using B)),d⟩ zab_ zl T_ zt
  replace B:=zdt B;refine Zz 5 ?_;refine e_ (kw_ (k:=(k+1:Nat)) d I_ y_ rfl rfl zaa_) rfl (Zz 10 ?_);refine H_ (ι:={y:List Fc×Nat×Nat×Value×Hp // CmI (λx w:Fc=>decide (x=w)) m y.1 y.2.1 (k+1+y.2.2.1+1)/\zR 104 6 Fc.cells y.2.2.2.1 y.1 y.2.2.2.2}) (λy=>[(0,y.1.2.2.2.1),(3,iv_ y.1.2.1),(4,svT y.1.2.2.2.1 m.length (k+1) 6),(5,iv_ ((y.1.2.2.1+1:Nat):Int))]) (λy=>(y.1.2.2.2.2)) (λy=>[]) (λy=>m.length - y.1.2.2.1) ⟨(m,(k+1),(0:Nat),v,H),(CmI.none K I F (by simpa using B)),d⟩ zl T_ zt ?_;rintro ⟨⟨M,C,h,v,H⟩,G,d⟩;dsimp only at G d ⊢;have hMl:=G.len;have hpl:=G.pl;have hkp:=G.kp;refine Zz 5 ?_;refine e_ (py_ I_ rfl) rfl ?_;refine Zi 0 (λZ=>?_) λZ=>?_
  .refine Zz 9 ?_
   refine e_ (kw_ (k:=C) d I_ y_ rfl rfl zaa_) rfl (op_ (k:=C) d T_ I_ R_ rfl rfl zae_ rfl zaa_ λX zs_1 hz_2 a2=>A_ dk_ (Zz 6 ?_));obtain⟨Y,E,A⟩:=zA_ (P:=prog) (k:=C) a2 zaa_ zaa_;refine e_ (A I_ y_ rfl rfl) rfl (Zz 4 ?_);have W:CmI (λx w:Fc=>decide (x=w)) m M C m.length:=by have q:=G;rw[show k+1+h+1=m.length by omega]at q;exact q
   have a4:=W.done;have T:(M.take C).length=C:=by rw[yaD_];omega
   exact ab_ results240 ⟨(Y,X),by show at_ 104 6 _ _ _ _;rw[<-a4,T,<-np_ Fc.cells 6 Fc.cells_len];have q:=E;rw[ycq_ (by rw[yaD_,cr_ Fc.cells 6 Fc.cells_len];omega),ydg_,Nat.min_self]at q;exact q⟩ rfl T_ zt
  refine Zz 8 ?_;have U:(k+1+h:Nat)<M.length:=by omega
  obtain⟨x_1,J⟩:∃ e,M[(k+1+h:Nat)]? = some e:=⟨_,yaa_ U⟩;have V:(k+1+(h+1):Nat)<M.length:=by omega
  obtain⟨L,A⟩:∃ e,M[(k+1+(h+1):Nat)]? = some e:=⟨_,yaa_ V⟩;refine Zz 1 ?_;refine D_ 0 [0,1,2,3,4,5,6,7,8,9] zk zs (Zz 2 ?_);refine M_ rfl (je_ (j:=(h+1:Nat)) I_ y_ rfl rfl zaa_) rfl (M_ rfl (cS_ d T_ bv_ y_ rfl (Fc.cells_len _) zae_ (w_ Fc.cells_len A)) rfl (Zz 2 ?_));refine M_ rfl (ao_ (aC_ rfl rfl rfl (bq_ zaa_ zaa_)) (show _=iv_ h from yae_ _ zaa_)) rfl (M_ rfl (je_ (j:=h) I_ y_ rfl rfl zaa_) rfl (M_ rfl (cS_ d T_ bv_ y_ rfl (Fc.cells_len _) zae_ (w_ Fc.cells_len J)) rfl (es_ rfl (gS_ rfl rfl) rfl λa5 E=>Zz 3 ?_)));cases a5
  .refine Zz 5 ?_
   refine e_ (ao_ (aC_ rfl rfl rfl (bq_ zaa_ zaa_)) (show _=iv_ ((h+1+1:Nat):Int) from yae_ _ zaa_)) rfl (Zz 3 ?_);exact u_ ⟨(M,C,h+1,v,H),(G.skip J A zbe_),d⟩ (by have:=G.pl;have:=G.kp;dsimp only;omega) zl T_ zt
  refine Zz 2 ?_;have R:C<M.length:=by omega
  obtain⟨o_1,ho_1⟩:∃ e,M[C]? = some e:=⟨_,yaa_ R⟩;refine Zz 5 ?_;refine e_ (je_ (j:=(h+1:Nat)) I_ y_ rfl rfl zaa_) rfl (e_ (cS_ d T_ bv_ y_ rfl (Fc.cells_len _) zae_ (w_ Fc.cells_len A)) rfl (e_ (be_ d I_ y_ rfl rfl zaa_ zaa_) rfl (om_ (k:=C*6) (us:=Fc.cells L) d T_ y_ rfl rfl zaa_ (Fc.cells_len _) zae_ (Fc.cells_one _) λQ N=>?_)));have a1:=rl_ Fc.cells 6 Fc.cells_len M C L zaa_;have a0:at_ 104 6 v (List.set M C L).length (List.flatMap Fc.cells (List.set M C L)) Q:=by rw[ybs_,<-a1];exact N
  refine A_ dk_ (Zz 4 ?_);refine e_ (ao_ (aC_ rfl rfl rfl (bq_ zaa_ zaa_)) (show _=iv_ ((C+1:Nat):Int) from yae_ _ zaa_)) rfl (Zz 5 ?_);refine e_ (ao_ (aC_ rfl rfl rfl (bq_ zaa_ zaa_)) (show _=iv_ ((h+1+1:Nat):Int) from yae_ _ zaa_)) rfl (Zz 3 ?_);exact u_ ⟨((List.set M C L),C+1,h+1,v,Q),(G.keep J A zbe_),a0⟩ (by have:=G.pl;have:=G.kp;dsimp only;omega) zl T_ zt
 refine Zz 10 ?_;have e:cpL (λx w:Fc=>decide (x=w)) m=m:=(by first|exact jA_ zaa_|(have q:=K;rw[yab_ zaa_]at q;exact q));exact ab_ results240 ⟨(sv,Hr),by rw[e];exact hr⟩ rfl T_ zt
def clF (f:Fc):Bool:=lE_ f&&decide (f.b=[33])&&(decide (f.a=[42])||hpB f.a [123])
def CoR (l:List Ax) (ok:Bool) (e:Int):Prop:=∃ e0,BCk l e0/\((e0≠0/\ok=false/\e=e0)\/(e0=0/\∃ c e2,dF_ (bL_ 0 l) 1073741824 c e2/\((e2≠0/\ok=false/\e=e2)\/(e2=0/\e=0/\ok=!(c.facts.any clF)))))
def EnR (l:List Ax) (a:Ax) (ok:Bool) (e:Int):Prop:=∃ e0,BCk l e0/\((e0≠0/\ok=false/\e=e0)\/(e0=0/\∃ y te,TyR a (y,te)/\((te≠0/\ok=false/\e=te)\/(te=0/\FaR l y ok e))))
theorem xP_:gp_ prog 96 [(0,1)] [.slice none 0 0]:=⟨_,zeroValue96,runUnderlying96,λw=>by simp[Cr_]⟩
theorem sQ_ (l:List Ax) (ad:Ao) (cap:Nat) (d:∀ x∈l,x.ok) (m:∀ x∈l,x.check=0) (e:l.length<=12):Tri prog 70 #[.agg #[.slice ad l.length cap],.slice none 0 0] [] [cG_ ad l,ac_ none (List.flatMap Pc.cells []),bN_,hx_] (λy:{y:Cl×Int // dF_ (bL_ 0 l) 1073741824 y.1 y.2}=>.tuple #[y.1.1.val,iv_ y.1.2]) (λ_=>[]) (λy=>y.1.1.row):=by
  have h:=oC_ l ad cap d m e [] none 0 (yaj_ _) (λ_=>rfl) zaj_ zaj_;rw[yaw_]at h;exact h
theorem mi_ {G:Prop} (h:G:=by
 exact u_ ⟨(i+1,x.a,true),d,zbZ_⟩ zab_ zl (c_ d_) zh):G:=h
theorem zO_ (c:Cl) (L:c.facts.length<=1000000000000):Tri prog 71 #[Cl.val c] [] [ac_ c.fad (c.facts.flatMap Fc.cells)] (λy:{y:Str×Bool // y.2=c.facts.any clF}=>.tuple #[str y.1.1,.bool y.1.2]) (λ_=>[]) (λ_=>[]):=by
 refine i_ func71 rfl rfl ntmps71 rfl λJ=>?_;refine Zz 2 ?_;refine P_ rfl rfl λH=>Zz 14 ?_
 refine H_ (ι:={y:Nat×Str×Bool // y.1<=List.length c.facts/\(y.2.2=List.any (c.facts.take y.1) clF)}) (λy=>[(2,str y.1.2.1),(3,.bool y.1.2.2),(7,.slice c.fad c.facts.length c.fcap),(8,iv_ (List.length c.facts:Int)),(9,iv_ y.1.1)]) (λy=>((H,.cells #[.slice c.aad c.atoms.length c.acap,.slice c.fad c.facts.length c.fcap] 110 (0,0))::[])) (λy=>[ac_ c.fad (c.facts.flatMap Fc.cells)]) (λy=>c.facts.length - y.1.1) ⟨((0:Nat),([]:Str),false),by simp,zaj_⟩ zl d_ zh ?_;rintro ⟨⟨i,a,b⟩,E,A⟩;dsimp only at E A ⊢;refine Zi 2 (λC=>?_) λC=>?_
 .refine Zz 15 ?_
  exact fP_ results71 ⟨(a,b),by dsimp only;rw[yab_ zaa_]at A;exact A⟩ rfl rfl rfl g_ zt
 have d:i<c.facts.length:=by omega
 obtain⟨x,e⟩:∃ F,c.facts[i]? = some F:=⟨_,yaa_ d⟩;refine Zz 12 ?_;refine x_ R_ rfl λK=>n_ 0 y_ rfl rfl rfl rfl rfl rfl (Zz 6 ?_)
 refine S_ (Bp_ x) rfl g_ zt rfl λI m=>e_ (as_ rfl) rfl (Zz 1 ?_)
 cases I
 .refine Zz 25 ?_
  exact u_ ⟨(i+1,a,b),d,(by rw[tk1 e,yci_];rw[<-A];simp[clF,m])⟩ zab_ zl (c_ d_) zh
 refine Zi 5 (λh=>?_) λh=>?_
 .refine Zi 7 (λv=>?_) λv=>?_
  .refine Zz 17 ?_
   refine e_ (as_ rfl) rfl (Zz 1 ?_);cases b
   .refine Zz 20 ?_
    exact u_ ⟨(i+1,x.a,true),d,(by rw[tk1 e,yci_];simp[clF,m,h,v,<-A])⟩ zab_ zl (c_ d_) zh
   refine Zi 7 (λq=>?_) λq=>?_
   .refine Zz 11 ?_
    exact u_ ⟨(i+1,a,true),d,zbZ_⟩ zab_ zl (c_ d_) zh
   refine Zz 16 ?_;exact mi_
  refine Zz 7 ?_;refine S_ (qh_ x.a [123]) rfl g_ zt rfl λG q=>ay_ rfl rfl (e_ (as_ rfl) rfl (Zz 5 ?_))
  cases G
  .refine Zz 8 ?_
   exact u_ ⟨(i+1,a,b),d,(by rw[tk1 e,yci_];rw[<-A];simp[clF,m,h,v,q])⟩ zab_ zl (c_ d_) zh
  refine Zz 6 ?_;refine e_ (as_ rfl) rfl (Zz 1 ?_);cases b
  .refine Zz 20 ?_
   exact mi_
  refine Zi 7 (λB=>?_) λB=>?_
  .refine Zz 11 ?_
   exact u_ ⟨(i+1,a,true),d,zbY_⟩ zab_ zl (c_ d_) zh
  refine Zz 16 ?_;exact u_ ⟨(i+1,x.a,true),d,zbY_⟩ zab_ zl (c_ d_) zh
 refine Zz 22 ?_;exact u_ ⟨(i+1,a,b),d,(by rw[tk1 e,yci_];rw[<-A];simp[clF,m,h])⟩ zab_ zl (c_ d_) zh
theorem rz_ (l:List Ax) (ad:Ao) (cap:Nat) (G:∀ x∈l,x.ok) (H:l.length<=12):Tri prog 25 #[.agg #[.slice ad l.length cap]] [] [cG_ ad l,bN_,hx_] (λy:{y:Bool×Int // CoR l y.1 y.2}=>.tuple #[.bool y.1.1,iv_ y.1.2]) (λ_=>[]) (λ_=>[]):=by
 refine i_ func25 rfl rfl ntmps25 rfl λI=>?_;refine Zz 2 ?_;refine P_ rfl rfl λM=>Zz 8 ?_
 refine f_ (iY_ l ad cap G zaa_) rfl g_ zf rfl λ⟨m,d⟩=>?_;dsimp only;refine Zi 6 (λA=>?_) λA=>?_
 .have q:m=0:=by simpa using A
  have J:∀ x∈l,x.check=0:=jE_ (pb_ (q▸d)).1;refine Zz 9 ?_;refine e_ (C_ xP_ rfl rfl) rfl (f_ (sQ_ l ad cap G J H) rfl g_ (λv _ h=>by exact⟨h.1,.inl rfl,h.2.1,h.2.2.1,trivial⟩) rfl λ⟨⟨C,E⟩,e⟩=>?_);dsimp only;try dsimp only at e
  have L:=dF_.len e;refine Zz 3 ?_;refine x_ iy_ rfl λK=>n_ 0 bn_ rfl rfl rfl rfl rfl rfl (Zi 7 (λB=>?_) λB=>?_)
  .refine Zz 8 ?_
   refine f_ (zO_ C zaa_) rfl g_ zf rfl λ⟨⟨N,kb⟩,F⟩=>?_;dsimp only;dsimp only at F;refine Zz 10 ?_;refine e_ (as_ rfl) rfl (Zz 5 ?_);exact fP_ results25 ⟨(!kb,0),⟨m,d,.inr ⟨q,C,E,e,.inr ⟨by simpa using B,rfl,by rw[<-F]⟩⟩⟩⟩ rfl rfl rfl g_ zt
  refine Zz 11 ?_;exact fP_ results25 ⟨(false,E),⟨m,d,.inr ⟨q,C,E,e,.inl ⟨by simpa using B,rfl,rfl⟩⟩⟩⟩ rfl rfl rfl g_ zt
 refine Zz 11 ?_;exact fP_ results25 ⟨(false,m),⟨m,d,.inl ⟨by simpa using A,rfl,rfl⟩⟩⟩ rfl rfl rfl g_ zt
theorem lJ_ (l:List Ax) (ad:Ao) (cap:Nat) (I:∀ x∈l,x.ok) (L:l.length<=12) (a:Ax) (M:a.ok) (J:∀ y C,TyR a (y,C)->C=(0:Int)->∃ q F,y.goalP=(q,F,0)/\q.length<=100000/\(∀ z∈q,z.sm)/\F.length<=100000/\y.check=0/\(y.kind=8\/y.kind=9)):Tri prog 19 #[.agg #[.slice ad l.length cap],Ax.val a] [] [cG_ ad l,Ax.memF a,bN_,hx_] (λy:{y:Bool×Int // EnR l a y.1 y.2}=>.tuple #[.bool y.1.1,iv_ y.1.2]) (λ_=>[]) (λ_=>[]):=by
 refine i_ func19 rfl rfl ntmps19 rfl λX=>?_;refine Zz 2 ?_;refine P_ rfl rfl λY=>P_ rfl rfl λV=>Zz 8 ?_
 refine f_ (iY_ l ad cap I zaa_) rfl g_ zf rfl λ⟨h,e⟩=>?_;dsimp only;refine Zi 6 (λB=>?_) λB=>?_
 .have m:h=0:=by simpa using B
  have U:∀ x∈l,x.check=0:=jE_ (pb_ (m▸e)).1;refine Zz 8 ?_;refine f_ (nJ_ a M) rfl g_ zf rfl λ⟨⟨A,C⟩,d⟩=>?_;dsimp only;try dsimp only at d
  refine Zz 3 ?_;refine x_ aJ_ rfl λZ=>n_ 0 L_ rfl rfl rfl rfl rfl rfl (Zi 7 (λv=>?_) λv=>?_)
  .have G:C=0:=by simpa using v
   have H:A.ok:=(d.2 G).2;obtain⟨P,S,E,O,Q,K,N,R⟩:=J A C d G;refine Zz 9 ?_;refine e_ (C_ xP_ rfl rfl) rfl (Zz 1 ?_);refine f_ (ul_ l ad cap I U L A H P S E O Q K (By_ H N zaa_ E) R) rfl g_ zf rfl λ⟨⟨fb,W⟩,T⟩=>?_;dsimp only;try dsimp only at T
   refine Zz 7 ?_;exact fP_ results19 ⟨(fb,W),⟨h,e,.inr ⟨m,A,C,d,.inr ⟨G,T⟩⟩⟩⟩ rfl rfl rfl g_ zt
  refine Zz 11 ?_;exact fP_ results19 ⟨(false,C),⟨h,e,.inr ⟨m,A,C,d,.inl ⟨by simpa using v,rfl,rfl⟩⟩⟩⟩ rfl rfl rfl g_ zt
 refine Zz 11 ?_;exact fP_ results19 ⟨(false,h),⟨h,e,.inl ⟨by simpa using B,rfl,rfl⟩⟩⟩ rfl rfl rfl g_ zt
theorem sI_ {a b:Str} (m:a.length<=1000) (h:b.length<=1000):∀ z∈cM_ (-1) [a,b] [],z.sm:=by
 by_cases e:a=b
 .subst e
  intro z d;simp[cM_,ins,pi_]at d
  subst d;constructor<;>simp<;>omega
 intro z d;simp[cM_,ins,pi_,e,Ne.symm e]at d
 rcases d with rfl|rfl<;>constructor<;>simp<;>omega
theorem Ao_ {p:Pc} (h:p.valid=true) (hk:p.kind=1\/p.kind=2\/p.kind=3\/p.kind=4\/p.kind=8):p.a≠[]:=by
 unfold Pc.valid at h
 split at h
 .simp at h
 split at h
 .simp at h
 split at h
 .simp at h
 simp only[yaq_]at h;obtain⟨⟨⟨⟨⟨v,x⟩,_⟩,_⟩,_⟩,_⟩:=h
 have e:∀ {b:Bool},bY_ b p.a bd_=true->b=true->p.a≠[]:=λd m=>by
   subst m;simp[bY_]at d;exact rG_ d
 rcases hk with q|q|q|q|q<;>rw[q]at v<;>exact e v zae_
theorem An_ {p:Pc} (h:p.valid=true) (hk:p.kind=2):p.b≠[]:=by
 unfold Pc.valid at h
 split at h
 .simp at h
 split at h
 .simp at h
 split at h
 .simp at h
 simp only[yaq_]at h;obtain⟨⟨⟨⟨⟨v,q⟩,_⟩,_⟩,_⟩,_⟩:=h
 have e:∀ {b:Bool},bY_ b p.b bd_=true->b=true->p.b≠[]:=λd m=>by
   subst m;simp[bY_]at d;exact rG_ d
 rw[hk]at q;exact e q zae_
theorem zw_ {p:List Pc} (m:cs_ p=0) {B:List Str} {y:Fc} (h:Der p B y):Der p (atS p) (qM_ (atS p) y) :=
 BK_ (rH_ p) (jF_ p) (λx e s v=>by
   by_cases q:s=[]
   . exact .inr q
   . exact .inl (vN_ e v q)) (λx e=>by
   have d:=eH_ m x e;have hk:=(pcN_of d).1;exact⟨λq=>Ao_ d zaa_,λq=>An_ d q,λq=>kL_ d q⟩) h
section
variable {l:List Ax} {S:List Str} (hl:l.length<=12) (hok:∀ x∈l,x.ok) (hc:∀ x∈l,x.check=0)
include hl hok hc
end
theorem uG_ {l:List Ax} (hl:l.length<=12) (hok:∀ x∈l,x.ok) (hc:∀ x∈l,x.check=0):cs_ (bL_ 0 l)=0:=by
  have h:=xl_ (S:=[]) hl hok hc rfl zaj_;simpa [kk_] using h
theorem BV_ {f:Fc}:clF f=true↔f=X_ f.a [33]/\(f.a=[42]\/hpB f.a [123]=true):=by
 unfold clF lE_;simp only[yaq_,yby_,yaI_];constructor
 .rintro ⟨⟨d,h⟩,e⟩
  exact⟨by rw[h]at d;exact d,e⟩
 rintro ⟨d,h⟩;have e:f.b=[33]:=by rw[d];rfl
 exact⟨⟨by rw[e];exact d,e⟩,h⟩
theorem co_ok {l:List Ax} {ok:Bool} {e:Int} (q:BCk l 0) (h:CoR l ok e):∃ c d,dF_ (bL_ 0 l) 1073741824 c d/\((d≠0/\ok=false/\e=d)\/(d=0/\e=0/\ok=!(c.facts.any clF))):=by
 obtain⟨v,m,h|h⟩:=h
 .exact absurd (m.uniq q) h.1
 exact h.2
end Go.Proofs.YtbffkokbdeppaaaGreatDoor
namespace Go.Proofs.YtbffkokbdeppaaaGreatDoor
open Go Go.Sx Go.Proofs Tryz
attribute [local irreducible] Code.wp wpList wpAnyH
open Go.Vs
theorem plain_head {s:Str} (h:bj_ s=true):s.head? ≠ some 123:=by
 have q:∀ {t:Str},gC_ t=true->t.head? ≠ some 123:=fun {t} ht e=>by
   cases t with
   | nil=>simp at e
   | cons a t =>
     simp only[List.head?_cons,yak_]at e;subst e
     revert ht
     simp[gC_,et_]
 unfold bj_ at h;rw[yaq_]at h;obtain⟨_,h⟩:=h
 split at h
 .exact q h
 rename_i k _
 rw[yaq_]at h;have d:=q h.1;intro e;cases s with
 | nil=>simp at e
 | cons a t =>
   cases k with
   | zero=>have m:=h.1;revert m;simp[gC_]
   | succ k=>exact d zbc_
section
open Go.Vs.Con
section
variable {f:Int} {V:List Str}
end
end
end Go.Proofs.YtbffkokbdeppaaaGreatDoor
namespace Go.Proofs.YtbffkokbdeppaaaGreatDoor
open Go Go.Sx Go.Proofs Tryz
attribute [local irreducible] Code.wp wpList wpAnyH
open Go.Vs
theorem wF_ {a b:Str} (h:a≠b):cM_ (-1) [a,b] []=kk_ [a,b]:=by
  simp[cM_,ins,pi_,kk_,h,Ne.symm h]
theorem ind_ne {s n:Str} (d:bj_ n=true):bp_ s≠n:=λe=>plain_head d (by rw[<-e];simp[bp_])
theorem zx_ {fs:List Fc} {a b:Str}:pq_ fs (X_ a b)=true↔X_ a b∈fs\/X_ a [33]∈fs:=by
 unfold pq_;rw[ybT_];constructor
 .rintro ⟨x,d,h⟩
  simp only[yby_,yaq_,yaI_]at h;rcases h with (h|h)|h
  .exact .inl (h▸d)
  .exact .inr (h▸d)
  exact absurd (yae_ Fc.kind h.1.1) (by simp[X_,an_])
 rintro (h|h)
 .exact⟨_,h,by simp⟩
 exact⟨_,h,by simp[X_]⟩
end Go.Proofs.YtbffkokbdeppaaaGreatDoor
namespace Go.Proofs
open Go.Shelf
def Tryz.sortSt_ren:Go.Shelf.Ren:=⟨fun|6=>242|15=>181|14=>302|28=>267|29=>268|20=>339|21=>340|22=>341|23=>342|24=>343|25=>344|26=>345|27=>346|46=>376|47=>309|48=>310|49=>377|50=>378|57=>393|n=>n,fun|22=>25|24=>9|25=>180|3=>3|39=>231|0=>0|53=>306|55=>308|4=>4|46=>300|45=>299|50=>249|5=>5|9=>9|66=>349|70=>237|76=>388|77=>389|n=>n,fun|n=>n⟩
theorem Tryz.sortSt:Go.Proofs.SlLaysF.n6 Tryz.prog Tryz.sortSt_ren:={
  mixed:=by kernel_rfl
  f6:=⟨Tryz.f242.name,by decide,Tryz.func242.trans (yae_ some zac_)⟩
  f14:=⟨Tryz.f302.name,by decide,Tryz.func302.trans (yae_ some zac_)⟩
  f15:=Tryz.func181.trans (yae_ some zac_)
  f20:=⟨Tryz.f339.name,by decide,Tryz.func339.trans (yae_ some zac_)⟩
  f21:=⟨Tryz.f340.name,by decide,Tryz.func340.trans (yae_ some zac_)⟩
  f22:=⟨Tryz.f341.name,by decide,Tryz.func341.trans (yae_ some zac_)⟩
  f23:=⟨Tryz.f342.name,by decide,Tryz.func342.trans (yae_ some zac_)⟩
  f24:=⟨Tryz.f343.name,by decide,Tryz.func343.trans (yae_ some zac_)⟩
  f25:=⟨Tryz.f344.name,by decide,Tryz.func344.trans (yae_ some zac_)⟩
  f26:=⟨Tryz.f345.name,by decide,Tryz.func345.trans (yae_ some zac_)⟩
  f27:=⟨Tryz.f346.name,by decide,Tryz.func346.trans (yae_ some zac_)⟩
  f28:=Tryz.func267.trans (yae_ some zac_)
  f29:=Tryz.func268.trans (yae_ some zac_)
  f46:=⟨Tryz.f376.name,by decide,Tryz.func376.trans (yae_ some zac_)⟩
  f47:=Tryz.func309.trans (yae_ some zac_)
  f48:=Tryz.func310.trans (yae_ some zac_)
  f49:=⟨Tryz.f377.name,by decide,Tryz.func377.trans (yae_ some zac_)⟩
  f50:=⟨Tryz.f378.name,by decide,Tryz.func378.trans (yae_ some zac_)⟩
  f57:=⟨Tryz.f393.name,by decide,Tryz.func393.trans (yae_ some zac_)⟩
  t0:=Tryz.underlying0
  a0:=Tryz.isAgg0
  z0:=Tryz.sizeOf0
  v0:=Tryz.zeroValue0
  t3:=Tryz.underlying3
  a3:=Tryz.isAgg3
  z3:=Tryz.sizeOf3
  v3:=Tryz.zeroValue3
  t4:=Tryz.underlying4
  a4:=Tryz.isAgg4
  z4:=Tryz.sizeOf4
  v4:=Tryz.zeroValue4
  t5:=Tryz.underlying5
  a5:=Tryz.isAgg5
  z5:=Tryz.sizeOf5
  v5:=Tryz.zeroValue5
  t9:=Tryz.underlying9
  a9:=Tryz.isAgg9
  z9:=Tryz.sizeOf9
  v9:=Tryz.zeroValue9
  t22:=Tryz.underlying25
  a22:=Tryz.isAgg25
  z22:=Tryz.sizeOf25
  v22:=Tryz.zeroValue25
  a24:=Tryz.isAgg9
  z24:=Tryz.sizeOf9
  t25:=Tryz.underlying180
  a25:=Tryz.isAgg180
  z25:=Tryz.sizeOf180
  v25:=Tryz.zeroValue180
  t39:=Tryz.underlying231
  a39:=Tryz.isAgg231
  z39:=Tryz.sizeOf231
  v39:=Tryz.zeroValue231
  t45:=Tryz.underlying299
  a45:=Tryz.isAgg299
  z45:=Tryz.sizeOf299
  v45:=Tryz.zeroValue299
  t46:=Tryz.underlying300
  a46:=Tryz.isAgg300
  z46:=Tryz.sizeOf300
  v46:=Tryz.zeroValue300
  t50:=Tryz.underlying249
  a50:=Tryz.isAgg249
  z50:=Tryz.sizeOf249
  v50:=Tryz.zeroValue249
  t53:=Tryz.underlying306
  a53:=Tryz.isAgg306
  z53:=Tryz.sizeOf306
  v53:=Tryz.zeroValue306
  t55:=Tryz.underlying308
  a55:=Tryz.isAgg308
  z55:=Tryz.sizeOf308
  v55:=Tryz.zeroValue308
  t66:=Tryz.underlying349
  a66:=Tryz.isAgg349
  z66:=Tryz.sizeOf349
  v66:=Tryz.zeroValue349
  t70:=Tryz.underlying237
  a70:=Tryz.isAgg237
  z70:=Tryz.sizeOf237
  v70:=Tryz.zeroValue237
  t76:=Tryz.underlying388
  a76:=Tryz.isAgg388
  z76:=Tryz.sizeOf388
  v76:=Tryz.zeroValue388
  t77:=Tryz.underlying389
  a77:=Tryz.isAgg389
  z77:=Tryz.sizeOf389
  v77:=Tryz.zeroValue389 }
end Go.Proofs
namespace Go.Proofs.YtbffkokbdeppaaaGreatDoor
open Go Go.Sx Go.Proofs Tryz
attribute [local irreducible] Code.wp wpList wpAnyH
open Go.Vs Go.Shelf Go.RowKit
theorem zI_ (d off size:Nat) (w:World):CmpLays1 prog 128 #[] encStr Lib.compareBytes d off size w:=λm os B _ x y=>by
  have h:=(fB_ x y).run ⟨λ_=>False,sortWorld encStr w d off m B os,False⟩ ⟨by simp,by simp,λ_ h=>h.elim⟩ trivial;refine h.mono ?_;rintro e w' ⟨_,E,rfl,rfl,_,_,C⟩;obtain⟨q,v,A⟩:=fx_ C (λh=>h);exact⟨rfl,q,v,A⟩
theorem ltS (x y:Str):ltOf Lib.compareBytes x y=decide (x<y):=by unfold ltOf;rw[ybm_];exact lM_ x y
theorem swoS:Sort.SWO (ltOf Lib.compareBytes) where
  irrefl x:=by rw[ltS];exact yaS_ (ybM_ x)
  trans x y z h1 h2:=by rw[ltS,yaI_]at *;exact ybU_ h1 h2
  ntrans x y z h1 h2:=by
    rw[ltS,yaV_]at *;exact ycc_.2 (List.le_trans (ycc_.1 h2) (ycc_.1 h1))
theorem totS (x y:Str) (d:ltOf Lib.compareBytes x y=false) (e:ltOf Lib.compareBytes y x=false):x=y:=by
  rw[ltS,yaV_]at d e;exact ycw_ (ycc_.1 e) (ycc_.1 d)
theorem xS_ (xs:List Str):(xs.mergeSort λx y=>!(ltOf Lib.compareBytes) y x)=bb_ xs:=by
  have e:(λx y:Str=>!(ltOf Lib.compareBytes) y x)=λx y=>decide (x<=y):=by
    funext x y
    rw[ltS,ybx_];simp[ycc_]
  rw[e]
theorem yc_ {sv:Value} {xs:List Str} {Hr:Hp} (h:at_ 9 1 sv xs.length (xs.flatMap al_) Hr) (hl:xs.length<=1000000000000) :
    Tri prog 242 #[sv,.func (.func 128) #[] #[]] Hr [] (λ_:{y:Hp // at_ 9 1 sv (bb_ xs).length ((bb_ xs).flatMap al_) y}=>.tuple #[]) (λy=>y.1) (λ_=>[]):=by
  rcases h.2 with⟨rfl,K,rfl⟩|⟨g,cap,cur,rfl,rfl,I,J,F,L⟩
  . obtain rfl:xs=[]:=yau_ K
    have T:=bZ_ (P:=prog) (H:=[]) (Γ:=[]) (callable func242 rfl rfl) (λv _ _=>(AnyF.slices_SortFunc_none { Tryz.sortSt with } none 0 (.func (.func 128) #[] #[]) v.w).mono zag_);exact⟨T.callable,λv a b=>(T.run v a b).mono (by rintro e w' ⟨x,G,m,q,C,B,E⟩;exact⟨⟨[],by simpa using at_.nil _ _⟩,G,m,q,C,B,E⟩)⟩
  . have A:(bb_ xs).length=xs.length:=yaR_ _
    have T:=kb_ (P:=prog) (Γ:=[]) (r:=.tuple #[]) (g:=g) (cur:=cur) (f:=242) (args:=#[.slice (some ⟨g,0,none⟩) xs.length cap,.func (.func 128) #[] #[]]) (d:=(bb_ xs).toArray) (callable func242 rfl rfl) (λv M=>by
      have N:=Any.slices_SortFunc_total Tryz.sortSt encStr (λx=>rfl) Lib.compareBytes swoS 128 #[] g 0 cap xs.toArray v.w (λargs w=>(callable func128 rfl rfl) args w) (zI_ g 0 _ v.w) (lG_ (n:=0) (cap:=0) M L) (yax_.1 (M.own _ yav_).1).1 zan_ totS;refine N.mono ?_;rintro e w' ⟨rfl,n,os,rfl⟩;exact⟨rfl,n,os,by rw[show xs.toArray.toList=xs from rfl,xS_];rfl⟩)
    refine⟨T.callable,λv a b=>(T.run v a b).mono ?_⟩;rintro e w' ⟨x,G,m,q,C,B,E⟩;refine⟨⟨_,by rw[cr_ al_ 1 au_],.inr ⟨g,cap,_,by rw[A],rfl,by rw[A];exact I,J,by rw[of_];exact F,?_⟩⟩,G,m,q,C,B,E⟩;have:=oe_ (cur:=cur) (d:=bb_ xs) (by rw[A,F];omega);rw[ydv_];exact this
def hA_ (xs:List Fc):List Fc:=cpL (λx w=>decide (x=w)) (eU_ xs)
theorem gY_ (l:List Fc) (ad:Ao) (cap:Nat) (J:l.length<=cap) (hl:l.length<=1000000000000):Tri prog 153 #[.slice ad l.length cap,.func (.func 154) #[] #[]] [] [ac_ ad (l.flatMap Fc.cells)] (λy:{y:Ao×Nat // ((hA_ l)).length<=y.2/\y.2<=maxLen/\(y.1=none->y.2=0)}=>.slice y.1.1 ((hA_ l)).length y.1.2) (λ_=>[]) (λy=>[ac_ y.1.1 (((hA_ l)).flatMap Fc.cells)]):=by
  refine i_ func153 rfl rfl ntmps153 rfl λF=>?_;refine Zz 8 ?_;refine f_ (zM_ l ad cap J zaa_) rfl g_ zf rfl λ⟨⟨C,I⟩,A⟩=>?_;dsimp only;dsimp only at A;simp only[yaw_];refine Zz 7 ?_;refine f_ (AH_ A zaa_) rfl T_ zt rfl λ⟨B,E⟩=>?_;dsimp only;simp only[yaw_];refine Zz 5 ?_;refine f_ (uC_ (eU_ l) C B E (by rw[dH_];omega)) rfl T_ zt rfl λ⟨⟨H,G⟩,q⟩=>?_;dsimp only;dsimp only at q;simp only[yaw_];refine Zz 4 ?_;refine aW_ q T_ λv x m d h e=>?_;exact ab_ results153 ⟨(v,x),d,h,e⟩ (fs_ rfl m) g_ zf
theorem tP_ (l:List Str) (ad:Ao) (cap:Nat) (J:l.length<=cap) (hl:l.length<=1000000):Tri prog 157 #[.slice ad l.length cap,.func (.func 128) #[] #[]] [] [ac_ ad (l.flatMap al_)] (λy:{y:Ao×Nat // ((Lib.compact (bb_ l))).length<=y.2/\y.2<=maxLen/\(y.1=none->y.2=0)}=>.slice y.1.1 ((Lib.compact (bb_ l))).length y.1.2) (λ_=>[]) (λy=>[ac_ y.1.1 (((Lib.compact (bb_ l))).flatMap al_)]):=by
  refine i_ func157 rfl rfl ntmps157 rfl λC=>?_;refine Zz 8 ?_;refine f_ (oZ_ l ad cap J zaa_) rfl g_ zf rfl λ⟨⟨I,H⟩,A⟩=>?_;dsimp only;dsimp only at A;simp only[yaw_];refine Zz 7 ?_;refine f_ (yc_ A zaa_) rfl T_ zt rfl λ⟨F,B⟩=>?_;dsimp only;simp only[yaw_];refine Zz 5 ?_;refine f_ (kr_ B (by rw[yaR_];omega)) rfl T_ zt rfl λ⟨⟨G,E⟩,q⟩=>?_;dsimp only;dsimp only at q;simp only[yaw_];refine Zz 4 ?_;refine aW_ q T_ λv x m d h e=>?_;exact ab_ results157 ⟨(v,x),d,h,e⟩ (fs_ rfl m) g_ zf
end Go.Proofs.YtbffkokbdeppaaaGreatDoor
namespace Go.Vs
open Go Go.Sx
def frL (p:List Pc):List (Thg×Pc):=p.map λy=>(⟨y.kind,y.a⟩,y)
theorem zk_ {p:List Pc} {i:Nat} {x:Pc} (h:p[i]? = some x):frL (p.take (i+1))=frL (p.take i)++[(⟨x.kind,x.a⟩,x)]:=by
  unfold frL;rw[tk1 h,yat_];rfl
theorem rk_ (p:List Pc):(frL p).length=p.length:=yaF_ _
def uA_ (p:List Pc) (f:Fc):List (Str×Fc):=if f.kind=1 then (lat (frL p) ⟨3,f.b⟩).map λy=>(f.a,ae_ f.a y.r y.c) else []
def dr_ (p:List Pc) (F:List Fc):List (Str×Fc):=F.flatMap (uA_ p)
theorem qm_ {p:List Pc} {F:List Fc} {i:Nat} {f:Fc} (h:F[i]? = some f):dr_ p (F.take (i+1))=dr_ p (F.take i)++uA_ p f:=by
  unfold dr_;rw[tk1 h,yaY_];simp
theorem zv_ (p:List Pc) (f:Fc):(uA_ p f).length<=p.length:=by
 unfold uA_
 split
 .rw[yaF_];have:=dv_ (frL p) ⟨3,f.b⟩;rw[rk_]at this;exact this
 simp
theorem iU_ {p:List Pc} (F:List Fc):(dr_ p F).length<=F.length*p.length:=by
  induction F with
  | nil=>simp[dr_]
  | cons f F ih =>
    unfold dr_ at ih ⊢;rw[yaG_,yaf_,yal_,ybB_];have:=zv_ p f;omega
theorem ti_ {p:List Pc} {F:List Fc} {s:Str} {z:Fc}:(s,z)∈dr_ p F↔∃ f∈F,∃ y∈p,f.kind=1/\y.kind=3/\y.a=f.b/\s=f.a/\z=ae_ f.a y.r y.c:=by
 unfold dr_ uA_;rw[yas_];constructor
 .rintro ⟨f,m,h⟩
  split at h
  .rename_i hk
   obtain⟨y,d,e⟩:=yap_.1 h;rw[cb_]at d;obtain⟨B,q,A⟩:=yap_.1 d;simp only[ybV_,Thg.mk.injEq]at e A;obtain⟨⟨v,x⟩,rfl⟩:=A;exact⟨f,m,B,q,hk,v,x,e.1.symm,e.2.symm⟩
  simp at h
 rintro ⟨f,m,y,d,hk,v,x,rfl,rfl⟩;refine⟨f,m,?_⟩;rw[yao_ hk];exact yap_.2 ⟨y,cb_.2 (yap_.2 ⟨y,d,by rw[v,x]⟩),rfl⟩
def nxD (D:List (Str×Fc)) (s:Str):List Str:=(lat D s).map Fc.b
theorem yG_ {D:List (Str×Fc)} {s:Str} {j:Nat} {z:Fc} (h:(lat D s)[j]? = some z):(nxD D s)[j]? = some z.b:=by unfold nxD;rw[yaH_,h];rfl
structure NmI (I K N:List Str):Prop where
  mem:∀ s,s∈K↔s∈I\/s∈N
  nd:N.Nodup
  dj:∀ s∈N,s ∉ I
theorem NmI.init {I K:List Str} (h:∀ n,n∈K↔n∈I):NmI I K []:=⟨λs=>by rw[h];simp,ycA_,by simp⟩
theorem NmI.take {I K x N:List Str} {t:Str} (h:NmI I K N) (m:t ∉ K) (A:∀ n,n∈x↔n∈K\/n=t):NmI I x (N++[t]) :=
 ⟨λs=>by rw[A,h.mem,yah_,yai_,or_assoc],by
   rw[ybf_];exact⟨h.nd,by simp,λa y b v=>by rw[yai_]at v;subst v;intro e;subst e;exact m ((h.mem a).2 (.inr y))⟩,
  λs d q=>by
   rw[yah_,yai_]at d;rcases d with d|rfl
   . exact h.dj s d q
   . exact m ((h.mem s).2 (.inl q))⟩
theorem NmI.len {I K N:List Str} (h:NmI I K N):N.length<=K.length:=da_ h.nd λs d=>(h.mem s).2 (.inr d)
def pu_ (D:List (Str×Fc)) (I X:List Str):Prop:=∃ N:List Str,N.Nodup/\X=I++bb_ N/\(∀ s∈N,s ∉ I)/\∀ s,(s∈I\/s∈N)↔RchS (nxD D) I s
theorem pu_.mem {D:List (Str×Fc)} {I X:List Str} (h:pu_ D I X) (s:Str):s∈X↔RchS (nxD D) I s:=by
  obtain⟨N,_,rfl,_,h⟩:=h;rw[<-h,yah_,ybc_]
theorem pu_.uniq {D:List (Str×Fc)} {I X Y:List Str} (h:pu_ D I X) (g:pu_ D I Y):X=Y:=by
  obtain⟨N,x,rfl,y,e⟩:=h;obtain⟨M,v,rfl,m,d⟩:=g
  rw[show bb_ N=bb_ M from nj_ (gX_ x) (gX_ v) λs=>by
    rw[ybc_,ybc_];exact⟨λq=>((d s).2 ((e s).1 (.inr q))).resolve_left (y s q),λq=>((e s).2 ((d s).1 (.inr q))).resolve_left (m s q)⟩]
end Go.Vs
namespace Go.Proofs.YtbffkokbdeppaaaGreatDoor
open Go Go.Sx Go.Proofs Tryz
attribute [local irreducible] Code.wp wpList wpAnyH
open Go.Vs
theorem vd_:gp_ prog 274 [(0,1),(1,1)] [iv_ 0,str []]:=⟨_,zeroValue274,runUnderlying274,λw=>by simp[ag_,G_]⟩
theorem eqTc (p q:Thg) (w:World):(Op.equalIn 10000 274 (Thg.val p) (Thg.val q)).run prog w=.ok (decide (p=q)) w:=by
  have h:=run_equalIn_struct (P:=prog) w 9999 274 (Thg.cells p).toArray (Thg.cells q).toArray (by simp only[Program.fieldsOf,underlying274]) Tryz.stoodInHeld274;refine h.trans ?_;rw[<-Thg.eqb_eq];simp only[Program.fieldsOf,underlying274];exact bX_ rfl aQ_ rfl rfl (eqI m_ w) (bX_ rfl ad_ rfl rfl (eqS aO_ w) (lb_ w))
theorem okTc (p:Thg):hp_ prog 274 (Thg.val p):=λe w=>by
 have hi:∀ (n:Int) (w:World),(Instr.checkKey e (9998+1) 3 (.int .i64 n)).run prog w=.ok () w:=λn w=>MapKept.run_checkKey (d:=.int .i64) m_ zbK_ e 9998
 have m:∀ (n:Str) (w:World),(Instr.checkKey e (9998+1) 9 (str n)).run prog w=.ok () w:=λn w=>MapKept.run_checkKey (d:=.string) aO_ zbj_ e 9998
 refine ckF (n:=9999) underlying274 λf h=>?_;simp only[yan_,yaM_,ybW_]at h;rcases h with rfl|rfl
 .exact⟨rfl,aQ_,_,rfl,hi _⟩
 exact⟨rfl,ad_,_,rfl,m _⟩
theorem yT_:KeyT prog 274 Thg.val:=fz_ (K:=Thg) underlying274 okTc (λp q w=>eqTc p q w) λk=>iH_ (l:=Thg.cells k) λv d=>by
 simp only[Thg.cells,yan_,yaM_,ybW_]at d;rcases d with rfl|rfl
 .exact el_ _ _
 exact dh_ _ _
theorem mx_ {G:Prop} (h:G:=by
 refine Zz 3 ?_;refine p_ 16 rfl zk (hG_ (k:=d.a) (dd:=(Fc.mk 2 d.a e.c e.r 0 0)) bD_ q (by rw[ea_];exact B) (.inr rfl) jM_ rfl rfl rfl (dY_ (l_ (j_ (c_ d_)) (F_ z_ (c_ (c_ B_))))) λP A=>?_);refine Zz 5 ?_;refine A_ (Y_ (j_ d_) (Y_ (j_ d_) (bc_ aU_))) (Zz 5 ?_);exact u_ ⟨(j+1,P),I,(by rw[tk1 N,yat_,<-yar_];exact A)⟩ zab_ zl zp zh):G:=h
theorem uz_ (p:List Pc) (x:Ao) (L:Nat) (F:List Fc) (fad:Ao) (fcap:Nat) (hp:p.length<=12000) (hF:F.length<=65536):Tri prog 155 #[.slice x p.length L,.slice fad F.length fcap] [] [ac_ x (p.flatMap Pc.cells),ac_ fad (F.flatMap Fc.cells)] (λy:{y:Nat×Hp // cU_ str Fc.cells 104 6 (dr_ p F) y.1 y.2}=>.map (some y.1.1)) (λy=>y.1.2) (λ_=>[]):=by
 refine i_ func155 rfl rfl ntmps155 rfl λv_1=>?_;refine Zz 7 ?_;refine bf_ rfl λJ=>Zz 12 ?_
 refine H_ (ι:={y:Nat×Hp // y.1<=List.length p/\cU_ Thg.val Pc.cells 80 10 (frL (p.take y.1)) J y.2}) (λy=>[(1,.slice fad F.length fcap),(4,.map none),(5,.map (some J)),(14,.slice x p.length L),(15,iv_ (List.length p:Int)),(16,iv_ y.1.1)]) (λy=>(y.1.2)) (λy=>[ac_ x (p.flatMap Pc.cells),ac_ fad (F.flatMap Fc.cells)]) (λy=>p.length - y.1.1) ⟨((0:Nat),[(J,.map #[] 0)]),by simp,cU_.nil _ _⟩ zl T_ zh ?_;rintro ⟨⟨i,HA⟩,hi_i,hA⟩;dsimp only at hi_i hA ⊢;refine Zi 2 (λS=>?_) λS=>?_
 .refine Zz 7 ?_
  rw[yab_ zaa_]at hA;refine os_ yT_ hA T_ λadr=>?_;refine aP_ (bf_ rfl λH=>Zz 12 ?_);refine H_ (ι:={y:Nat×Hp // y.1<=List.length F/\cU_ str Fc.cells 104 6 (dr_ p (F.take y.1)) H y.2}) (λy=>[(1,.slice fad F.length fcap),(4,.map (some H)),(5,.map (some J)),(14,.slice x p.length L),(15,iv_ (List.length p:Int)),(16,iv_ i),(35,.slice fad F.length fcap),(36,iv_ (List.length F:Int)),(37,iv_ y.1.1)]) (λy=>(y.1.2)) (λy=>[mlF prog 274 Thg.val Pc.cells J (frL p) adr,ac_ x (p.flatMap Pc.cells),ac_ fad (F.flatMap Fc.cells)]) (λy=>F.length - y.1.1) ⟨((0:Nat),[(H,.map #[] 0)]),by simp,cU_.nil _ _⟩ zl T_ zh ?_;rintro ⟨⟨m,HB⟩,W,hB⟩;dsimp only at W hB ⊢;refine Zi 2 (λE=>?_) λE=>?_
  .refine Zz 13 ?_
   rw[yab_ zaa_]at hB;exact ab_ results155 ⟨(H,HB),hB⟩ rfl T_ zt
  have G:m<F.length:=by omega
  obtain⟨d,Y⟩:∃ O,F[m]? = some O:=⟨_,yaa_ G⟩;refine Zz 12 ?_;refine x_ R_ rfl λU=>n_ 0 y_ rfl rfl rfl rfl rfl rfl (Zi 7 (λR=>?_) λR=>?_)
  .have T:Fc.kind d=1:=by simpa using R
   refine Zz 10 ?_;refine e_ (C_ vd_ rfl rfl) rfl (e_ (bM_ (k:=(Thg.mk 3 d.b)) (adr:=adr) yT_ runUnderlying272 bT_ rfl rfl zf) rfl (Zz 5 ?_));have hql:List.length (lat (frL p) (Thg.mk 3 d.b))<=p.length:=by have:=dv_ (frL p) (Thg.mk 3 d.b);rw[rk_]at this;exact this
   let Pu:Nat×Obj:=(U,.cells #[iv_ d.kind,str d.a,str d.b,str d.r,iv_ d.lo,iv_ d.hi] 104 (0,0));refine H_ (ι:={y:Nat×Hp // y.1<=List.length (lat (frL p) (Thg.mk 3 d.b))/\cU_ str Fc.cells 104 6 ((dr_ p (F.take m))++List.map (λy=>(Fc.a d,ae_ d.a y.r y.c)) (List.take y.1 (lat (frL p) (Thg.mk 3 d.b)))) H y.2}) (λy=>[(1,.slice fad F.length fcap),(4,.map (some H)),(5,.map (some J)),(14,.slice x p.length L),(15,iv_ (List.length p:Int)),(16,iv_ i),(35,.slice fad F.length fcap),(36,iv_ (List.length F:Int)),(37,iv_ m),(10,zp_ U 0),(48,.slice (Prod.fst (adr (Thg.mk 3 d.b))) (lat (frL p) (Thg.mk 3 d.b)).length (Prod.snd (adr (Thg.mk 3 d.b)))),(49,iv_ (List.length (lat (frL p) (Thg.mk 3 d.b)):Int)),(50,iv_ y.1.1)]) (λy=>(Pu::y.1.2)) (λy=>[mlF prog 274 Thg.val Pc.cells J (frL p) adr,ac_ x (p.flatMap Pc.cells),ac_ fad (F.flatMap Fc.cells)]) (λy=>List.length (lat (frL p) (Thg.mk 3 d.b)) - y.1.1) ⟨((0:Nat),HB),by simp,(by rw[ych_,ybz_,yaw_];exact hB)⟩ zl zp zh ?_;rintro ⟨⟨j,HB⟩,hi_j,K⟩;dsimp only at hi_j K ⊢;have hdl:List.length ((dr_ p (F.take m))++List.map (λy=>(Fc.a d,ae_ d.a y.r y.c)) (List.take j (lat (frL p) (Thg.mk 3 d.b))))<=1000000000:=by have h_1:=iU_ (p:=p) (F.take m);have h_2:=ybX_ m F;have h_3:=ybX_ j (lat (frL p) (Thg.mk 3 d.b));have h_4:=ydh_ (ybg_ (ybg_ h_2 W) hF) hp;rw[yaf_,yaF_];omega
   refine Zi 2 (λhr_4=>?_) λhr_4=>?_
   .refine Zz 11 ?_
    exact u_ ⟨(m+1,HB),G,(by rw[qm_ Y,uA_,yao_ T];rw[yab_ (l:=(lat (frL p) (Thg.mk 3 d.b))) zaa_]at K;exact K)⟩ zab_ zl B_ zh
   have I:j<List.length (lat (frL p) (Thg.mk 3 d.b)):=by omega
   obtain⟨e,N⟩:∃ O,(lat (frL p) (Thg.mk 3 d.b))[j]? = some O:=⟨_,yaa_ I⟩;refine Zz 10 ?_;refine e_ (Z_ J_ K_ rfl rfl (λv _ h=>aA_ (n:=10) Pc.cells_len zae_ (by exact (ba_ h.1 (Thg.mk 3 d.b))) N) zaa_ zai_) rfl ?_;refine e_ (am_ (ad:=(Prod.fst (adr (Thg.mk 3 d.b)))) (us:=Pc.cells e) dQ_ K_ rfl (λv _ h=>by exact (ba_ h.1 (Thg.mk 3 d.b))) (Pc.cells_len _) (w_ Pc.cells_len N)) rfl (x_ aa_ rfl λa2=>n_ 0 K_ rfl rfl rfl rfl rfl rfl (Zz 2 ?_));have Z:=(show (lat ((dr_ p (F.take m))++List.map (λy=>(Fc.a d,ae_ d.a y.r y.c)) (List.take j (lat (frL p) (Thg.mk 3 d.b)))) d.a).length<=1000000000 from ybg_ (dv_ _ _) hdl);refine nl_ bD_ d.a K (c_ B_) λa0 ce_1 ve_1 a1 a4 M q=>?_;refine A_ (Y_ d_ (Y_ (j_ (j_ d_)) (bc_ (j_ aU_)))) ?_;refine ak_ ((a2,.cells #[iv_ e.kind,str e.a,str e.b,str e.c,str e.r,str e.s,str e.t,iv_ e.lo,iv_ e.hi,iv_ e.frm] 80 (0,0))::(Pu::[])) zk ?_;refine D_ 4 [0,1,2,3,4,5,7,8,9,10,11,12,13] zk zs (Zz 12 ?_);refine M_ rfl (C_ dt_ rfl rfl) rfl (bs_ ?_);refine gL_ 6 14 rfl rfl zk ?_ ?_
   .refine e_ (eC_ (k:=d.a) bD_ q jM_ dS_ rfl rfl 0 rfl) rfl (Zz 3 ?_)
    refine p_ 14 rfl zk (O_ I_ y_ R_ rfl rfl rfl rfl rfl rfl λb_5=>Zz 3 ?_);refine p_ 15 rfl zk (aj_ (news:=List.flatMap Fc.cells [(Fc.mk 2 d.a e.c e.r 0 0)]) eb_ M rfl rfl zp rfl (aL_ 0 rfl) (λu hu=>az_ Fc.cells_one hu) zad_ zaf_ rfl λV X S=>?_);have B:=zsa S;exact mx_
   refine O_ I_ y_ R_ rfl rfl rfl rfl rfl rfl λb_5=>Zz 3 ?_
   refine p_ 6 rfl zk (e_ (eC_ (k:=d.a) bD_ q jM_ dS_ rfl rfl 1 rfl) rfl (Zz 3 ?_));refine p_ 15 rfl zk (aj_ (news:=List.flatMap Fc.cells [(Fc.mk 2 d.a e.c e.r 0 0)]) eb_ M rfl rfl zp rfl (aL_ 0 rfl) (λu hu=>az_ Fc.cells_one hu) zad_ zaf_ rfl λV X E=>?_);have B:=zsa E;exact mx_
  have T:¬ Fc.kind d=1:=by simpa using R
  refine Zz 10 ?_;exact u_ ⟨(m+1,HB),G,(by rw[qm_ Y,uA_,yag_ T,yaw_];exact hB)⟩ zab_ zl B_ zh
 have Q:i<p.length:=by omega
 obtain⟨C,a3⟩:∃ O,p[i]? = some O:=⟨_,yaa_ Q⟩;refine Zz 12 ?_;refine x_ aa_ rfl λH=>n_ 0 K_ rfl rfl rfl rfl rfl rfl (Zz 8 ?_)
 refine e_ (C_ vd_ rfl rfl) rfl (x_ zeroValue274 rfl λU=>n_ 0 sizeOf274 rfl rfl rfl rfl rfl rfl (Zz 6 ?_));refine O_ J_ K_ aa_ rfl rfl rfl rfl rfl rfl λa2=>?_;have Z:=(show (lat (frL (p.take i)) (Thg.mk C.kind C.a)).length<=400000000 from ybg_ (dv_ _ _) (by rw[rk_,yaD_];omega));refine fl_ (k:=(Thg.mk C.kind C.a)) yT_ hA runUnderlying272 bT_ rfl rfl (c_ (c_ B_)) rfl λa0 ce_1 ie_1 se_1 ve_1 a1 a4 q M=>Zz 1 ?_
 refine aj_ (news:=List.flatMap Pc.cells [C]) rt_ M rfl rfl zp rfl (fj_ zp) (λu hu=>az_ Pc.cells_one hu) zad_ zaf_ rfl λV X E=>?_;have B:=zsa E;refine Zz 1 ?_;refine cZ_ (k:=(Thg.mk C.kind C.a)) (dd:=C) q (by rw[ea_];exact B) rfl rfl rfl (dY_ (l_ (j_ d_) (F_ z_ z_))) λP A=>?_;refine Zz 2 ?_;refine A_ (Y_ (j_ d_) (Y_ (j_ d_) (bc_ aU_))) (Zz 5 ?_);exact u_ ⟨(i+1,P),Q,(by rw[zk_ a3];exact A)⟩ zab_ zl zp zh
structure SL where
  l:List Str
  ad:Ao
  cap:Nat
def SL.cells (x:SL):List Value:=[.slice x.ad x.l.length x.cap]
theorem SL.cells_len (x:SL):x.cells.length=1:=rfl
structure SL.ok (x:SL):Prop where
  le:x.l.length<=x.cap
  nz:x.ad=none->x.cap=0
  sh:x.l.length<=100000
def slF (xs:List SL):Fct where
  p v:=∀ x∈xs,bG_ v x.ad (x.l.flatMap al_)
  mono:=λv v' h hp x hx=>(ac_ x.ad (x.l.flatMap al_)).mono v v' h (hp x hx)
def hZ_ (xs:List SL):List Str:=List.flatMap SL.l xs
theorem tR_ {xs:List SL} {i:Nat} {x:SL} (h:xs[i]? = some x):hZ_ (xs.take (i+1))=hZ_ (xs.take i)++x.l:=by unfold hZ_;rw[yaz_,h];simp
theorem wf_ {xs:List SL} (h:∀ x∈xs,x.ok) (i:Nat):(hZ_ (xs.take i)).length<=min i xs.length*100000:=by
  have:=zl_ (g:=SL.l) (n:=100000) (xs.take i) λx d=>(h x (ybO_ d)).sh
  rwa [yaD_]at this
theorem Bw_ (n:Nat) (x:n<=1000000000):Tri prog 301 #[.slice none 0 0,iv_ n] [] [] (λy:{y:Value×Hp // at_ 9 1 y.1 0 [] y.2}=>y.1.1) (λy=>y.1.2) (λ_=>[]):=by
 refine i_ func301 rfl rfl ntmps301 rfl λv=>?_;refine Zi 9 (λe=>?_) λe=>?_
 .refine Zz 10 ?_
  refine e_ (ky_ o_ rfl) rfl (Zz 3 ?_);refine e_ (ao_ (aC_ rfl rfl rfl (bq_ zaa_ zaa_)) (show iv_ ((n:Int) - (0 - 0))=iv_ n from yae_ _ zaa_)) rfl (Zi 6 (λd=>?_) λd=>?_)
  .refine Zz 12 ?_
   exact ab_ results301 ⟨(.slice none 0 0,[]),at_.nil _ _⟩ rfl g_ zt
  refine Zz 6 ?_;refine e_ (ky_ o_ rfl) rfl (e_ (ao_ (cV_ (i:=0) (j:=0) (kl:=.i64) (kh:=.i64) o_ G_ rfl rfl rfl zaa_ zaa_) (show _=Value.slice none 0 0 from rfl)) rfl (Zz 1 ?_));refine mI_ (n:=n) cH_ m_ rfl rfl zaa_ zaa_ zaq_ rfl λm h q=>?_;refine Zz 2 ?_;refine e_ (ao_ (cV_ (i:=0) (j:=0) (kl:=.i64) (kh:=.i64) o_ G_ rfl rfl rfl zaa_ zaa_) (show _=Value.slice (some ⟨h,0,none⟩) 0 m.1 by simp[nW_])) rfl (Zz 10 ?_);exact ab_ results301 ⟨(.slice (some ⟨h,0,none⟩) 0 m.1,[(h,.cells m.2 9 (0,0))]),pF_ q.2.1 q.2.2⟩ rfl d_ zt
 exfalso;omega
theorem xd_ (xs:List SL) (B:Ao) (A:Nat) (q:∀ x∈xs,x.ok) (hl:xs.length<=100):Tri prog 241 #[.slice B xs.length A] [] [ac_ B (xs.flatMap SL.cells),slF xs] (λy:{y:Ao×Nat // ((hZ_ xs)).length<=y.2/\y.2<=maxLen/\(y.1=none->y.2=0)}=>.slice y.1.1 ((hZ_ xs)).length y.1.2) (λ_=>[]) (λy=>[ac_ y.1.1 (((hZ_ xs)).flatMap al_)]):=by
 refine i_ func241 rfl rfl ntmps241 rfl λZ=>?_;refine Zz 19 ?_;refine H_ (ι:={y:Nat×Nat // y.1<=List.length xs/\y.2<=y.1*100000}) (λy=>[(0,.slice B xs.length A),(3,iv_ y.1.2),(9,.slice B xs.length A),(10,iv_ (List.length xs:Int)),(11,iv_ y.1.1)]) (λy=>([])) (λy=>[ac_ B (xs.flatMap SL.cells),slF xs]) (λy=>xs.length - y.1.1) ⟨((0:Nat),(0:Nat)),by simp,by simp⟩ zl g_ zh ?_;rintro ⟨⟨i,w⟩,hi,Y⟩;dsimp only at hi Y ⊢;refine Zi 2 (λF=>?_) λF=>?_
 .refine Zz 9 ?_
  refine f_ (Bw_ w zaa_) rfl g_ zt rfl λ⟨⟨E,K⟩,L⟩=>?_;dsimp only;dsimp only at L;refine A_ dk_ ?_;have S:at_ 9 1 E (hZ_ (xs.take 0)).length (List.flatMap al_ (hZ_ (xs.take 0))) K:=by exact L
  refine Zz 12 ?_;refine H_ (ι:={y:Nat×Value×Hp // y.1<=List.length xs/\zR 9 1 al_ y.2.1 (hZ_ (xs.take y.1)) y.2.2}) (λy=>[(0,.slice B xs.length A),(6,y.1.2.1),(25,.slice B xs.length A),(26,iv_ (List.length xs:Int)),(27,iv_ y.1.1)]) (λy=>(y.1.2.2)) (λy=>[ac_ B (xs.flatMap SL.cells),slF xs]) (λy=>xs.length - y.1.1) ⟨((0:Nat),E,K),by simp,S⟩ zl T_ zh ?_;rintro ⟨⟨j,V,W⟩,hj,m⟩;dsimp only at hj m ⊢;have X:=wf_ q j;refine Zi 2 (λG=>?_) λG=>?_
  .rw[yab_ zaa_]at m
   refine Zz 13 ?_;refine aW_ m T_ λP T O I H J=>?_;exact ab_ results241 ⟨(P,T),I,H,J⟩ (fs_ rfl O) g_ zf
  obtain⟨C,e,M,d⟩:=zge (show j<xs.length by omega);have N:=(q e d).sh;refine Zz 18 ?_;refine eD_ (news:=List.flatMap al_ (SL.l e)) cH_ m rfl rfl (q e d).nz (q e d).le T_ (by rw[cr_ al_ 1 au_]) (λv _ h=>by exact (h.2.1 e d)) (λu hu=>az_ cm_ hu) (by simp only[maxLen];(have:=(q e d).sh;omega)) (by (have:=(q e d).sh;omega)) rfl λQ U F=>?_;refine A_ yaB_ ?_;have R:=zsa F;refine Zz 8 ?_;exact u_ ⟨(j+1,Q,U),C,(by rw[tR_ M];exact R)⟩ zab_ zl T_ zh
 obtain⟨C,e,M,d⟩:=zge (show i<xs.length by omega);have N:=(q e d).sh;refine Zi 27 (λG=>?_) λG=>?_
 .refine Zz 10 ?_
  exact u_ ⟨(i+1,w+List.length (SL.l e)),C,by have:=(q e d).sh;dsimp only;omega⟩ zab_ ⟨rfl,(bl_ rfl (by push_cast;rfl)),rfl,rfl,rfl,trivial⟩ g_ zh
 exfalso;omega
theorem sl_two {a b:SL} (e:a.ok) (h:b.ok):∀ x∈[a,b],x.ok:=λx d=>by
 simp only[yan_,yaM_,ybW_]at d;rcases d with rfl|rfl
 .exact e
 exact h
theorem AI_ {a b:SL} {v:Vw} (e:bG_ v a.ad (a.l.flatMap al_)) (h:bG_ v b.ad (b.l.flatMap al_)):(slF [a,b]).p v:=λx d=>by
 simp only[yan_,yaM_,ybW_]at d;rcases d with rfl|rfl
 .exact e
 exact h
theorem AR_ (I:List Str) (e:Ao) (d:Nat) (a7:rkS (I,e,d)) (hIn:I.Nodup) (hIl:I.length<=40000) (sb:Nat) (D:List (Str×Fc)) (adr:Str->Ao×Nat) (hD:D.length<=1000000000) (T:List Str) (hT:∀ s,∀ t∈nxD D s,t∈T) (hTl:T.length<=20000):Tri prog 156 #[.slice e I.length d,.map (some sb)] [] [mlF prog 9 str Fc.cells sb D adr,ac_ e (I.flatMap al_)] (λy:{y:List Str×Ao×Nat // pu_ D I y.1/\rkS y}=>.slice y.1.2.1 y.1.1.length y.1.2.2) (λ_=>[]) (λy=>[ac_ y.1.2.1 (y.1.1.flatMap al_)]):=by
 refine i_ func156 rfl rfl ntmps156 rfl λv_1=>?_;refine Zz 5 ?_;refine lr_ (Zz 3 ?_);refine f_ (oZ_ I e d a7.1 zaa_) rfl g_ zf rfl λ⟨⟨svc,Hcl⟩,b3⟩=>?_;dsimp only;dsimp only at b3;simp only[yaw_];refine Zz 5 ?_;refine bf_ rfl λL=>Zz 7 ?_
 refine e_ (cv_ b3 o_ rfl) rfl (Zz 4 ?_);refine H_ (ι:={y:Nat×StM×Value×Hp // y.1<=List.length I/\(∀ n,n∈y.2.1.ks↔n∈List.take y.1 I)/\zR 9 1 al_ y.2.2.1 I y.2.2.2}) (λy=>[(0,.slice e I.length d),(1,.map (some sb)),(4,.slice none 0 0),(5,y.1.2.2.1),(6,.map (some L)),(16,y.1.2.2.1),(17,iv_ (List.length I:Int)),(18,iv_ y.1.1)]) (λy=>((L,.map y.1.2.1.es y.1.2.1.c)::y.1.2.2.2)) (λy=>[mlF prog 9 str Fc.cells sb D adr,ac_ e (I.flatMap al_)]) (λy=>I.length - y.1.1) ⟨((0:Nat),StM.nil,svc,Hcl),by simp,(by intro n;simp[StM.nil]),b3⟩ zl zp zh ?_;rintro ⟨⟨i,s,X,a0⟩,hi_i,hs,H⟩;dsimp only at hi_i hs H ⊢;refine Zi 2 (λS=>?_) λS=>?_
 .refine Zz 12 ?_
  refine lt_ (Zz 3 ?_);have hq_1:ORow 9 1 X I.length (I.flatMap al_) a0:=ORow.row H;have E:∀ n,n∈s.ks↔n∈I:=by rw[yab_ zaa_]at hs;exact hs
  refine A_ (H':=((L,.map s.es s.c)::(a0++([]:Hp)))) zaj_ ?_;refine H_ (ι:={y:StM×List Str×Value×Hp×List Str×Value×Hp // CI (nxD D) I y.1.ks y.2.1/\ORow 9 1 y.2.2.1 y.2.1.length (y.2.1.flatMap al_) y.2.2.2.1/\y.2.1.length<=List.length y.1.ks/\NmI I y.1.ks y.2.2.2.2.1/\zR 9 1 al_ y.2.2.2.2.2.1 y.2.2.2.2.1 y.2.2.2.2.2.2}) (λy=>[(0,.slice e I.length d),(1,.map (some sb)),(4,.slice none 0 0),(5,y.1.2.2.1),(6,.map (some L)),(9,y.1.2.2.2.2.2.1)]) (λy=>((L,.map y.1.1.es y.1.1.c)::(y.1.2.2.2.1++y.1.2.2.2.2.2.2))) (λy=>[mlF prog 9 str Fc.cells sb D adr,ac_ e (I.flatMap al_)]) (λy=>(List.length I+T.length) - y.1.1.ks.length+y.1.2.1.length) ⟨(s,I,X,a0,([]:List Str),(.slice none 0 0),([]:Hp)),CI.init E,hq_1,by have:=da_ hIn (m:=s.ks) λx hx=>(E x).2 hx;exact this,NmI.init E,(at_.nil 9 1)⟩ zl (l_ d_ (F_ z_ T_)) zh ?_;rintro ⟨⟨s,W,svW,HW,N,G,a1⟩,hC,hW,a9,hN,A⟩;dsimp only at hC hW a9 hN A ⊢;have hsl:=kK_ hT s.hE.nd hC.rch;have hNl:=hN.len;refine Zz 5 ?_;refine e_ (rO_ hW o_ rfl) rfl ?_;refine Zi 0 (λhr_2=>?_) λhr_2=>?_
  .obtain⟨k,W,rfl⟩:∃ k b1,W=k::b1:=by cases W with|nil=>simp at*| cons k b1=>exact⟨k,b1,rfl⟩
   refine Zz 8 ?_;refine e_ (uU_ hW o_ G_ rfl rfl zae_ zba_) rfl ?_;refine e_ (rP_ (k:=(0:Int).toNat*1) hW zp ad_ rfl rfl) rfl (Zz 6 ?_);refine sD_ (i:=1) (kl:=.i64) hW o_ G_ rfl rfl zba_ rfl λa2 ho_1=>?_;have hW_1:ORow 9 1 a2 W.length (W.flatMap al_) HW:=by simpa [al_] using ho_1
   have hJ_1:=hC.pop;have hlk:=dv_ D k;refine Zz 7 ?_;refine e_ (bM_ (k:=k) (adr:=adr) bD_ jM_ dS_ rfl rfl zf) rfl (Zz 5 ?_);refine H_ (ι:={y:Nat×StM×List Str×Value×Hp×List Str×Value×Hp // y.1<=List.length (lat D k)/\CJ (nxD D) I k y.1 y.2.1.ks y.2.2.1/\ORow 9 1 y.2.2.2.1 y.2.2.1.length (y.2.2.1.flatMap al_) y.2.2.2.2.1/\y.2.1.ks.length+W.length=s.ks.length+List.length y.2.2.1/\NmI I y.2.1.ks y.2.2.2.2.2.1/\zR 9 1 al_ y.2.2.2.2.2.2.1 y.2.2.2.2.2.1 y.2.2.2.2.2.2.2}) (λy=>[(0,.slice e I.length d),(1,.map (some sb)),(4,.slice none 0 0),(5,y.1.2.2.2.1),(6,.map (some L)),(9,y.1.2.2.2.2.2.2.1),(35,.slice (adr k).1 (lat D k).length (adr k).2),(36,iv_ (List.length (lat D k):Int)),(37,iv_ y.1.1)]) (λy=>((L,.map y.1.2.1.es y.1.2.1.c)::(y.1.2.2.2.2.1++y.1.2.2.2.2.2.2.2))) (λy=>[mlF prog 9 str Fc.cells sb D adr,ac_ e (I.flatMap al_)]) (λy=>List.length (lat D k) - y.1.1) ⟨((0:Nat),s,W,a2,HW,N,G,a1),by simp,hJ_1,hW_1,rfl,hN,A⟩ zl zp zh ?_;rintro ⟨⟨j,C,Q,V,a3,a8,G,a1⟩,hi_j,hJ,M,hcn,J,A⟩;dsimp only at hi_j hJ M hcn J A ⊢;have hsl_1:=kK_ hT C.hE.nd hJ.rch;have hwk_1:W.length+1<=s.ks.length:=by simpa using a9
   have hNl_1:=J.len;refine Zi 2 (λhr_3=>?_) λhr_3=>?_
   .refine Zz 6 ?_
    exact u_ ⟨(C,Q,V,a3,a8,G,a1),hJ.done (by rw[nxD,yaF_];omega),M,by dsimp only;simp only[yal_]at a9;omega,J,A⟩ (by dsimp only;have:=kK_ hT C.hE.nd hJ.rch;simp only[yal_]at *;omega) zl (l_ d_ (F_ z_ T_)) zh
   have K:j<List.length (lat D k):=by omega
   obtain⟨B,O⟩:∃ a5,(lat D k)[j]? = some a5:=⟨_,yaa_ K⟩;refine Zz 10 ?_;refine e_ (Z_ I_ y_ rfl rfl (λv _ h=>aA_ (n:=6) Fc.cells_len zae_ (by exact (ba_ h.1 k)) O) zaa_ zai_) rfl ?_;refine e_ (am_ (ad:=(adr k).1) (us:=Fc.cells B) bv_ y_ rfl (λv _ h=>by exact (ba_ h.1 k)) (Fc.cells_len _) (w_ Fc.cells_len O)) rfl (x_ R_ rfl λb_2=>n_ 0 y_ rfl rfl rfl rfl rfl rfl (Zz 7 ?_));refine E_ (ao_ (bH_ (k:=B.b) (q:=C.ks) bD_ Q_ aG_ rfl rfl C.hE (λv h _=>(h.own _ (yad_ (i:=1) rfl)).1)) (show _=Value.bool (decide (B.b∈C.ks)) from yae_ Value.bool (ybm_.2 ycU_))) rfl λr_1 F=>e_ (as_ rfl) rfl (Zz 2 ?_)
   cases r_1
   .replace F:=zdf F
    have hfk:=F;refine Zz 6 ?_;refine dN_ 1 C bD_ (.inr rfl) Q_ rfl rfl rfl rfl (Zz 7 ?_);refine O_ o_ G_ ax_ rfl rfl rfl rfl rfl rfl λb_3=>?_;refine bC_ (List.flatMap al_ [B.b]) d_ rfl ?_;refine mJ_ (n:=Q.length) (m:=List.length [B.b]) (news:=List.flatMap al_ [B.b]) cH_ M rfl rfl zaj_ zaj_ (c_ (c_ z_)) rfl zf (λu hu=>az_ cm_ hu) zbP_ zat_ rfl λY a4 U=>?_;have hr1q:ORow 9 1 Y (Q++[B.b]).length (List.flatMap al_ (Q++[B.b])) a4:=by rw[yaf_,yaY_];exact U
    refine Zz 3 ?_;refine A_ (Y_ (j_ d_) (bc_ (j_ d_))) (Zz 4 ?_);refine O_ o_ G_ ax_ rfl rfl rfl rfl rfl rfl λb_4=>?_;refine aj_ (news:=List.flatMap al_ [B.b]) cH_ A rfl rfl zp rfl (aL_ 0 rfl) (λu hu=>az_ cm_ hu) zad_ zaf_ rfl λsv_2 Hr_1 S=>?_;have U:=zsa S;refine Zz 3 ?_;refine A_ (Y_ (j_ d_) (Y_ (j_ d_) (bc_ (j_ d_)))) (Zz 5 ?_);exact u_ ⟨(j+1,(StM.add C B.b),(Q++[B.b]),Y,a4,(a8++[B.b]),sv_2,Hr_1),K,hJ.take (yG_ O) λn=>StM.mem,hr1q,(by rw[qJ_ (by simpa using hfk),yaf_,yaf_];simp only[yal_,yaL_];omega),J.take (by simpa using hfk) λn=>StM.mem,U⟩ zab_ zl zp (λ_ _ h=>h.2)
   replace F:=zdt F;refine Zz 8 ?_;exact u_ ⟨(j+1,C,Q,V,a3,a8,G,a1),K,hJ.skip (yG_ O) zbg_,M,hcn,J,A⟩ zab_ zl (l_ (c_ d_) (F_ (c_ z_) B_)) zh
  refine Zz 8 ?_;refine f_ (nk_ A zaa_) rfl zp zt rfl λ⟨HsN,hsn⟩=>?_;dsimp only;have hsN:at_ 9 1 G (bb_ N).length (List.flatMap al_ (bb_ N)) HsN:=by rw[yaR_];exact hsn
  refine Zz 2 ?_;refine A_ (bc_ (j_ d_)) (bk_ ?_);obtain rfl:W=[]:=yau_ zaa_;refine aW_ hsN (c_ z_) λZ P hnad b0 hmnad a6=>?_;subst hnad;have b2:∀ x∈[(SL.mk I e d),(SL.mk (bb_ N) Z P)],x.ok:=sl_two ⟨a7.1,a7.2.2,by dsimp only;omega⟩ ⟨b0,a6,by dsimp only;rw[yaR_];omega⟩;refine Zz 3 ?_;refine O_ runUnderlying339 bP_ bw_ rfl rfl rfl rfl rfl rfl λb_2=>?_;refine bC_ (List.flatMap SL.cells [(SL.mk I e d),(SL.mk (bb_ N) Z P)]) d_ rfl ?_;refine f_ (xd_ [(SL.mk I e d),(SL.mk (bb_ N) Z P)] (some ⟨b_2,0,none⟩) 2 b2 zaj_) rfl g_ (λv _ h=>by exact⟨h.1,AI_ h.2.2.2.1 h.2.1,trivial⟩) rfl λ⟨⟨ad_1,cp_1⟩,hc_1,hc_2,hc_3⟩=>?_;dsimp only;refine Zz 4 ?_;exact ab_ results156 ⟨((hZ_ [(SL.mk I e d),(SL.mk (bb_ N) Z P)]),ad_1,cp_1),⟨N,hN.nd,by simp[hZ_],hN.dj,λt=>by rw[<-hN.mem];exact hC.fine t⟩,hc_1,hc_2,hc_3⟩ rfl g_ zf
 have R:i<I.length:=by omega
 obtain⟨C,E⟩:∃ a5,I[i]? = some a5:=⟨_,yaa_ R⟩;refine Zz 10 ?_;refine e_ (be_ H o_ G_ rfl rfl zaa_ zaa_) rfl (e_ (cw_ H B_ ad_ rfl (w_ au_ E 0 _ rfl)) rfl (Zz 6 ?_));refine dN_ 0 s bD_ (.inr rfl) Q_ rfl rfl rfl rfl (Zz 7 ?_);exact u_ ⟨(i+1,(StM.add s C),X,a0),R,(by intro n;rw[StM.mem,hs n,tk1 E];simp),H⟩ zab_ zl zp zh
end Go.Proofs.YtbffkokbdeppaaaGreatDoor
namespace Go.Proofs.YtbffkokbdeppaaaGreatDoor
open Go Go.Sx Go.Proofs Tryz
attribute [local irreducible] Code.wp wpList wpAnyH
open Go.Vs Go.Shelf Go.RowKit
theorem BO_ {l:List Fc}:∀ {x z:Fc},z∈x::cpG (λx w=>decide (x=w)) x l↔z∈x::l:=by
 induction l with
 | nil=>intro x z;simp[cpG]
 | cons y l ih =>
   intro x z;unfold cpG
   split
   . rename_i h
     have h:=yaZ_ h;subst h;rw[ih];simp
   . have d:=ih (x:=y) (z:=z)
     simp only[yan_]at d ⊢;rw[d]
theorem zC_ {l:List Fc}:∀ {x:Fc},(x::l).Pairwise (λx y=>¬ y.lt x)->Srt (x::cpG (λx w=>decide (x=w)) x l):=by
 induction l with
 | nil=>intro x _;unfold Srt;simp[cpG]
 | cons y l ih =>
   intro x h;have d:=ybj_.1 h;unfold cpG
   split
   . rename_i e
     have e:=yaZ_ e;subst e;exact ih d.2
   . rename_i e
     have e:y≠x:=λq=>e (yaC_ q)
     have m:=ih d.2
     have v:x.lt y:=by
       rcases Fc.lt_tri x y with q|q|q
       . exact q
       . exact absurd q.symm e
       . exact absurd q (d.1 y zaj_)
     refine ybj_.2 ⟨λz A=>?_,m⟩;rcases yan_.1 A with rfl|A
     . exact v
     . exact Fc.lt_trans v ((ybj_.1 m).1 z A)
theorem iD_ {xs:List Fc} {z:Fc}:z∈hA_ xs↔z∈xs:=by
  rw[<-sh_ xs z];unfold hA_ cpL;cases eU_ xs with
  | nil=>simp
  | cons x l=>exact BO_
theorem iC_ (xs:List Fc):Srt (hA_ xs):=by
 have h:(eU_ xs).Pairwise λx y=>(!(ltOf hU_) y x)=true:=ycY_
   (λa b c h d=>by simp only[ybp_]at *;exact Au_.ntrans c b a d h)
   (λa b=>by
     simp only[yby_,ybp_];rw[ltF,ltF,yaV_,yaV_];rcases Fc.lt_tri a b with g|g|g
     . exact .inl λq=>Fc.lt_irr a (Fc.lt_trans g q)
     . subst g;exact .inl a.lt_irr
     . exact .inr λq=>Fc.lt_irr a (Fc.lt_trans q g)) xs
 have d:(eU_ xs).Pairwise λx y=>¬ y.lt x:=h.imp fun {a b} q=>by rw[ybp_,ltF,yaV_]at q;exact q
 unfold hA_ cpL;cases e:eU_ xs with
 | nil=>unfold Srt;simp
 | cons x l=>rw[e]at d;exact zC_ d
def rkF (r:List Fc×Ao×Nat):Prop:=r.1.length<=r.2.2/\r.2.2<=maxLen/\(r.2.1=none->r.2.2=0)
def Cn_ (l:List Ax) (X:List Fc):Prop:=Srt X/\∀ z,z∈X↔∃ r t,(r∈vcL 6 l/\r≠[])/\RchS (lat (ih_ l)) [r] t/\z=X_ r t
theorem rV_ {k:Int}:∀ {l:List Ax},(∀ x∈l,x.left.sz<=64/\x.right.sz<=64/\x.roles.length<=4)->(vcL k l).length<=136*l.length
  | [],_=>by simp[vcL]
  | x::l,h=>by
    have e:=rV_ (k:=k) (l:=l) λy d=>h y zaS_
    obtain⟨a,b,c⟩:=h x zaj_
    have m:(x.vc k).length<=136:=by
      unfold Ax.vc;have:=Con.nms_len k x.left;have:=Con.nms_len k x.right;rw[yaf_,yaf_,yaf_]
      split<;>split<;>simp<;>omega
    unfold vcL at e ⊢;rw[yaG_,yaf_,yal_];omega
theorem pV_ {c:Con} (h:c.check=0) {r:Str} (m:r∈c.nms 6):bj_ r=true:=by
  unfold Con.nms at m;obtain⟨d,e,rfl⟩:=yap_.1 m;rw[yaX_]at e;have hk:d.kind=6:=by simpa using e.2
  exact (Con.names_of ((Con.check_iff d).1 (pX_ _ c (yaj_ _) h d e.1)).2.2).plain (.inr (.inl hk))
theorem pW_ {c:Con} (h:c.empty=true) {r:Str} (d:r∈c.nms 6):bj_ r=true:=by
  cases c with
  | mk k n l hi ad cp ps =>
    unfold Con.empty at h;simp only[yaq_,ycB_,Con.parts,Con.kind]at h;have:ps=[]:=yau_ zaa_;subst this;rw[Con.nms_eq]at d;simp[Con.kind,Con.parts,h.1.1.1.1]at d
theorem rU_ {l:List Ax} (C:∀ x∈l,x.check=0) {r:Str} (d:r∈vcL 6 l) (E:r≠[]):bj_ r=true:=by
 unfold vcL at d;obtain⟨x,F,d⟩:=yas_.1 d;have v:=C x F;have h:=Ax.good_of v;have m:=lN_ v;unfold Ax.shaped at m;rw[yag_ (by have:=h.k1;have:=h.k9;omega)]at m;simp only[yaq_,yby_]at m;obtain⟨⟨⟨⟨⟨⟨B,y⟩,A⟩,_⟩,_⟩,_⟩,_⟩:=m;unfold Ax.vc at d;rw[yao_ rfl,yag_ zae_,yaw_,yah_,yah_,yah_,yai_]at d;rcases d with (d|d)|d|rfl
 .exact B.elim (λq=>pV_ (li_ v q) d) (λq=>pW_ q d)
 .exact y.elim (λq=>pV_ (hn_ v q) d) (λq=>pW_ q d)
 .exact h.roles r d
 have hk:x.kind=1\/x.kind=2\/x.kind=3\/x.kind=4\/x.kind=5\/x.kind=6\/x.kind=7\/x.kind=8\/x.kind=9:=by have:=h.k1;have:=h.k9;omega
 rcases A with q|q
 .refine h.role ?_
  rcases hk with e|e|e|e|e|e|e|e|e<;>rw[e]at q<;>first|omega|exact absurd q zae_
 exact absurd (by simpa using q) E
theorem xX_ {l:List Str} (h:SrS l):l.Nodup:=h.imp fun {a b} q e=>by subst e;exact ybM_ _ q
theorem kN_ {s:Str} (h:bj_ s=true):aV_ s=true:=by unfold aV_;rw[h];rfl
theorem inc_in {z:Fc} {X:Prop} {T:List Str} {r t:Str}:((X\/∃ t∈T,z=X_ r t)\/z=X_ r t)↔(X\/∃ u∈T++[t],z=X_ r u):=by
 constructor
 .rintro ((h|⟨u,d,e⟩)|e)
  .exact .inl h
  .exact .inr ⟨u,by simp[d],e⟩
  exact .inr ⟨t,by simp,e⟩
 rintro (h|⟨u,d,e⟩)
 .exact .inl (.inl h)
 rw[yah_,yai_]at d;rcases d with d|rfl
 .exact .inl (.inr ⟨u,d,e⟩)
 exact .inr e
theorem zi_ {l:List Ax} {R T:List Str} {r:Str} (h:AbvR l r T) {z:Fc}:((∃ s∈R,∃ t,RchS (lat (ih_ l)) [s] t/\z=X_ s t)\/∃ t∈T,z=X_ r t)↔∃ s∈R++[r],∃ t,RchS (lat (ih_ l)) [s] t/\z=X_ s t:=by
 constructor
 .rintro (⟨s,d,q⟩|⟨t,m,e⟩)
  .exact⟨s,by simp[d],q⟩
  exact⟨r,by simp,t,(h.2 t).1 m,e⟩
 rintro ⟨s,d,t,m,e⟩;rw[yah_,yai_]at d;rcases d with d|rfl
 .exact .inl ⟨s,d,t,m,e⟩
 exact .inr ⟨t,(h.2 t).2 m,e⟩
theorem Bs_ {l:List Ax} {R:List Str} (h:lP_ 6 l R) {z:Fc}:(∃ s∈R,∃ t,RchS (lat (ih_ l)) [s] t/\z=X_ s t)↔∃ r t,(r∈vcL 6 l/\r≠[])/\RchS (lat (ih_ l)) [r] t/\z=X_ r t :=
  ⟨λ⟨s,m,t,d,e⟩=>⟨s,t,⟨((h.2 s).1 m).1,((h.2 s).1 m).2 (.inl rfl)⟩,d,e⟩,λ⟨s,t,⟨v,q⟩,d,e⟩=>⟨s,(h.2 s).2 ⟨v,λ_=>q⟩,t,d,e⟩⟩
theorem incl_c (A:List Ax) (lad:Ao) (lcap:Nat) (a0:∀ x∈A,x.ok) (Q:∀ x∈A,x.check=0) (a7:A.length<=20):Tri prog 68 #[.slice lad A.length lcap] [] [cG_ lad A,bN_] (λy:{y:List Fc×Ao×Nat // Cn_ A y.1/\rkF y}=>.tuple #[.slice y.1.2.1 y.1.1.length y.1.2.2,iv_ 0]) (λ_=>[]) (λy=>[ac_ y.1.2.1 (y.1.1.flatMap Fc.cells)]):=by
 refine i_ func68 rfl rfl ntmps68 rfl λv_1=>?_;have a4:∀ x∈A,x.left.sz<=64/\x.right.sz<=64/\x.roles.length<=4:=λx hx=>⟨(jQ_ (Q x hx)).1,(jQ_ (Q x hx)).2,CB_ (Q x hx)⟩
 refine Zz 9 ?_;refine f_ (voc_c A lad lcap a0 Q a7) rfl g_ zf rfl λ⟨⟨⟨a6,b4,ccp⟩,⟨d,rad,W⟩,⟨b9,R,ecp⟩,⟨a2,b7,xcp⟩⟩,⟨b5,b3⟩,⟨B,b0⟩,⟨b1,a5⟩,c0,a8⟩=>?_;dsimp only;dsimp only at b5 b3 B b0 b1 a5 c0 a8;have hRn:d.length<=136*A.length:=by have h_1:=da_ (xX_ B.1) (m:=vcL 6 A) λn hn=>((B.2 n).1 hn).1;have h_2:=rV_ (k:=6) (l:=A) a4;omega
 refine Zz 3 ?_;refine x_ zeroValue83 rfl λb_1=>n_ 0 sizeOf83 rfl rfl rfl rfl rfl rfl (Zz 7 ?_)
 refine e_ (ao_ (cg_ rfl rfl) (show _=Value.bool false from yae_ Value.bool zae_)) rfl (Zz 15 ?_);refine H_ (ι:={y:Nat×List Fc×Value×Hp // y.1<=List.length d/\(∀ z,z∈y.2.1↔∃ r∈List.take y.1 d,∃ t,RchS (lat (ih_ A)) [r] t/\z=X_ r t)/\y.2.1.length<=21*y.1/\zR 104 6 Fc.cells y.2.2.1 y.2.1 y.2.2.2}) (λy=>[(0,.slice lad A.length lcap),(2,y.1.2.2.1),(3,iv_ 0),(20,.slice rad d.length W),(21,iv_ (List.length d:Int)),(22,iv_ y.1.1)]) (λy=>(y.1.2.2.2)) (λy=>[ac_ b4 (a6.flatMap al_),ac_ rad (d.flatMap al_),ac_ R (b9.flatMap al_),ac_ b7 (a2.flatMap al_),cG_ lad A,bN_]) (λy=>d.length - y.1.1) ⟨((0:Nat),([]:List Fc),(.slice none 0 0),[]),by simp,(by intro z;simp),zaj_,(at_.nil _ _)⟩ zl g_ zh ?_;rintro ⟨⟨i,X,G,N⟩,b2,hX,hXl,e⟩;dsimp only at b2 hX hXl e ⊢;refine Zi 2 (λv=>?_) λv=>?_
 .refine Zz 7 ?_
  refine aW_ e T_ λqad qcp Z L hmqad hzqad=>?_;subst Z;refine Zz 2 ?_;refine f_ (gY_ X qad qcp L zaa_) rfl g_ zf rfl λ⟨⟨sad,scp⟩,O,M,P⟩=>?_;dsimp only;refine Zz 5 ?_;have hIn:Cn_ A (hA_ X):=⟨iC_ X,λz=>by rw[iD_,hX z,yab_ zaa_];exact Bs_ B⟩;exact fP_ results68 ⟨(hA_ X,sad,scp),hIn,O,M,P⟩ rfl rfl rfl g_ zf
 have H:i<d.length:=by omega
 obtain⟨C,v⟩:∃ K,d[i]? = some K:=⟨_,yaa_ H⟩;have I:C∈d:=yad_ v;have S:=rU_ Q ((B.2 C).1 I).1 (((B.2 C).1 I).2 (.inl rfl));refine Zz 19 ?_;refine f_ (Ch_ A lad lcap a0 Q a7 C (kN_ S) (by have:=dz_ S;omega)) rfl g_ zf rfl λ⟨⟨q,V,tcp⟩,J,hkt⟩=>?_;dsimp only;dsimp only at J hkt;have hTl:q.length<=A.length+1:=by have h_1:=iK_ (xX_ J.1) (λt ht=>(J.2 t).1 ht);have h_2:=lm_ A;omega
 refine Zz 11 ?_;refine e_ (ao_ (cg_ rfl rfl) (show _=Value.bool false from yae_ Value.bool zae_)) rfl (Zz 13 ?_);refine H_ (ι:={y:Nat×List Fc×Value×Hp // y.1<=List.length q/\(∀ z,z∈y.2.1↔z∈X\/∃ t∈List.take y.1 q,z=X_ C t)/\y.2.1.length=X.length+y.1/\zR 104 6 Fc.cells y.2.2.1 y.2.1 y.2.2.2}) (λy=>[(0,.slice lad A.length lcap),(2,y.1.2.2.1),(3,iv_ 0),(20,.slice rad d.length W),(21,iv_ (List.length d:Int)),(22,iv_ i),(6,str C),(35,.slice V q.length tcp),(36,iv_ (List.length q:Int)),(37,iv_ y.1.1)]) (λy=>(y.1.2.2.2)) (λy=>[ac_ V (q.flatMap al_),ac_ b4 (a6.flatMap al_),ac_ rad (d.flatMap al_),ac_ R (b9.flatMap al_),ac_ b7 (a2.flatMap al_),cG_ lad A,bN_]) (λy=>q.length - y.1.1) ⟨((0:Nat),X,G,N),by simp,(by intro z;simp),zaj_,e⟩ zl T_ zh ?_;rintro ⟨⟨j,Y,G,N⟩,a1,E,b6,e⟩;dsimp only at a1 E b6 e ⊢;refine Zi 2 (λc1=>?_) λc1=>?_
 .refine Zz 11 ?_
  exact u_ ⟨(i+1,Y,G,N),H,(by intro z;rw[E z,hX z,yab_ (l:=q) zaa_,tk1 v];exact zi_ J),zab_,e⟩ zab_ zl T_ (λ_ _ h=>h.2)
 have F:j<q.length:=by omega
 obtain⟨b8,U⟩:∃ K,q[j]? = some K:=⟨_,yaa_ F⟩;refine Zz 19 ?_;refine e_ (C_ dt_ rfl rfl) rfl (O_ I_ y_ R_ rfl rfl rfl rfl rfl rfl λb_2=>?_);refine aj_ (news:=List.flatMap Fc.cells [(Fc.mk 1 C b8 [] 0 0)]) eb_ e rfl rfl B_ rfl (aL_ 0 rfl) (λu hu=>az_ Fc.cells_one hu) zad_ zaf_ rfl λT a3 v=>?_;refine A_ yaB_ ?_;have a9:=zsa v;refine Zz 8 ?_;exact u_ ⟨(j+1,(Y++[(X_ C b8)]),T,a3),F,(by intro z;rw[yah_,E z,tk1 U,yai_];exact inc_in),(by rw[yaf_];simp only[yal_,yaL_];omega),a9⟩ zab_ zl B_ zh
theorem wD_ {N:Nf} {B:Vw} {x:Hp} {fr:Fr} {F H:Hp} {Γ:List Fct} {P:Program} {K D:Type} [DecidableEq K] {k:Act->World->Prop} {m:K->Value} {cells:D->List Value} {y e:TypeId} {sz A:Nat} {l:List (K×D)} {d:Hp} (I:KeyT P y m) (hm:cU_ m cells e sz l A d) (E:H.Perm (d++F))
    (h:∀ adr:K->Ao×Nat,(∀ k,(lat l k).length<=(adr k).2/\((adr k).1=none->(adr k).2=0))->Ok N B x k fr F (mlF P y m cells A l adr::Γ)):Ok N B x k fr H Γ:=by
  obtain⟨adr,J,G⟩:=hm.lentC I;refine ot_ d E (iN_ (λv _ q=>?_) (h adr J));rw[eQ_]at q;refine⟨G v λp C=>?_,q.2⟩;have:=q.1;exact kp_ d.reverse (by rw[List.map_reverse]at *;exact this) p (ydF_.2 C)
def ei_ (l:List Str):List Str:=l.filter λs=>!nls s
def tyL (K:List Str) (l:List Fc):List Fc:=l.filter λz=>decide (z.kind=1)&&decide (z.a∈K)
def liL (l:List Fc):List Fc:=l.filter λz=>decide (z.kind=2)&&(!nls z.a&&!nls z.b)
def raL (K:List Str) (l:List Fc):List Fc:=l.filter λz=>decide (z.kind=3)&&decide (z.a∈K)
structure AsmR (p:List Pc) (c:Cl) (X:List Str) (Ty Li Di Ra:List Fc):Prop where
  nd:pu_ (dr_ p c.facts) (ei_ c.atoms) X
  ty:Srt Ty/\∀ z,z∈Ty↔z∈c.facts/\z.kind=1/\z.a∈X
  li:Srt Li/\∀ z,z∈Li↔z∈c.facts/\z.kind=2/\nls z.a=false/\nls z.b=false
  di:Srt Di/\∀ z,z∈Di↔∃ s∈X,(s,z)∈dr_ p c.facts
  ra:Srt Ra/\∀ z,z∈Ra↔z∈c.facts/\z.kind=3/\z.a∈X
theorem Br_ {l:List Str} (h:SrS l):Lib.compact (bb_ (ei_ l))=ei_ l:=by
  have d:SrS (ei_ l):=h.sublist ydu_;exact nj_ (hT_ (gf_ _)) d λx=>by rw[iW_,ybc_]
theorem yF_ {p:List Pc} {F:List Fc} (s t:Str) (h:t∈nxD (dr_ p F) s):t∈p.map Pc.c:=by
  unfold nxD at h;obtain⟨z,e,rfl⟩:=yap_.1 h;obtain⟨f,_,y,d,_,_,_,_,rfl⟩:=ti_.1 (cb_.1 e);exact yap_.2 ⟨y,d,rfl⟩
theorem kn_ {K D:Type} [DecidableEq K]:∀ (L:List (K×D)) {X:List K},X.Nodup->(X.flatMap (lat L)).length<=L.length
 | [],X,_=>by
   have:X.flatMap (lat ([]:List (K×D)))=[]:=List.flatMap_eq_nil_iff.2 λx _=>rfl
   rw[this];simp
 | (k,d)::L,X,h=>by
   have m:∀ X:List K,(X.flatMap (lat ((k,d)::L))).length=(X.flatMap (lat L)).length+X.count k:=by
     intro X
     induction X with
     | nil=>rfl
     | cons x X ih =>
       rw[yaG_,yaG_,yaf_,yaf_,ih,List.count_cons]
       have e:(lat ((k,d)::L) x).length=(lat L x).length+if x==k then 1 else 0:=by
         unfold lat;rw[ycO_]
         by_cases q:k=x
         . subst q;simp
         . rw[yag_ (by simpa using q),yag_ (by simpa using λe=>q e.symm)];rfl
       rw[e];omega
   have y:=kn_ L h;have v:=List.nodup_iff_count.1 h k;rw[m,yal_];omega
theorem vo_ {D:List (Str×Fc)} {I X:List Str} (h:pu_ D I X) (m:I.Nodup):X.Nodup:=by
  obtain⟨N,x,rfl,v,_⟩:=h;rw[ybf_];exact⟨m,(ycE_ _ _).nodup_iff.2 x,λa q b d e=>by subst e;rw[ybc_]at d;exact v a d q⟩
theorem Bd_ {D:List (Str×Fc)} {I X T:List Str} (h:pu_ D I X) (x:∀ s,∀ t∈nxD D s,t∈T) (A:T.length<=20000) (y:I.length<=40000):X.length<=60000:=by
  obtain⟨N,d,rfl,e,m⟩:=h
  have v:N.length<=T.length:=da_ d λs q=>by
    have:=((m s).1 (.inr q)).mem x;rw[yah_]at this;exact this.resolve_left (e s q)
  rw[yaf_,yaR_];omega
theorem ez_ {G:Prop} (h:G:=by
 refine Zz 8 ?_;exact mw_):G:=h
theorem eA_ {G:Prop} (h:G:=by
 refine Zz 17 ?_;exact mw_):G:=h
theorem mv_ {G:Prop} (h:G:=by
 refine Zz 1 ?_;refine A_ (Y_ (j_ d_) (Y_ (j_ d_) (Y_ (j_ d_) (Y_ (j_ d_) (bc_ (j_ d_)))))) (cn_ 3 x cq_ rfl rfl rfl rfl (Zz 7 ?_));exact u_ ⟨(j+1,I,N,G,H,K,Q),A,zaw_,(by have e:liL (List.take (j+1) c.facts)=((liL (c.facts.take j))++[F]):=(by unfold liL;rw[tk1 d,ycb_];simp_all);rw[e];exact x),zax_⟩ zab_ zl (l_ (c_ (c_ d_)) (l_ (c_ (c_ d_)) (l_ (c_ (c_ d_)) (F_ (c_ (c_ (j_ z_))) (F_ (c_ (c_ z_)) (c_ B_)))))) zh):G:=h
theorem eB_ {G:Prop} (h:G:=by
 refine Zz 1 ?_;refine A_ (Y_ (j_ d_) (Y_ (j_ d_) (Y_ (j_ d_) (Y_ (j_ d_) (bc_ (j_ d_)))))) (cn_ 3 x cq_ rfl rfl rfl rfl (Zz 7 ?_));exact u_ ⟨(j+1,I,N,J,O,G,H),A,zaw_,zaz_,(by have e:raL s.ks (List.take (j+1) c.facts)=((raL s.ks (c.facts.take j))++[F]):=(by unfold raL;rw[tk1 d,ycb_];simp_all);rw[e];exact x)⟩ zab_ zl (l_ (c_ (c_ d_)) (l_ (c_ (c_ d_)) (l_ (c_ (c_ d_)) (F_ (c_ (c_ (j_ z_))) (F_ (c_ (c_ aU_)) (c_ B_)))))) zh):G:=h
theorem mw_ {G:Prop} (h:G:=by
 exact u_ ⟨(j+1,I,N,J,O,K,Q),A,zaw_,zaz_,zax_⟩ zab_ zl (l_ (c_ d_) (l_ (c_ d_) (l_ (c_ d_) (F_ (c_ z_) (F_ (c_ z_) B_))))) zh):G:=h
set_option maxHeartbeats 1000000 in
theorem uP_ (p:List Pc) (Y:Ao) (Z:Nat) (c:Cl) (hco:c.ok) (hp:p.length<=12000) (hF:c.facts.length<=65536) (hA:c.atoms.length<=40000) (hAs:SrS c.atoms):Tri prog 69 #[.slice Y p.length Z,Cl.val c] [] [ac_ Y (p.flatMap Pc.cells),ac_ c.aad (c.atoms.flatMap al_),ac_ c.fad (c.facts.flatMap Fc.cells)] (λy:{y:(List Str×Ao×Nat)×(List Fc×Ao×Nat)×(List Fc×Ao×Nat)×(List Fc×Ao×Nat)×(List Fc×Ao×Nat) // AsmR p c y.1.1 y.2.1.1 y.2.2.1.1 y.2.2.2.1.1 y.2.2.2.2.1/\rkS y.1/\rkF y.2.1/\rkF y.2.2.1/\rkF y.2.2.2.1/\rkF y.2.2.2.2}=>.agg #[.slice y.1.1.2.1 y.1.1.1.length y.1.1.2.2,.slice y.1.2.1.2.1 y.1.2.1.1.length y.1.2.1.2.2,.slice y.1.2.2.1.2.1 y.1.2.2.1.1.length y.1.2.2.1.2.2,.slice y.1.2.2.2.1.2.1 y.1.2.2.2.1.1.length y.1.2.2.2.1.2.2,.slice y.1.2.2.2.2.2.1 y.1.2.2.2.2.1.length y.1.2.2.2.2.2.2,.slice none 0 0]) (λ_=>[]) (λy=>[ac_ y.1.1.2.1 (y.1.1.1.flatMap al_),ac_ y.1.2.1.2.1 (y.1.2.1.1.flatMap Fc.cells),ac_ y.1.2.2.1.2.1 (y.1.2.2.1.1.flatMap Fc.cells),ac_ y.1.2.2.2.1.2.1 (y.1.2.2.2.1.1.flatMap Fc.cells),ac_ y.1.2.2.2.2.2.1 (y.1.2.2.2.2.1.flatMap Fc.cells)]):=by
 refine i_ func69 rfl rfl ntmps69 rfl λv_1=>?_;refine Zz 2 ?_;refine P_ rfl rfl λb1=>x_ jX_ rfl λb2=>Zz 17 ?_
 let Pu:Nat×Obj:=(b1,.cells #[.slice c.aad c.atoms.length c.acap,.slice c.fad c.facts.length c.fcap] 110 (0,0));refine H_ (ι:={y:Nat×Value×Hp // y.1<=List.length c.atoms/\zR 9 1 al_ y.2.1 (ei_ (c.atoms.take y.1)) y.2.2}) (λy=>[(0,.slice Y p.length Z),(3,zp_ b1 0),(4,zp_ b2 0),(5,y.1.2.1),(15,.slice c.aad c.atoms.length c.acap),(16,iv_ (List.length c.atoms:Int)),(17,iv_ y.1.1)]) (λy=>((b2,.cells #[.slice none 0 0,.slice none 0 0,.slice none 0 0,.slice none 0 0,.slice none 0 0,.slice none 0 0] 52 (0,0))::(Pu::y.1.2.2))) (λy=>[ac_ Y (p.flatMap Pc.cells),ac_ c.aad (c.atoms.flatMap al_),ac_ c.fad (c.facts.flatMap Fc.cells)]) (λy=>c.atoms.length - y.1.1) ⟨((0:Nat),(.slice none 0 0),[]),by simp,(at_.nil _ _)⟩ zl zp zh ?_;rintro ⟨⟨i,sv_Q,H_Q⟩,g9,a1⟩;dsimp only at g9 a1 ⊢;have hil:List.length (ei_ (c.atoms.take i))<=40000:=ybg_ (yba_ _ _) (ybg_ (ybX_ i _) zaa_);refine Zi 2 (λb6=>?_) λb6=>?_
 .refine Zz 11 ?_
  refine f_ (uz_ p Y Z c.facts c.fad c.fcap hp hF) rfl g_ zf rfl λ⟨⟨db,Hd⟩,hd⟩=>?_;dsimp only;dsimp only at hd;refine Zz 3 ?_;refine A_ (Y_ (j_ d_) (bc_ (j_ d_))) (bk_ ?_);rw[yab_ zaa_]at a1;refine wD_ bD_ hd (c_ (c_ z_)) λadr e5=>?_;refine aW_ a1 (c_ B_) λd9 f6 g5 f2 hmqad hzqad=>?_;subst g5;have hil:List.length (ei_ c.atoms)<=40000:=ybg_ (yba_ _ _) hA;refine Zz 2 ?_;refine f_ (tP_ (ei_ c.atoms) d9 f6 f2 zaa_) rfl g_ zf rfl λ⟨⟨f3,icp⟩,g8,hi_2,g2⟩=>?_;dsimp only;have e8:List.length (Lib.compact (bb_ (ei_ c.atoms)))<=40000:=by have:=gI_ (bb_ (ei_ c.atoms));rw[yaR_]at this;omega
  refine Zz 1 ?_;refine f_ (AR_ (Lib.compact (bb_ (ei_ c.atoms))) f3 icp ⟨g8,hi_2,g2⟩ ((hT_ (gf_ _)).imp λq e=>by subst e;exact ybM_ _ q) e8 db (dr_ p c.facts) adr (by have:=iU_ (p:=p) c.facts;have:=ydh_ hF hp;omega) (p.map Pc.c) yF_ zar_) rfl g_ zf rfl λ⟨⟨X,a2,b3⟩,e1,hnk⟩=>?_;dsimp only;dsimp only at e1 hnk;have g7:X.Nodup:=vo_ e1 ((hT_ (gf_ _)).imp λq e=>by subst e;exact ybM_ _ q);have hXl:X.length<=60000:=Bd_ e1 yF_ zar_ e8;refine Zz 1 ?_;refine n_ 0 bP_ rfl rfl rfl rfl rfl rfl (Zz 4 ?_);refine bf_ rfl λe0=>Zz 13 ?_
  refine H_ (ι:={y:Nat×StM×Value×Hp // y.1<=List.length X/\(∀ n,n∈y.2.1.ks↔n∈List.take y.1 X)/\zR 104 6 Fc.cells y.2.2.1 (List.flatMap (lat (dr_ p c.facts)) (X.take y.1)) y.2.2.2}) (λy=>[(0,.slice Y p.length Z),(3,zp_ b1 0),(4,zp_ b2 0),(5,.slice d9 (ei_ c.atoms).length f6),(15,.slice c.aad c.atoms.length c.acap),(16,iv_ (List.length c.atoms:Int)),(17,iv_ i),(8,.map (some db)),(9,.map (some e0)),(40,.slice a2 X.length b3),(41,iv_ (List.length X:Int)),(42,iv_ y.1.1)]) (λy=>((e0,.map y.1.2.1.es y.1.2.1.c)::((b2,.cells #[.slice a2 X.length b3,.slice none 0 0,.slice none 0 0,y.1.2.2.1,.slice none 0 0,.slice none 0 0] 52 (0,0))::(Pu::y.1.2.2.2)))) (λy=>[ac_ a2 (X.flatMap al_),ac_ f3 (List.flatMap al_ (Lib.compact (bb_ (ei_ c.atoms)))),ac_ d9 (List.flatMap al_ (ei_ c.atoms)),mlF prog 9 str Fc.cells db (dr_ p c.facts) adr,ac_ Y (p.flatMap Pc.cells),ac_ c.aad (c.atoms.flatMap al_),ac_ c.fad (c.facts.flatMap Fc.cells)]) (λy=>X.length - y.1.1) ⟨((0:Nat),StM.nil,(.slice none 0 0),[]),by simp,(by intro n;simp[StM.nil]),(at_.nil 104 6)⟩ zl zp zh ?_;rintro ⟨⟨m,s,sv_Z,H_Z⟩,g4,hs,a9⟩;dsimp only at g4 hs a9 ⊢;have hel:List.length (List.flatMap (lat (dr_ p c.facts)) (X.take m))<=786432000:=by have a8:=kn_ (dr_ p c.facts) (g7.sublist (List.take_sublist m X));have a5:=iU_ (p:=p) c.facts;have h_3:=ydh_ hF hp;omega
  refine Zi 2 (λU=>?_) λU=>?_
  .refine Zz 7 ?_
   rw[yab_ (l:=X) zaa_]at hs a9;have hel_1:List.length (List.flatMap (lat (dr_ p c.facts)) X)<=786432000:=by have a8:=kn_ (dr_ p c.facts) g7;have a5:=iU_ (p:=p) c.facts;have h_3:=ydh_ hF hp;omega
   refine aW_ a9 (c_ (c_ B_)) λg1 ecp head f7 hmead hzead=>?_;subst head;refine Zz 3 ?_;refine f_ (gY_ (List.flatMap (lat (dr_ p c.facts)) X) g1 ecp f7 zaa_) rfl g_ zf rfl λ⟨⟨b0,d1⟩,d7,c2,b5⟩=>?_;dsimp only;refine Zz 1 ?_;refine n_ 1 cq_ rfl rfl rfl rfl rfl rfl (Zz 12 ?_);refine H_ (ι:={y:Nat×Value×Hp×Value×Hp×Value×Hp // y.1<=List.length c.facts/\zR 104 6 Fc.cells y.2.1 (tyL s.ks (c.facts.take y.1)) y.2.2.1/\zR 104 6 Fc.cells y.2.2.2.1 (liL (c.facts.take y.1)) y.2.2.2.2.1/\zR 104 6 Fc.cells y.2.2.2.2.2.1 (raL s.ks (c.facts.take y.1)) y.2.2.2.2.2.2}) (λy=>[(0,.slice Y p.length Z),(3,zp_ b1 0),(4,zp_ b2 0),(5,.slice d9 (ei_ c.atoms).length f6),(15,.slice c.aad c.atoms.length c.acap),(16,iv_ (List.length c.atoms:Int)),(17,iv_ i),(8,.map (some db)),(9,.map (some e0)),(40,.slice a2 X.length b3),(41,iv_ (List.length X:Int)),(42,iv_ m),(61,.slice c.fad c.facts.length c.fcap),(62,iv_ (List.length c.facts:Int)),(63,iv_ y.1.1)]) (λy=>((e0,.map s.es s.c)::((b2,.cells #[.slice a2 X.length b3,y.1.2.1,y.1.2.2.2.1,.slice b0 (hA_ (List.flatMap (lat (dr_ p c.facts)) X)).length d1,y.1.2.2.2.2.2.1,.slice none 0 0] 52 (0,0))::(Pu::(y.1.2.2.1++(y.1.2.2.2.2.1++y.1.2.2.2.2.2.2)))))) (λy=>[ac_ b0 (List.flatMap Fc.cells (hA_ (List.flatMap (lat (dr_ p c.facts)) X))),ac_ g1 (List.flatMap Fc.cells (List.flatMap (lat (dr_ p c.facts)) X)),ac_ a2 (X.flatMap al_),ac_ f3 (List.flatMap al_ (Lib.compact (bb_ (ei_ c.atoms)))),ac_ d9 (List.flatMap al_ (ei_ c.atoms)),mlF prog 9 str Fc.cells db (dr_ p c.facts) adr,ac_ Y (p.flatMap Pc.cells),ac_ c.aad (c.atoms.flatMap al_),ac_ c.fad (c.facts.flatMap Fc.cells)]) (λy=>c.facts.length - y.1.1) ⟨((0:Nat),(.slice none 0 0),[],(.slice none 0 0),[],(.slice none 0 0),[]),by simp,(at_.nil _ _),(at_.nil _ _),(at_.nil _ _)⟩ zl zp zh ?_;rintro ⟨⟨j,I,N,J,O,K,Q⟩,g6,C,E,B⟩;dsimp only at g6 C E B ⊢;have hltyL:List.length (tyL s.ks (c.facts.take j))<=65536:=ybg_ (yba_ _ _) (ybg_ (ybX_ j _) zaa_);have hlliL:List.length (liL (c.facts.take j))<=65536:=ybg_ (yba_ _ _) (ybg_ (ybX_ j _) zaa_);have hlraL:List.length (raL s.ks (c.facts.take j))<=65536:=ybg_ (yba_ _ _) (ybg_ (ybX_ j _) zaa_);refine Zi 2 (λS=>?_) λS=>?_
   .refine Zz 7 ?_
    rw[yab_ zaa_]at C E B;refine aW_ C (c_ (c_ (c_ z_))) λtad tcp htad f5 hmtad hztad=>?_;subst htad;refine Zz 3 ?_;refine f_ (gY_ (tyL s.ks c.facts) tad tcp f5 (ybg_ (yba_ _ _) zaa_)) rfl g_ zf rfl λ⟨⟨e6,e4⟩,b4,d2,b8⟩=>?_;dsimp only;refine Zz 1 ?_;refine n_ 1 cq_ rfl rfl rfl rfl rfl rfl (Zz 3 ?_);refine aW_ E (c_ (c_ (c_ z_))) λuad ucp g3 f9 hmuad hzuad=>?_;subst g3;refine Zz 3 ?_;refine f_ (gY_ (liL c.facts) uad ucp f9 (ybg_ (yba_ _ _) zaa_)) rfl g_ zf rfl λ⟨⟨e2,e7⟩,d8,b7,d4⟩=>?_;dsimp only;refine Zz 1 ?_;refine n_ 1 cq_ rfl rfl rfl rfl rfl rfl (Zz 3 ?_);refine aW_ B (c_ (c_ B_)) λvad vcp hvad f8 hmvad hzvad=>?_;subst hvad;refine Zz 3 ?_;refine f_ (gY_ (raL s.ks c.facts) vad vcp f8 (ybg_ (yba_ _ _) zaa_)) rfl g_ zf rfl λ⟨⟨f0,f1⟩,b9,c1,d5⟩=>?_;dsimp only;refine Zz 1 ?_;refine n_ 1 cq_ rfl rfl rfl rfl rfl rfl (Zz 5 ?_);refine n_ 1 bO_ rfl rfl rfl rfl rfl rfl (Zz 3 ?_);exact de_ ⟨((X,a2,b3),((hA_ (tyL s.ks c.facts)),e6,e4),((hA_ (liL c.facts)),e2,e7),((hA_ (List.flatMap (lat (dr_ p c.facts)) X)),b0,d1),((hA_ (raL s.ks c.facts)),f0,f1)),⟨⟨Br_ hAs▸e1,⟨iC_ _,λz=>by rw[iD_,tyL,yaX_,yaq_,yaI_,yaI_,hs]⟩,⟨iC_ _,λz=>by rw[iD_,liL,yaX_,yaq_,yaq_,yaI_,ybp_,ybp_]⟩,⟨iC_ _,λz=>by rw[iD_,yas_];exact⟨λ⟨q,a8,a5⟩=>⟨q,a8,cb_.1 a5⟩,λ⟨q,a8,a5⟩=>⟨q,a8,cb_.2 a5⟩⟩⟩,⟨iC_ _,λz=>by rw[iD_,raL,yaX_,yaq_,yaI_,yaI_,hs]⟩⟩,hnk,⟨b4,d2,b8⟩,⟨d8,b7,d4⟩,⟨d7,c2,b5⟩,b9,c1,d5⟩⟩ (λaa v a8 a5=>dy_ (us:=[.slice a2 X.length b3,.slice e6 (hA_ (tyL s.ks c.facts)).length e4,.slice e2 (hA_ (liL c.facts)).length e7,.slice b0 (hA_ (List.flatMap (lat (dr_ p c.facts)) X)).length d1,.slice f0 (hA_ (raL s.ks c.facts)).length f1,.slice none 0 0]) 1 results69 gs_ bO_ rfl rfl rfl aa v a8 a5) g_ zf
   have A:j<c.facts.length:=by omega
   obtain⟨F,d⟩:∃ d0,c.facts[j]? = some d0:=⟨_,yaa_ A⟩;refine Zz 12 ?_;refine x_ R_ rfl λb_4=>n_ 0 y_ rfl rfl rfl rfl rfl rfl (Zi 7 (λc0=>?_) λc0=>?_)
   .refine Zi 14 (λW=>?_) λW=>?_
    .refine Zi 20 (λV=>?_) λV=>?_
     .exact eA_
     refine Zz 8 ?_;refine E_ (ao_ (bH_ (k:=F.a) (q:=s.ks) bD_ Q_ aG_ rfl rfl s.hE (λv h _=>(h.own _ (yad_ (i:=1) rfl)).1)) (show _=Value.bool (decide (F.a∈s.ks)) from yae_ Value.bool (ybm_.2 ycU_))) rfl λa7 P=>Zz 4 ?_
     cases a7
     .replace P:=zdf P
      exact ez_
     replace P:=zdt P;refine Zz 5 ?_;refine O_ I_ y_ R_ rfl rfl rfl rfl rfl rfl λa0=>?_;refine aj_ (news:=List.flatMap Fc.cells [F]) eb_ B rfl rfl (c_ (c_ (c_ (c_ (c_ (j_ aU_)))))) rfl (aL_ 0 rfl) (λu T=>az_ Fc.cells_one T) zad_ zaf_ rfl λG H b6=>?_;have x:=zsa b6;exact eB_
    refine Zz 6 ?_;refine S_ (bW_ F.a) rfl g_ zt rfl λa7 V=>ay_ rfl rfl (e_ (as_ rfl) rfl (Zz 2 ?_))
    cases a7
    .refine Zz 5 ?_
     refine S_ (bW_ F.b) rfl g_ zt rfl λa6 P=>ay_ rfl rfl (e_ (as_ rfl) rfl (Zz 4 ?_))
     cases a6
     .refine Zz 5 ?_
      refine O_ I_ y_ R_ rfl rfl rfl rfl rfl rfl λa0=>?_;refine aj_ (news:=List.flatMap Fc.cells [F]) eb_ E rfl rfl (c_ (c_ (c_ (c_ (c_ (j_ z_)))))) rfl (aL_ 0 rfl) (λu T=>az_ Fc.cells_one T) zad_ zaf_ rfl λG H U=>?_;have x:=zsa U;exact mv_
     refine Zi 5 (λM=>?_) λM=>?_
     .exact eA_
     refine Zz 8 ?_;refine E_ (ao_ (bH_ (k:=F.a) (q:=s.ks) bD_ Q_ aG_ rfl rfl s.hE (λv h _=>(h.own _ (yad_ (i:=1) rfl)).1)) (show _=Value.bool (decide (F.a∈s.ks)) from yae_ Value.bool (ybm_.2 ycU_))) rfl λd6 L=>Zz 4 ?_
     cases d6
     .replace L:=zdf L
      exact ez_
     replace L:=zdt L;refine Zz 5 ?_;refine O_ I_ y_ R_ rfl rfl rfl rfl rfl rfl λa0=>?_;refine aj_ (news:=List.flatMap Fc.cells [F]) eb_ B rfl rfl (c_ (c_ (c_ (c_ (c_ (j_ aU_)))))) rfl (aL_ 0 rfl) (λu T=>az_ Fc.cells_one T) zad_ zaf_ rfl λG H S=>?_;have x:=zsa S;exact eB_
    refine Zi 13 (λP=>?_) λP=>?_
    .exact eA_
    refine Zz 8 ?_;refine E_ (ao_ (bH_ (k:=F.a) (q:=s.ks) bD_ Q_ aG_ rfl rfl s.hE (λv h _=>(h.own _ (yad_ (i:=1) rfl)).1)) (show _=Value.bool (decide (F.a∈s.ks)) from yae_ Value.bool (ybm_.2 ycU_))) rfl λa6 M=>Zz 4 ?_
    cases a6
    .replace M:=zdf M
     exact ez_
    replace M:=zdt M;refine Zz 5 ?_;refine O_ I_ y_ R_ rfl rfl rfl rfl rfl rfl λa0=>?_;refine aj_ (news:=List.flatMap Fc.cells [F]) eb_ B rfl rfl (c_ (c_ (c_ (c_ (c_ (j_ aU_)))))) rfl (aL_ 0 rfl) (λu T=>az_ Fc.cells_one T) zad_ zaf_ rfl λG H c0=>?_;have x:=zsa c0;exact eB_
   refine Zz 8 ?_;refine E_ (ao_ (bH_ (k:=F.a) (q:=s.ks) bD_ Q_ aG_ rfl rfl s.hE (λv h _=>(h.own _ (yad_ (i:=1) rfl)).1)) (show _=Value.bool (decide (F.a∈s.ks)) from yae_ Value.bool (ybm_.2 ycU_))) rfl λa7 W=>Zz 4 ?_
   cases a7
   .replace W:=zdf W
    refine Zi 5 (λV=>?_) λV=>?_
    .refine Zi 20 (λP=>?_) λP=>?_
     .exact eA_
     refine Zz 8 ?_;refine E_ (ao_ (bH_ (k:=F.a) (q:=s.ks) bD_ Q_ aG_ rfl rfl s.hE (λv h _=>(h.own _ (yad_ (i:=1) rfl)).1)) (show _=Value.bool (decide (F.a∈s.ks)) from yae_ Value.bool (ybm_.2 ycU_))) rfl λa6 M=>Zz 4 ?_
     cases a6
     .replace M:=zdf M
      exact ez_
     replace M:=zdt M;refine Zz 5 ?_;refine O_ I_ y_ R_ rfl rfl rfl rfl rfl rfl λa0=>?_;refine aj_ (news:=List.flatMap Fc.cells [F]) eb_ B rfl rfl (c_ (c_ (c_ (c_ (c_ (j_ aU_)))))) rfl (aL_ 0 rfl) (λu T=>az_ Fc.cells_one T) zad_ zaf_ rfl λG H L=>?_;have x:=zsa L;exact eB_
    refine Zz 6 ?_;refine S_ (bW_ F.a) rfl g_ zt rfl λa6 P=>ay_ rfl rfl (e_ (as_ rfl) rfl (Zz 2 ?_))
    cases a6
    .refine Zz 5 ?_
     refine S_ (bW_ F.b) rfl g_ zt rfl λd6 M=>ay_ rfl rfl (e_ (as_ rfl) rfl (Zz 4 ?_))
     cases d6
     .refine Zz 5 ?_
      refine O_ I_ y_ R_ rfl rfl rfl rfl rfl rfl λa0=>?_;refine aj_ (news:=List.flatMap Fc.cells [F]) eb_ E rfl rfl (c_ (c_ (c_ (c_ (c_ (j_ z_)))))) rfl (aL_ 0 rfl) (λu T=>az_ Fc.cells_one T) zad_ zaf_ rfl λG H L=>?_;have x:=zsa L;exact mv_
     refine Zi 5 (λL=>?_) λL=>?_
     .exact eA_
     refine Zz 8 ?_;refine E_ (ao_ (bH_ (k:=F.a) (q:=s.ks) bD_ Q_ aG_ rfl rfl s.hE (λv h _=>(h.own _ (yad_ (i:=1) rfl)).1)) (show _=Value.bool (decide (F.a∈s.ks)) from yae_ Value.bool (ybm_.2 ycU_))) rfl λr_4 R=>Zz 4 ?_
     cases r_4
     .replace R:=zdf R
      exact ez_
     replace R:=zdt R;refine Zz 5 ?_;refine O_ I_ y_ R_ rfl rfl rfl rfl rfl rfl λa0=>?_;refine aj_ (news:=List.flatMap Fc.cells [F]) eb_ B rfl rfl (c_ (c_ (c_ (c_ (c_ (j_ aU_)))))) rfl (aL_ 0 rfl) (λu T=>az_ Fc.cells_one T) zad_ zaf_ rfl λG H g0=>?_;have x:=zsa g0;exact eB_
    refine Zi 13 (λM=>?_) λM=>?_
    .exact eA_
    refine Zz 8 ?_;refine E_ (ao_ (bH_ (k:=F.a) (q:=s.ks) bD_ Q_ aG_ rfl rfl s.hE (λv h _=>(h.own _ (yad_ (i:=1) rfl)).1)) (show _=Value.bool (decide (F.a∈s.ks)) from yae_ Value.bool (ybm_.2 ycU_))) rfl λd6 L=>Zz 4 ?_
    cases d6
    .replace L:=zdf L
     exact ez_
    replace L:=zdt L;refine Zz 5 ?_;refine O_ I_ y_ R_ rfl rfl rfl rfl rfl rfl λa0=>?_;refine aj_ (news:=List.flatMap Fc.cells [F]) eb_ B rfl rfl (c_ (c_ (c_ (c_ (c_ (j_ aU_)))))) rfl (aL_ 0 rfl) (λu T=>az_ Fc.cells_one T) zad_ zaf_ rfl λG H R=>?_;have x:=zsa R;exact eB_
   replace W:=zdt W;refine Zz 5 ?_;refine O_ I_ y_ R_ rfl rfl rfl rfl rfl rfl λa0=>?_;refine aj_ (news:=List.flatMap Fc.cells [F]) eb_ C rfl rfl (c_ (c_ (c_ (c_ (c_ z_))))) rfl (aL_ 0 rfl) (λu T=>az_ Fc.cells_one T) zad_ zaf_ rfl λG H V=>?_;have x:=zsa V;refine Zz 1 ?_;refine A_ (Y_ (j_ d_) (Y_ (j_ d_) (Y_ (j_ d_) (Y_ (j_ d_) (bc_ (j_ d_)))))) (cn_ 3 x cq_ rfl rfl rfl rfl (Zz 7 ?_));exact u_ ⟨(j+1,G,H,J,O,K,Q),A,(by have e:tyL s.ks (List.take (j+1) c.facts)=((tyL s.ks (c.facts.take j))++[F]):=(by unfold tyL;rw[tk1 d,ycb_];simp_all);rw[e];exact x),zaz_,zax_⟩ zab_ zl (l_ (c_ (c_ d_)) (l_ (c_ (c_ d_)) (l_ (c_ (c_ d_)) (F_ (c_ (c_ z_)) (F_ (c_ (c_ z_)) (c_ B_)))))) zh
  have d3:m<X.length:=by omega
  obtain⟨a4,e9⟩:∃ d0,X[m]? = some d0:=⟨_,yaa_ d3⟩;have hlk:=dv_ (dr_ p c.facts) a4;have hdl:=iU_ (p:=p) c.facts;have hml:=ydh_ hF hp;refine Zz 19 ?_;refine dN_ 0 s bD_ (.inr rfl) Q_ rfl rfl rfl rfl (Zz 7 ?_);refine e_ (bM_ (k:=a4) (adr:=adr) bD_ jM_ dS_ rfl rfl zf) rfl (eD_ (news:=List.flatMap Fc.cells (lat (dr_ p c.facts) a4)) eb_ a9 rfl rfl (e5 a4).2 (e5 a4).1 (c_ (c_ B_)) (by rw[cr_ Fc.cells 6 Fc.cells_len]) (λv _ h=>by exact (ba_ h.2.2.2.1 a4)) (λu T=>az_ Fc.cells_one T) zad_ zaf_ rfl λG H S=>?_);refine A_ yaB_ ?_;have x:=zsa S;refine Zz 1 ?_;refine cn_ 1 x cq_ rfl rfl rfl rfl (Zz 7 ?_);exact u_ ⟨(m+1,(StM.add s a4),G,H),d3,(by intro n;rw[StM.mem,hs n,tk1 e9];simp),(by rw[tk1 e9,yaY_];simpa using x)⟩ zab_ zl zp zh
 have a3:i<c.atoms.length:=by omega
 obtain⟨f4,e3⟩:∃ d0,c.atoms[i]? = some d0:=⟨_,yaa_ a3⟩;refine Zz 18 ?_;refine S_ (bW_ f4) rfl g_ zt rfl λa7 U=>e_ (as_ rfl) rfl (Zz 2 ?_)
 cases a7
 .refine Zz 4 ?_
  refine O_ o_ G_ ax_ rfl rfl rfl rfl rfl rfl λe0=>?_;refine aj_ (news:=List.flatMap al_ [f4]) cH_ a1 rfl rfl zp rfl (aL_ 0 rfl) (λu T=>az_ cm_ T) zad_ zaf_ rfl λG H S=>?_;refine A_ yaB_ ?_;have x:=zsa S;refine Zz 8 ?_;exact u_ ⟨(i+1,G,H),a3,(by have e:ei_ (List.take (i+1) c.atoms)=((ei_ (c.atoms.take i))++[f4]):=zcb_;rw[e];exact x)⟩ zab_ zl (l_ (c_ d_) (l_ (c_ d_) B_)) zh
 refine Zz 8 ?_;exact u_ ⟨(i+1,sv_Q,H_Q),a3,(by have e:ei_ (List.take (i+1) c.atoms)=(ei_ (c.atoms.take i)):=zcb_;rw[e];exact a1)⟩ zab_ zl (l_ d_ (l_ d_ T_)) zh
end Go.Proofs.YtbffkokbdeppaaaGreatDoor
