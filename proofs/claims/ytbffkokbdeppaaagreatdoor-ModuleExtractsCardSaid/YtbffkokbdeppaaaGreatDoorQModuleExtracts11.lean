/-
  Lemmas for the law ModuleExtracts (no condition).
-/
import Derived.Test.YtbffkokbdeppaaaGreatDoorQModuleExtracts10
set_option linter.unusedVariables false
set_option linter.unusedSimpArgs false
set_option linter.unusedSectionVars false
set_option maxHeartbeats 1000000
namespace Go.Proofs.YtbffkokbdeppaaaGreatDoor
open Go Go.Sx Go.Proofs Tryz
attribute [local irreducible] Code.wp wpList wpAnyH
open Go.Vs
theorem fv_:iJ_ prog 24 [(0,1)] [.slice none 0 0]:=⟨_,cE_,lV_,λw=>by simp[lo_]⟩
theorem vF_:Elt prog 22 30 16 216:=gn_ underlying22 (z:=.agg #[i4_ 0,.bool false,i4_ 0,str [],i4_ 0,i4_ 0,.slice none 0 0,i4_ 0,str [],i4_ 0,i4_ 0,.slice none 0 0,.slice none 0 0,str [],str [],str []]) zam_ rfl zaj_
theorem Ax.cells_one (x:Ax):x.cells.all Value.oneCell'=true:=by simp[Ax.cells,Con.cells,Value.oneCell',str]
theorem nw_ {G:Prop} (h:G:=by
 refine ai_ ?_;refine bE_ rfl ?_;refine y_ (λ_ a b=>⟨Vw.sat.sub (a.perm (g_ (g_ bS_))),b⟩) ?_;refine j_ 7 rfl zk ?_;refine am_ (news:=List.flatMap Ax.cells [H]) vF_ K rfl rfl zp rfl (aO_ 0 rfl) (λu hu=>aF_ Ax.cells_one hu) zab_ zac_ rfl λE I J=>?_;have o:=zsa J;refine ai_ ?_;refine bE_ rfl ?_;refine y_ zs ?_;refine C_ 1 [8] zk zs ?_;refine G_ rfl (bl_ lV_ rfl rfl rfl lo_) rfl ?_;refine bd_ ?_;refine j_ 9 rfl zk ?_;refine s_ (aL_ (ae_ f_) (cg_ (ae_ f_))) ?_;refine dy_ 1 o lo_ rfl rfl rfl rfl ?_;refine ai_ ?_;refine bE_ rfl ?_;refine y_ (λ_ a b=>⟨Vw.sat.sub (a.perm (g_ (g_ bS_))),b⟩) ?_;refine fG_ zk ?_;refine sz_ rfl ?_;exact ef_.1 (kV_ ⟨(E,I,L++[x]),by rw[ld_ e];exact o,by rw[ld_ e,yae_,yae_,C];rfl⟩ rfl (vk_ (E_ (g_ f_) (bP_ (g_ ag_) (bP_ ah_ f_)))))):G:=h
theorem vl_ (d:List Ax) (lad:Ao) (lcap:Nat) (p:List Pc) (ad:Ao) (cap:Nat) (S:List Str) (sad:Ao) (B:Nat) (hp:p.length<=100000000) (hS:S.length<=100000000) (Y:d.length<=100000000):Tri prog 39 #[.slice lad d.length lcap,.slice ad p.length cap,.slice sad S.length B] [] [O_ ad (p.flatMap Pc.cells),O_ sad (S.flatMap V_),bA_ lad d] (λy:{y:Value×Hp×List Int // av_ 30 16 y.1 (dB_ d y.2.2).length ((dB_ d y.2.2).flatMap Ax.cells) y.2.1/\y.2.2=(dE_ d p S d.length)}=>.agg #[y.1.1]) (λy=>y.1.2.1) (λ_=>[]):=by
 refine eJ_ func39 rfl rfl ntmps39 rfl λR=>?_;refine aq_ ?_;refine S_ ?_;refine Q_ rfl rfl λA=>?_;refine K_ cE_ rfl λk=>?_;refine ai_ ?_;refine ac_ rfl ?_;refine aq_ ?_;refine aq_ ?_;refine S_ ?_;refine c_ (aK_ 1 ox_ rfl rfl rfl) rfl ?_;refine c_ (P_ rfl) rfl ?_;refine c_ (P_ rfl) rfl ?_;refine d_ (rg_ d lad lcap p ad cap S sad B) rfl e_ zt rfl λ⟨bp,bs,V⟩=>?_;dsimp only;refine ai_ ?_;refine ac_ rfl ?_;refine cC_ ?_;refine fW_ (cv_ A (.cells #[.slice lad d.length lcap] 22 (0,0))) (cg_ (g_ f_)) (λ_ P O _=>⟨P,O⟩) ?_;refine bc_ [(3,zp_ A 0),(6,zp_ k 0),(11,.func (.func 161) #[] #[zp_ bp 0,zp_ bs 0,zp_ V 0])] zl ?_;refine jw_ [cv_ A (.cells #[.slice lad d.length lcap] 22 (0,0)),bA_ lad d] (σ:={y:Value×Hp×List Int // av_ 30 16 y.1 (dB_ d y.2.2).length ((dB_ d y.2.2).flatMap Ax.cells) y.2.1/\(dB_ d y.2.2).length=y.2.2.length}) (α:=Int) (xv:=λx=>i4_ x) (good:=λs x=>s.1.2.2.length<100000000/\0<=x/\x<(List.length d:Int)) (nx:=λx s X=>X.1.2.2=s.1.2.2++[x]) (Rc:=λs=>s.1.2.2=(dE_ d p S d.length)) (Γi:=[cv_ bp (.cells #[.slice ad p.length cap] 69 (0,0)),cv_ bs (.cells #[.slice sad S.length B] 25 (0,0)),cv_ V (.cells #[.slice lad d.length lcap] 22 (0,0)),O_ ad (p.flatMap Pc.cells),O_ sad (S.flatMap V_),bA_ lad d,cv_ A (.cells #[.slice lad d.length lcap] 22 (0,0)),bA_ lad d]) (Hj:=λy=>(k,.cells #[y.1.1] 24 (0,0))::y.1.2.1) (Hc:=[]) (caps:=[zp_ bp 0,zp_ bs 0,zp_ V 0]) ⟨(.slice none 0 0,[],[]),av_.nil _ _,rfl⟩ rfl (.refl _) zf ?_ ?_ ?_
 .rintro l D rec hpa a0 Z ht U Q ⟨⟨sv,M,L⟩,K,C⟩ x ⟨T,hx_2,hx_3⟩
  dsimp only at K C T ⊢;obtain⟨H,e⟩:∃ H,d[x.toNat]? = some H:=⟨_,yaa_ zaa_⟩;refine jm_ (ι:=Unit) (Hj:=λy:{y:Value×Hp×List Int // av_ 30 16 y.1 (dB_ d y.2.2).length ((dB_ d y.2.2).flatMap Ax.cells) y.2.1/\(dB_ d y.2.2).length=y.2.2.length}=>(k,.cells #[y.1.1] 24 (0,0))::y.1.2.1) (s:=⟨(sv,M,L),K,C⟩) (ok:=λX=>X.1.2.2=L++[x]) (Γ:=[cv_ A (.cells #[.slice lad d.length lcap] 22 (0,0)),bA_ lad d]) (λ_=>[(3,zp_ A 0),(6,zp_ k 0),(7,i4_ x)]) (λ_=>(k,.cells #[sv] 24 (0,0))::M) hpa a0 Z ht rfl ?_ ?_
  .intro n R a1 W
   rw[U];dsimp only;refine ef_.2 (s_ (H':=(k,.cells #[sv] 24 (0,0))::(M++W)) zak_ (ef_.1 ?_));refine aR_ ?_;refine Z_ (aa_ _) (X_ rfl) rfl rfl ?_;refine bK_ ?_;refine cL_ rfl ?_;exact eg_ () zl (F:=[]) zaS_ zh
  intro n R a1 W _;rw[Q];refine ef_.2 (s_ (H':=(k,.cells #[sv] 24 (0,0))::(M++W)) zak_ (ef_.1 ?_));refine dZ_ ?_;refine uY_ (W) zk rfl rfl ql_ ?_;refine C_ 5 [0,2,3,4,5] zk zs ?_;refine G_ rfl (bl_ lV_ rfl rfl rfl lo_) rfl ?_;refine G_ rfl (cT_ ox_ rfl zf rfl) rfl ?_;refine G_ rfl (P_ rfl) rfl ?_;refine G_ rfl (J_ aw_ D_ rfl rfl (λv _ h=>az_ (n:=16) Ax.cells_len zaj_ zbd_ e) zaa_ zah_) rfl ?_;refine G_ rfl (ax_ (ad:=lad) (us:=Ax.cells H) bg_ D_ rfl (λv _ h=>by exact h.2.1.1) (Ax.cells_len _) (t_ Ax.cells_len e)) rfl ?_;refine bd_ ?_;refine bx_ 1 6 rfl rfl zk ?_ ?_
  .refine c_ (aK_ 0 ox_ rfl rfl rfl) rfl ?_
   refine ai_ ?_;refine bE_ rfl ?_;refine y_ zs ?_;refine j_ 6 rfl zk ?_;refine p_ aw_ D_ aQ_ rfl rfl rfl rfl rfl rfl λb_3=>?_;exact nw_
  refine p_ aw_ D_ aQ_ rfl rfl rfl rfl rfl rfl λb_3=>?_;refine ai_ ?_;refine bE_ rfl ?_;refine y_ (λ_ a b=>⟨Vw.sat.sub (a.perm (g_ (g_ bS_))),b⟩) ?_;refine j_ 1 rfl zk ?_;refine c_ (aK_ 1 ox_ rfl rfl rfl) rfl ?_;exact nw_
 .intro l Gj hY
  exact zY_ (lst:=λy=>y.1.2.2) d lad lcap p ad cap S sad B bp bs V (cv_ A (.cells #[.slice lad d.length lcap] 22 (0,0))) (bA_ lad d) (λs x h=>hY s x h) ⟨(.slice none 0 0,[],[]),av_.nil _ _,rfl⟩ rfl hp hS Y
 rintro ⟨⟨sv,M,L⟩,K,C⟩ hL D l r;dsimp only at hL K C ⊢;refine cm_ rfl ?_;refine cZ_ ?_;refine aR_ ?_;refine Z_ bh_ (cx_ 0 ca_ ap_ rfl rfl rfl) rfl rfl ?_;refine eD_ bh_ 0 ap_ rfl rfl rfl rfl rfl (by have q:=(en_ K).2;simp only[Value.cells,ycj_,ycH_,q,ych_]) ?_;refine bK_ ?_;refine cm_ rfl ?_;refine hH_ ?_;exact tq_ (G:=(k,.cells #[sv] 24 (0,0))::(M++[(l,.loop r)])) ⟨(sv,M,L),K,hL⟩ (λa v P O=>db_ (us:=[sv]) 0 results39 ca_ ap_ rfl rfl rfl a v P O) zbF_ ⟨_,Dc_⟩ rfl
theorem By_:iJ_ prog 171 [(0,5),(5,1),(6,1)] [i4_ 0,str [],i4_ 0,i4_ 0,.slice none 0 0,i4_ 0,.slice none 0 0]:=⟨_,df_,runUnderlying171,λw=>by simp[af_,i_,sizeOf169]⟩
theorem sB_:Elt prog 169 171 7 96:=gn_ underlying169 (z:=.agg #[i4_ 0,str [],i4_ 0,i4_ 0,.slice none 0 0,i4_ 0,.slice none 0 0]) zam_ rfl zaj_
theorem Tre.cells_one (t:Tre):t.cells.all Value.oneCell'=true:=Go.Vs.Tre.cells_one t
theorem su_:∀ (m:Nat) (c:Con),c.sz<=m->c.sz<=1000000->Tri prog 118 #[Con.val c] [] [Con.memF c] (λy:{t:Tre // t.con=c/\t.wf}=>y.1.val) (λ_=>[]) (λy=>[y.1.memF]):=by
 intro m
 induction m with
 | zero=>intro c h;have:=Con.sz_pos c;omega
 | succ m ih =>
   intro c h hz;refine l_ func118 rfl rfl ntmps118 rfl λa5=>?_;refine Zz 2 ?_;refine Q_ rfl rfl λb_1=>K_ df_ rfl λI=>Zz 5 ?_
   refine c_ (x_ By_ rfl rfl) rfl (o_ 0 bf_ rfl rfl rfl rfl rfl rfl (Zz 12 ?_));refine Y_ (ι:={y:Nat×List Tre×Int×Value×Hp // y.1<=List.length c.parts/\List.map Tre.con y.2.1=List.take y.1 c.parts/\y.2.2.1=((1+Con.sz.szs (c.parts.take y.1):Nat):Int)/\(∀ t∈y.2.1,t.wf)/\zR 171 7 Tre.cells y.2.2.2.1 y.2.1 y.2.2.2.2}) (λy=>[(2,zp_ I 0),(9,.slice c.ad c.parts.length c.cap),(10,i4_ (List.length c.parts:Int)),(11,i4_ y.1.1)]) (λy=>((I,.cells #[i4_ c.kind,str c.name,i4_ c.lo,i4_ c.hi,.slice c.ad c.parts.length c.cap,i4_ y.1.2.2.1,y.1.2.2.2.1] 171 (0,0))::y.1.2.2.2.2)) (λy=>[dA_ y.1.2.1,Con.memF c]) (λy=>c.parts.length - y.1.1) ⟨((0:Nat),([]:List Tre),1,(.slice none 0 0),[]),by simp,by simp,(by simp[Con.sz.szs]),by simp,(av_.nil _ _)⟩ zl f_ (λv _ h=>by exact⟨(show (dA_ ([]:List Tre)).p v from λt B=>by simp at B),h.1,trivial⟩) ?_;rintro ⟨⟨i,Y,R,a0,a4⟩,O,o,A,F,k⟩;dsimp only at O o A F k ⊢;have hzb:=szs_take_le (l:=Con.parts c) i;have a7:=Con.sz_eq c;have a1:=Con.parts_lt c;refine Zi 2 (λx=>?_) λx=>?_
   . refine Zz 9 ?_;refine o_ 0 bf_ rfl rfl rfl rfl rfl (by have q:=(en_ k).2;simp only[Value.cells,ycj_,ycH_,q,ych_];rfl) ?_;refine Zz 3 ?_;refine I_ k ah_ λL E J X Z W=>?_;subst J;have T:List.take i c.parts=Con.parts c:=yac_ zaa_;rw[T]at o A;exact cs_ ⟨Tre.mk c R L E Y,rfl,(Tre.wf_iff _).2 ⟨by dsimp only[Tre.size,Tre.con];rw[A,Con.sz_eq],o.symm,F⟩⟩ (λaa v V S=>db_ (us:=Tre.cells (Tre.mk c R L E Y)) 0 results118 hN_ bf_ rfl rfl rfl aa v V S) e_ (λv _ h=>by exact⟨(Tre.mem_iff _ v).2 ⟨h.2.2.1,h.1,h.2.1⟩,trivial⟩)
   . obtain⟨G,H,e,d⟩:=zge (show i<c.parts.length by omega);refine Zz 10 ?_;refine c_ (J_ z_ i_ rfl rfl (λv _ h=>az_ (n:=5) Con.cells_len zaj_ (by exact ((Con.mem_iff c v).1 h.2.1).1) e) zaa_ zah_) rfl ?_;refine c_ (ax_ (ad:=c.ad) (us:=Con.cells H) H_ i_ rfl (λv _ h=>by exact ((Con.mem_iff c v).1 h.2.1).1) (Con.cells_len _) (t_ Con.cells_len e)) rfl (K_ ay_ rfl λb_3=>o_ 0 i_ rfl rfl rfl rfl rfl rfl (Zz 5 ?_));refine d_ (ih H zaI_ zaI_) rfl e_ (λv _ h=>by exact⟨(Con.mem_part (c:=c) h.2.1 d),trivial⟩) rfl λ⟨q,M,P⟩=>?_;dsimp only;have U:Tre.size q=(Con.sz H:Int):=by rw[((Tre.wf_iff q).1 P).1,M]
     have a2:=Con.sz_part d;refine K_ df_ rfl λa3=>o_ 0 bf_ rfl rfl rfl rfl rfl rfl (Zz 10 ?_)
     refine o_ 2 af_ rfl rfl rfl rfl rfl rfl (Zz 6 ?_);refine p_ bq_ bf_ df_ rfl rfl rfl rfl rfl rfl λa6=>?_;refine am_ (news:=List.flatMap Tre.cells [q]) sB_ k rfl rfl (g_ (g_ (g_ ah_))) rfl (aO_ 0 rfl) (λu hu=>aF_ Tre.cells_one hu) (by simp only[maxLen];((try simp only[yae_,yap_,yaw_]);have:=yag_ List.length o;rw[yaB_,yat_]at this;have:=Con.parts_lt c;omega)) (by ((try simp only[yae_,yap_,yaw_]);have:=yag_ List.length o;rw[yaB_,yat_]at this;have:=Con.parts_lt c;omega)) rfl λK Q x=>?_;refine s_ yah_ ?_;have C:=zsa x;refine Zz 1 ?_;refine dy_ 3 C sizeOf169 rfl rfl rfl rfl (Zz 7 ?_);exact w_ ⟨(i+1,(Y++[q]),(R+Tre.size q),K,Q),G,(by rw[take_snoc e,yaz_,o];simp[M]),(by show R+Tre.size q=_;rw[szs_step e,A,U];omega),(λt B=>by rcases yaj_.1 B with B|B;exact F t B;rw[yal_]at B;subst B;exact P),C⟩ zae_ zl (E_ (g_ (g_ (g_ f_))) (g_ (g_ ah_))) (λv _ h=>by exact⟨kT_ h.2.1 h.1,h.2.2.1,trivial⟩)
theorem yD_ (d us:List Tre) (ad L:Ao) (cap H:Nat) (R:d.length<=1000000) (T:us.length<=1000000) (P:(∀ t∈d,∀ u∈us,Tri prog 119 #[t.val,u.val] [] [t.memF,u.memF] (λ_:Unit=>i4_ (Con.cmp t.con u.con)) (λ_=>[]) (λ_=>[]))):Tri prog 202 #[.slice ad d.length cap,.slice L us.length H,.func (.func 119) #[] #[]] [] [O_ ad (d.flatMap Tre.cells),O_ L (us.flatMap Tre.cells),dA_ d,dA_ us] (λ_:Unit=>i4_ (Con.cmp.cmps (d.map Tre.con) (us.map Tre.con))) (λ_=>[]) (λ_=>[]):=by
 refine l_ func202 rfl rfl ntmps202 rfl λO=>?_;refine Zz 14 ?_;refine Y_ (ι:={y:Nat // y<=List.length d/\Con.cmp.cmps (d.map Tre.con) (us.map Tre.con)=Con.cmp.cmps (List.drop y (d.map Tre.con)) (List.drop y (us.map Tre.con))}) (λy=>[(0,.slice ad d.length cap),(1,.slice L us.length H),(2,.func (.func 119) #[] #[]),(6,i4_ 0),(11,.slice ad d.length cap),(12,i4_ (List.length d:Int)),(13,i4_ y.1)]) (λy=>([])) (λy=>[O_ ad (d.flatMap Tre.cells),O_ L (us.flatMap Tre.cells),dA_ d,dA_ us]) (λy=>d.length - y.1) ⟨(0:Nat),by simp,rfl⟩ zl e_ zh ?_;rintro ⟨i,K,e⟩;dsimp only at K e ⊢;refine Zi 2 (λJ=>?_) λJ=>?_
 .refine Zi 13 (λB=>?_) λB=>?_
  .refine Zz 11 ?_
   exact W_ results202 () (aV_ rfl (by rw[e];symm;exact uu_ zaz_ zaz_)) e_ zt
  refine Zz 9 ?_;exact W_ results202 () (aV_ rfl (by rw[e];symm;exact pY_ zaz_ zaz_)) e_ zt
 obtain⟨F,I,C,x⟩:=zge (show i<d.length by omega);refine Zz 13 ?_;refine K_ df_ rfl λS=>Zz 1 ?_
 refine o_ 0 bf_ rfl rfl rfl rfl rfl rfl (Zi 8 (λB=>?_) λB=>?_)
 .have E:i<us.length:=by omega
  obtain⟨G,o⟩:∃ M,us[i]? = some M:=⟨_,yaa_ E⟩;have k:G∈us:=yad_ o;refine Zz 11 ?_;refine K_ df_ rfl λQ=>o_ 0 bf_ rfl rfl rfl rfl rfl rfl (Zz 7 ?_)
  refine bb_ (P I x G k) rfl rfl e_ (λv _ h=>by exact⟨(h.2.2.1 I x),(h.2.2.2.1 G k),trivial⟩) rfl λ_=>Zi 6 (λA=>?_) λA=>?_
  .refine Zz 10 ?_
   exact w_ ⟨i+1,F,(by rw[e,sH_ (by rw[yaD_,C];rfl) (by rw[yaD_,o];rfl),yax_ A])⟩ zae_ zl e_ zh
  refine Zz 10 ?_;exact W_ results202 () (aV_ rfl (by rw[e,sH_ (by rw[yaD_,C];rfl) (by rw[yaD_,o];rfl),yam_ A])) e_ zt
 refine Zz 9 ?_;exact W_ results202 () (aV_ rfl (by rw[e];symm;exact rA_ zaz_ zaz_)) e_ zt
theorem mO_:∀ (m:Nat) (t u:Tre),t.con.sz<=m->t.wf->u.wf->t.con.sz<=1000000->u.con.sz<=1000000->Tri prog 119 #[Tre.val t,Tre.val u] [] [Tre.memF t,Tre.memF u] (λ_:Unit=>i4_ (Con.cmp t.con u.con)) (λ_=>[]) (λ_=>[]):=by
 intro m
 induction m with
 | zero=>intro t u h;have:=Con.sz_pos t.con;omega
 | succ m ih =>
   intro t u h e C I M;obtain⟨B,o,L⟩:=(Tre.wf_iff t).1 e;obtain⟨A,k,K⟩:=(Tre.wf_iff u).1 C;have E:(Tre.parts t).length<=1000000:=by have q:=yag_ List.length o;rw[yaB_]at q;have:=Con.parts_lt t.con;omega
   have F:(Tre.parts u).length<=1000000:=by have q:=yag_ List.length k;rw[yaB_]at q;have:=Con.parts_lt u.con;omega
   refine l_ func119 rfl rfl ntmps119 rfl λO=>?_;refine Zz 2 ?_;refine Q_ rfl rfl λQ=>Q_ rfl rfl λP=>Zz 5 ?_
   refine C_ 8 [0,1,2,3,5,6,7,8,9,10,12,13,14,15,16,17,19,20,21,22,23,24,26,27,28,29,30,31] zk zs (Zz 29 ?_);refine j_ 4 rfl zk (d_ (hV_ (Tre.size t) (Tre.size u)) rfl e_ zt rfl λ_=>Zz 3 ?_);refine j_ 11 rfl zk (d_ (hV_ (Con.kind (Tre.con t)) (Con.kind (Tre.con u))) rfl e_ zt rfl λ_=>Zz 3 ?_);refine j_ 18 rfl zk (d_ (mp_ (Con.name (Tre.con t)) (Con.name (Tre.con u))) rfl e_ zt rfl λ_=>Zz 3 ?_);refine j_ 25 rfl zk (d_ (hV_ (Con.lo (Tre.con t)) (Con.lo (Tre.con u))) rfl e_ zt rfl λ_=>Zz 3 ?_);refine j_ 32 rfl zk (d_ (hV_ (Con.hi (Tre.con t)) (Con.hi (Tre.con u))) rfl e_ zt rfl λ_=>Zz 3 ?_);refine j_ 33 rfl zk (p_ aE_ af_ bQ_ rfl rfl rfl rfl rfl rfl λH=>?_);refine R_ (List.flatMap cS_ [(Lib.compareInt (Tre.size t) (Tre.size u)),(Lib.compareInt (Con.kind (Tre.con t)) (Con.kind (Tre.con u))),(Lib.compareBytes (Con.name (Tre.con t)) (Con.name (Tre.con u))),(Lib.compareInt (Con.lo (Tre.con t)) (Con.lo (Tre.con u))),(Lib.compareInt (Con.hi (Tre.con t)) (Con.hi (Tre.con u)))]) f_ rfl ?_;refine Zz 3 ?_;refine j_ 34 rfl zk (d_ (zP_ [(Lib.compareInt (Tre.size t) (Tre.size u)),(Lib.compareInt (Con.kind (Tre.con t)) (Con.kind (Tre.con u))),(Lib.compareBytes (Con.name (Tre.con t)) (Con.name (Tre.con u))),(Lib.compareInt (Con.lo (Tre.con t)) (Con.lo (Tre.con u))),(Lib.compareInt (Con.hi (Tre.con t)) (Con.hi (Tre.con u)))] (some ⟨H,0,none⟩) 5 zak_) rfl e_ zf rfl λ_=>Zz 3 ?_);refine C_ 0 [35] zk zs (Zi 8 (λd=>?_) λd=>?_)
   . refine Zz 11 ?_;refine d_ (yD_ (Tre.parts t) (Tre.parts u) (Tre.ad t) (Tre.ad u) (Tre.cap t) (Tre.cap u) E F (λx G y J=>ih x y (by have:=(Tre.wf_part e G).2;omega) (Tre.wf_part e G).1 (Tre.wf_part C J).1 (by have:=(Tre.wf_part e G).2;omega) (by have:=(Tre.wf_part C J).2;omega))) rfl e_ (λv _ h=>by exact⟨((Tre.mem_iff t v).1 h.2.1).2.1,((Tre.mem_iff u v).1 h.2.2.1).2.1,((Tre.mem_iff t v).1 h.2.1).2.2,((Tre.mem_iff u v).1 h.2.2.1).2.2,trivial⟩) rfl λ_=>?_;refine Zz 4 ?_;exact W_ results119 () (aV_ rfl (by rw[rD_,<-B,<-A,yax_ d,o,k])) e_ zt
   . refine Zz 10 ?_;exact W_ results119 () (aV_ rfl (by rw[rD_,<-B,<-A,yam_ d])) e_ zt
theorem fb_ (c d:Con) (v:c.sz<=1000000) (k:d.sz<=1000000):Tri prog 55 #[Con.val c,Con.val d] [] [Con.memF c,Con.memF d] (λ_:Unit=>i4_ (Con.cmp c d)) (λ_=>[]) (λ_=>[]):=by
  refine l_ func55 rfl rfl ntmps55 rfl λA=>?_;refine Zz 2 ?_;refine Q_ rfl rfl λB=>Q_ rfl rfl λC=>Zz 5 ?_
  refine C_ 4 [0,2] zk zs (Zz 3 ?_);refine j_ 1 rfl zk (d_ (su_ _ c (yab_ _) v) rfl e_ zf rfl λ⟨y,h,u⟩=>?_);dsimp only;refine Zz 3 ?_;refine j_ 3 rfl zk (d_ (su_ _ d (yab_ _) k) rfl e_ zf rfl λ⟨x,e,o⟩=>?_);dsimp only;refine Zz 3 ?_;refine j_ 4 rfl zk (d_ (mO_ _ y x (yab_ _) u o (by rw[h];exact v) (by rw[e];exact k)) rfl e_ zf rfl λ_=>?_);refine Zz 3 ?_;refine C_ 0 [5] zk zs (Zz 5 ?_);exact W_ results55 () (aV_ rfl (by rw[h,e])) e_ zt
theorem sV_ {P:Program} {N:Nf} {fr:Fr} {H:Hp} {Γ:List Fct} {t k ty:TypeId} {x y:Operand} {m n:List UInt8} (o:Fr.ev fr x=some (str m)) (h:Fr.ev fr y=some (str n)):Yld P N fr H Γ (.binOp .gtr t x y k) ty (.bool (decide (n<m))) :=
  λa v d _ _ _ _ _=>by
    have e:decide (n<m)=!decide (m<=n):=by rw[ybu_];simp[List.not_le]
    rw[e,<-CO_];simp[execOp,d.ev o,d.ev h,str,eqGuard,binOp,Op.stringOp]
theorem sm_ (s:Str):Fn0 prog 282 #[str s] (.bool false):=by
  refine l_ func282 rfl rfl ntmps282 rfl λd=>?_;refine Zz 9 ?_;refine c_ (aD_ (cY_ rfl rfl) (show _=Value.bool false from yag_ Value.bool zak_)) rfl (Zz 4 ?_);exact W_ results282 () rfl e_ zt
theorem yB_ (x y:Str):Fn0 prog 208 #[str x,str y] (i4_ (Lib.compareBytes x y)):=by
 refine l_ func208 rfl rfl ntmps208 rfl λk=>?_;refine Zz 8 ?_;refine d_ (sm_ x) rfl e_ zt rfl λ_=>Zz 6 ?_
 refine d_ (sm_ y) rfl e_ zt rfl λ_=>Zi 26 (λe=>?_) λe=>?_
 .refine Zz 10 ?_
  refine A_ (sV_ rfl rfl) rfl λh d=>Zz 2 ?_
  cases h
  .replace d:=zdf d
   refine Zz 9 ?_;exact W_ results208 () (aV_ rfl (by rw[jP_,yam_ e,yam_ d])) e_ zt
  replace d:=zdt d;refine Zz 7 ?_;exact W_ results208 () (aV_ rfl (by rw[jP_,yam_ e,yax_ d])) e_ zt
 refine Zz 9 ?_;exact W_ results208 () (aV_ rfl (by rw[jP_,yax_ e])) e_ zt
theorem CH_ (d u:List Str) (ad G:Ao) (cap C:Nat) (hl:d.length<=140737488351232) (hm:u.length<=140737488351232):Tri prog 127 #[.slice ad d.length cap,.slice G u.length C] [] [O_ ad (d.flatMap V_),O_ G (u.flatMap V_)] (λ_:Unit=>i4_ (eh_ d u)) (λ_=>[]) (λ_=>[]):=by
 refine l_ func127 rfl rfl ntmps127 rfl λJ=>?_;refine Zz 14 ?_;refine Y_ (ι:={y:Nat // y<=List.length d/\eh_ d u=eh_ (d.drop y) (u.drop y)}) (λy=>[(0,.slice ad d.length cap),(1,.slice G u.length C),(4,i4_ 0),(9,.slice ad d.length cap),(10,i4_ (List.length d:Int)),(11,i4_ y.1)]) (λy=>([])) (λy=>[O_ ad (d.flatMap V_),O_ G (u.flatMap V_)]) (λy=>d.length - y.1) ⟨(0:Nat),by simp,rfl⟩ zl e_ zh ?_;rintro ⟨i,F,e⟩;dsimp only at F e ⊢;refine Zi 2 (λE=>?_) λE=>?_
 .refine Zi 13 (λo=>?_) λo=>?_
  .refine Zz 11 ?_
   exact W_ results127 () (aV_ rfl (by rw[e];symm;exact uv_ zaa_ zaa_)) e_ zt
  refine Zz 9 ?_;exact W_ results127 () (aV_ rfl (by rw[e];symm;exact qc_ zaa_ zaa_)) e_ zt
 have k:i<d.length:=by omega
 obtain⟨H,v⟩:∃ A,d[i]? = some A:=⟨_,yaa_ k⟩;refine Zi 23 (λo=>?_) λo=>?_
 .have B:i<u.length:=by omega
  obtain⟨I,x⟩:∃ A,u[i]? = some A:=⟨_,yaa_ B⟩;refine Zz 18 ?_;refine d_ (yB_ H I) rfl e_ zt rfl λ_=>Zi 6 (λh=>?_) λh=>?_
  .refine Zz 10 ?_
   exact w_ ⟨i+1,k,(by rw[e,sI_ v x,yax_ h])⟩ zae_ zl e_ zh
  refine Zz 10 ?_;exact W_ results127 () (aV_ rfl (by rw[e,sI_ v x,yam_ h])) e_ zt
 refine Zz 9 ?_;exact W_ results127 () (aV_ rfl (by rw[e];symm;exact rF_ zaa_ zaa_)) e_ zt
theorem ta_ (x:Ax) (E:x.ok) (G:x.left.sz<=1000000) (H:x.right.sz<=1000000):Tri prog 126 #[Ax.val x] [] [Ax.memF x] (λ_:Unit=>i4_ x.wgt) (λ_=>[]) (λ_=>[]):=by
 refine l_ func126 rfl rfl ntmps126 rfl λX=>?_;have U:=E.cap;refine Zz 2 ?_;refine Q_ rfl rfl λI=>Zz 10 ?_
 refine p_ z_ i_ ay_ rfl rfl rfl rfl rfl rfl λA=>?_;refine R_ (List.flatMap Con.cells [x.left,x.right]) f_ rfl ?_;refine Zz 5 ?_;let Pu:Hp:=((I,.cells (Ax.cells x).toArray 30 (0,0))::[]);refine Y_ (ι:={y:Nat×Int // y.1<=List.length [x.left,x.right]/\y.2=wgL (List.take y.1 [x.left,x.right])}) (λy=>[(1,zp_ I 0),(2,i4_ y.1.2),(11,.slice (some ⟨A,0,none⟩) (List.length [x.left,x.right]) 2),(12,i4_ 2),(13,i4_ y.1.1)]) (λy=>Pu) (λy=>[O_ (some ⟨A,0,none⟩) (List.flatMap Con.cells [x.left,x.right]),Ax.memF x]) (λy=>List.length [x.left,x.right] - y.1.1) ⟨((0:Nat),0),by simp,(by simp[wgL])⟩ zl f_ zh ?_;rintro ⟨⟨i,L⟩,O,Q⟩;dsimp only at O Q ⊢;have Z:=wgL_bd (l:=List.take i [x.left,x.right]) (λc hc=>(jS_ E G H (yaS_ hc)).2);have W:(List.take i [x.left,x.right]).length<=2:=by rw[yat_];exact yde_ _ _
 refine Zi 2 (λR=>?_) λR=>?_
 .refine Zz 12 ?_
  refine c_ (aT_ rfl rfl rfl (bB_ zao_ zao_)) rfl ?_;refine Zz 12 ?_;refine p_ m_ B_ ak_ rfl rfl rfl rfl rfl rfl λJ=>?_;refine R_ (List.flatMap V_ [x.role,x.a,x.b]) f_ rfl ?_;refine Zz 5 ?_;have hB:L=wgL [x.left,x.right]:=by rw[Q,yac_ zbu_]
  refine Y_ (ι:={y:Nat×Int // y.1<=List.length [x.role,x.a,x.b]/\y.2=wgL [x.left,x.right]+(List.length x.roles:Int)+wgS (List.take y.1 [x.role,x.a,x.b])}) (λy=>[(1,zp_ I 0),(2,i4_ y.1.2),(11,.slice (some ⟨A,0,none⟩) (List.length [x.left,x.right]) 2),(12,i4_ 2),(13,i4_ i),(36,.slice (some ⟨J,0,none⟩) (List.length [x.role,x.a,x.b]) 3),(37,i4_ 3),(38,i4_ y.1.1)]) (λy=>Pu) (λy=>[O_ (some ⟨J,0,none⟩) (List.flatMap V_ [x.role,x.a,x.b]),O_ (some ⟨A,0,none⟩) (List.flatMap Con.cells [x.left,x.right]),Ax.memF x]) (λy=>List.length [x.role,x.a,x.b] - y.1.1) ⟨((0:Nat),(L+(List.length x.roles:Int))),by simp,(by show (L+(List.length x.roles:Int))=_;rw[hB];simp[wgS])⟩ zl f_ zh ?_;rintro ⟨⟨j,S⟩,P,M⟩;dsimp only at P M ⊢;have T:=wgS_bd (List.take j [x.role,x.a,x.b]);have Y:(List.take j [x.role,x.a,x.b]).length<=3:=by rw[yat_];exact yde_ _ _
  refine Zi 2 (λe=>?_) λe=>?_
  .refine Zz 13 ?_
   exact W_ results126 () (aV_ rfl (by rw[M,Ax.wgt_eq,yac_ zbu_])) e_ zt
  have o:j<List.length [x.role,x.a,x.b]:=by simp only[yap_,yaw_]at *;omega
  obtain⟨V,B⟩:∃ K,[x.role,x.a,x.b][j]? = some K:=⟨_,yaa_ o⟩;refine Zz 11 ?_;refine c_ (aS_ (ad:=(some ⟨J,0,none⟩)) aJ_ rfl zf (t_ au_ B 0 _ rfl)) rfl (Zi 6 (λF=>?_) λF=>?_)
  .refine Zz 6 ?_
   refine c_ (aT_ rfl rfl rfl (bB_ zao_ zao_)) rfl ?_;refine Zz 3 ?_;exact w_ ⟨(j+1,S),o,(by show S=_;rw[sY_ B,yax_ F];omega)⟩ zae_ zl f_ zh
  refine Zz 5 ?_;refine c_ (aT_ rfl rfl rfl (bB_ zao_ zao_)) rfl ?_;refine Zz 4 ?_;refine c_ (aT_ rfl rfl rfl (bB_ zao_ zao_)) rfl ?_;refine Zz 3 ?_;exact w_ ⟨(j+1,(S+1)),o,(by show (S+1)=_;rw[sY_ B,yam_ F];omega)⟩ zae_ zl f_ zh
 have k:i<List.length [x.left,x.right]:=by simp only[yap_,yaw_]at *;omega
 obtain⟨C,u⟩:∃ K,[x.left,x.right][i]? = some K:=⟨_,yaa_ k⟩;have d:C∈[x.left,x.right]:=yad_ u;have hcz:=(jS_ E G H d).2;refine Zz 11 ?_;refine c_ (ax_ (ad:=(some ⟨A,0,none⟩)) (us:=Con.cells C) H_ i_ rfl zf (Con.cells_len _) (t_ Con.cells_len u)) rfl (K_ ay_ rfl λJ=>o_ 0 i_ rfl rfl rfl rfl rfl rfl (Zi 6 (λe=>?_) λe=>?_))
 .refine Zz 6 ?_
  refine c_ (aT_ rfl rfl rfl (bB_ zao_ zao_)) rfl ?_;refine Zz 3 ?_;exact w_ ⟨(i+1,L),k,(by show L=_;rw[sZ_ u,yax_ e];omega)⟩ zae_ zl (g_ f_) zh
 refine Zz 6 ?_;refine d_ (size_c C (jS_ E G H d).1 (jS_ E G H d).2) rfl e_ (λv _ h=>by exact⟨(uB_ h.2.1 d),trivial⟩) rfl λ_=>?_;refine c_ (aT_ rfl rfl rfl (bB_ zao_ zao_)) rfl ?_;refine Zz 4 ?_;refine c_ (aT_ rfl rfl rfl (bB_ zao_ zao_)) rfl ?_;refine Zz 3 ?_;exact w_ ⟨(i+1,(L+(Con.sz C:Int))),k,(by show (L+(Con.sz C:Int))=_;rw[sZ_ u,yam_ e];omega)⟩ zae_ zl (g_ f_) zh
theorem nY_ {G:Prop} (h:G:=by
 refine Zz 8 ?_;refine d_ (fb_ x.right y.right B u) rfl e_ (λv _ h=>by exact⟨h.2.1.2.1,h.2.2.1.2.1,trivial⟩) rfl λ_=>Zi 7 (λk=>?_) λk=>?_
 .exact ji_
 refine Zz 10 ?_;exact hq_):G:=h
theorem hq_ {G:Prop} (h:G:=by
 exact W_ results58 () (aV_ rfl (by unfold Ax.cmp;simp only[orF]at *;(repeat' split)<;>simp_all)) e_ zt):G:=h
theorem ji_ {G:Prop} (h:G:=by
 refine Zz 7 ?_;refine C_ 7 [0,1,2,3,5,6,7,8,10,11,12,13,15,16,17,18] zk zs (Zz 17 ?_);refine j_ 4 rfl zk (d_ (CH_ x.roles y.roles x.ad y.ad x.cap y.cap (by have:=e.len;have:=e.cap;omega) (by have:=d.len;have:=d.cap;omega)) rfl e_ (λv _ h=>by exact⟨h.2.1.2.2,h.2.2.1.2.2,trivial⟩) rfl λ_=>?_);refine Zz 3 ?_;refine j_ 9 rfl zk (d_ (mp_ x.role y.role) rfl e_ zt rfl λ_=>Zz 3 ?_);refine j_ 14 rfl zk (d_ (mp_ x.a y.a) rfl e_ zt rfl λ_=>Zz 3 ?_);refine j_ 19 rfl zk (d_ (mp_ x.b y.b) rfl e_ zt rfl λ_=>Zz 3 ?_);refine j_ 20 rfl zk (p_ aE_ af_ bQ_ rfl rfl rfl rfl rfl rfl λo=>?_);refine R_ (List.flatMap cS_ [(eh_ x.roles y.roles),(Lib.compareBytes x.role y.role),(Lib.compareBytes x.a y.a),(Lib.compareBytes x.b y.b)]) f_ rfl ?_;refine Zz 3 ?_;refine j_ 21 rfl zk (d_ (zP_ [(eh_ x.roles y.roles),(Lib.compareBytes x.role y.role),(Lib.compareBytes x.a y.a),(Lib.compareBytes x.b y.b)] (some ⟨o,0,none⟩) 4 zak_) rfl e_ zf rfl λ_=>Zz 3 ?_);refine C_ 0 [22] zk zs (Zz 5 ?_);exact hq_):G:=h
theorem wZ_ (x y:Ax) (e:x.ok) (d:y.ok) (C:x.left.sz<=1000000) (B:x.right.sz<=1000000) (E:y.left.sz<=1000000) (u:y.right.sz<=1000000):Tri prog 58 #[Ax.val x,Ax.val y] [] [Ax.memF x,Ax.memF y] (λ_:Unit=>i4_ (Ax.cmp x y)) (λ_=>[]) (λ_=>[]):=by
 refine l_ func58 rfl rfl ntmps58 rfl λH=>?_;refine Zz 2 ?_;refine Q_ rfl rfl λJ=>Q_ rfl rfl λI=>Zz 5 ?_
 refine C_ 7 [0,2,5,6,7,8] zk zs (Zz 7 ?_);refine j_ 1 rfl zk (d_ (ta_ x e C B) rfl e_ zf rfl λ_=>Zz 3 ?_);refine j_ 3 rfl zk (d_ (ta_ y d E u) rfl e_ zf rfl λ_=>Zz 3 ?_);refine j_ 4 rfl zk (d_ (hV_ (Ax.wgt x) (Ax.wgt y)) rfl e_ zt rfl λ_=>Zz 3 ?_);refine j_ 9 rfl zk (d_ (hV_ x.kind y.kind) rfl e_ zt rfl λ_=>Zz 3 ?_);refine j_ 10 rfl zk (p_ aE_ af_ bQ_ rfl rfl rfl rfl rfl rfl λG=>?_);refine R_ (List.flatMap cS_ [(Lib.compareInt (Ax.wgt x) (Ax.wgt y)),(Lib.compareInt x.kind y.kind)]) f_ rfl ?_;refine Zz 3 ?_;refine j_ 11 rfl zk (d_ (zP_ [(Lib.compareInt (Ax.wgt x) (Ax.wgt y)),(Lib.compareInt x.kind y.kind)] (some ⟨G,0,none⟩) 2 zak_) rfl e_ zf rfl λ_=>Zz 3 ?_);refine C_ 0 [12] zk zs (Zi 8 (λF=>?_) λF=>?_)
 .refine Zi 9 (λA=>?_) λA=>?_
  .refine Zi 9 (λk=>?_) λk=>?_
   .exact ji_
   refine Zz 10 ?_;exact hq_
  exact nY_
 refine Zz 8 ?_;refine d_ (fb_ x.left y.left C E) rfl e_ (λv _ h=>by exact⟨h.2.1.1,h.2.2.1.1,trivial⟩) rfl λ_=>Zi 7 (λA=>?_) λA=>?_
 .refine Zi 9 (λk=>?_) λk=>?_
  .exact ji_
  refine Zz 10 ?_;exact hq_
 exact nY_
theorem lQ_ {a b:Str} (h:str a=str b):a=b:=by
  have d:=yag_ (λz:ByteArray=>z.data.toList) (Value.string.inj h);omega
def uJ_ (P:Program) (gf:FuncId) (caps:List Value) (Hc:Hp) (Rc:List Str->Prop):Prop:=∀ {σ:Type} (l:Nat) (Gj:σ->Hp) (lst:σ->List Str),(∀ s x,(lst s).length<100000000->jY_ P l (str x) (Gj s) [] (λ_:{s':σ // lst s'=lst s++[x]}=>.bool true) (λs'=>Gj s'.1) (λ_=>[]))->∀ s0,lst s0=[]->
  Tri P gf (.func (.yield l) #[] #[]::caps).toArray (Hc++Gj s0) [] (λ_:{s':σ // Rc (lst s')}=>.tuple #[]) (λs'=>Hc++Gj s'.1) (λ_=>[])
theorem Ca_ {C Q:Hp} {c d e:Nat×Obj}:(C++(c::Q)++[d,e]).Perm (e::(C++(c::(Q++[d])))):=by
  have h:C++(c::Q)++[d,e]=(C++(c::(Q++[d])))++[e]:=by simp
  grind[List.perm_append_comm]
theorem pf_D10 {C Q:Hp} {c d:Nat×Obj}:(C++(c::(Q++[d]))).Perm ((C++Q)++[c,d]):=by
  have e:(C++Q)++[c,d]=C++((Q++[c])++[d]):=by simp
  grind[List.Perm.append_left,List.perm_append_comm]
theorem xq_ {L q:List Str} (h:L.Perm q) (k:q.Nodup):cu_ L=cu_ q:=by
  have strict:∀ l:List Str,l.Nodup->SrS (cu_ l):=λl hl=>by
    have e:=lS_ l;have d:(cu_ l).Nodup:=(ycP_ _ _).nodup_iff.2 hl;unfold List.Nodup at d;refine ycB_ (fun {a b} hab=>?_) (e.and d)
    grind
  grind[rU_,List.mem_mergeSort]
theorem Ag_ {σ:Type} {l:Nat} {F:σ->Hp} {lst:σ->List Str} (R:∀ s x,(lst s).length<100000000->jY_ prog l (str x) (F s) [] (λ_:{o:σ // lst o=lst s++[x]}=>.bool true) (λo=>F o.1) (λ_=>[])) (L:σ) (K:lst L=[]) (v C c:Nat) (es:Array MapEntry) (q:List Str) (hE:KeyE str es q) (hB:Born es c) (V:q.length<=100000000):Tri prog 193 #[.func (.yield l) #[] #[],zp_ C 0] ((C,.cells #[.map (some v)] 151 (0,0))::(v,.map es c)::F L) [] (λ_:{o:σ // (lst o).Perm q}=>.tuple #[]) (λo=>(C,.cells #[.map (some v)] 151 (0,0))::(v,.map es c)::F o.1) (λ_=>[]):=by
 refine l_ func193 rfl rfl ntmps193 rfl λS=>?_;refine Zz 3 ?_;refine qT_ 1 underlying151 rfl rfl rfl λH=>Zz 3 ?_
 refine Y_ (ι:={y:List Str×Array Nat×Nat×σ // ItS str es y.2.1 y.1/\c<=y.2.2.1/\lst y.2.2.2=y.1/\(∀ z∈y.1,z∈q)}) (λy=>[(0,.func (.yield l) #[] #[]),(1,zp_ C 0),(5,zp_ H 0)]) (λy=>((H,.mapIter (some v) c y.1.2.1 y.1.2.2.1)::((C,.cells #[.map (some v)] 151 (0,0))::((v,.map es c)::(F y.1.2.2.2))))) (λy=>[]) (λy=>q.length - y.1.1.length) ⟨([],#[],c,L),ItS.nil,yab_ _,K,by simp⟩ zl zp zt ?_;rintro ⟨⟨done,B,T,s⟩,M,G,A,h⟩;dsimp only at M G A h ⊢;refine Zz 2 ?_;refine tJ_ 0 2 rfl rfl rfl hB.lt G rfl (λP=>?_) (λe U=>?_)
 .refine Zz 7 ?_
  exact end0 results193 ⟨s,by rw[A];exact M.endK (λ_ _=>lQ_) hE P⟩ rfl zp zt
 obtain⟨k,E,Q,O,J,u⟩:=M.stepK (λ_ _=>lQ_) hE hB U;refine Zz 10 ?_;refine c_ (aD_ (qw_ 0 2 rfl rfl rfl J hB) (show _=Value.tuple #[str k,e.val] by rw[O])) rfl (Zz 5 ?_);refine hG_ (ι:={o:σ // lst o=lst s++[k]}) (λ_=>[(0,.func (.yield l) #[] #[]),(1,zp_ C 0),(5,zp_ H 0),(13,.bool false)]) (λz=>((H,.mapIter (some v) c (B.push e.born) c)::((C,.cells #[.map (some v)] 151 (0,0))::((v,.map es c)::(F z.1))))) (λ_=>[]) ?_ ?_
 .refine aR_ ?_
  refine Z_ bh_ (P_ rfl) rfl rfl ?_;refine Z_ bh_ (P_ rfl) rfl rfl ?_;refine gS_ (R s k zaU_) rfl rfl (g_ (g_ ah_)) zt rfl λz=>?_;refine Z_ bh_ (aI_ rfl) rfl rfl ?_;refine bK_ ?_;refine cL_ rfl ?_;exact eg_ z zl zp zh
 rintro ⟨o,I⟩;dsimp only;refine Zz 4 ?_;exact w_ ⟨(done++[k],B.push e.born,c,o),u,yab_ _,by rw[I,A],λz d=>by rcases yaj_.1 d with d|d;exact h z d;rw[yal_]at d;exact d▸E⟩ zaP_ zl (E_ f_ (E_ f_ (E_ f_ an_))) zt
theorem mh_ (h e c:Nat) (es:Array MapEntry) (q:List Str) (hE:KeyE str es q) (hB:Born es c) (k:q.length<=100000000):uJ_ prog 193 [zp_ e 0] [(e,.cells #[.map (some h)] 151 (0,0)),(h,.map es c)] (λL=>L.Perm q) :=
  λl v lst u o d=>Ag_ u o d h e c es q hE hB k
theorem mg_ (e:Nat):Tri prog 108 #[.map (some e)] [] [] (λd:Nat=>.func (.func 193) #[] #[zp_ d 0]) (λd=>[(d,.cells #[.map (some e)] 151 (0,0))]) (λ_=>[]):=by
  refine l_ func108 rfl rfl ntmps108 rfl λk=>?_;refine Zz 2 ?_;refine Q_ rfl rfl λh=>Zz 5 ?_
  refine c_ (ft_ rfl rfl) rfl (Zz 4 ?_);exact W_ results108 h rfl (F:=[]) (.refl _) zt
theorem Af_ {σ:Type} {l:Nat} {F:σ->Hp} {lst:σ->List Str} (R:∀ s x,(lst s).length<100000000->jY_ prog l (str x) (F s) [] (λ_:{o:σ // lst o=lst s++[x]}=>.bool true) (λo=>F o.1) (λ_=>[])) (L:σ) (K:lst L=[]) (v C c:Nat) (es:Array MapEntry) (q:List Str) (hE:KeyE str es q) (hB:Born es c) (V:q.length<=100000000):Tri prog 284 #[.func (.yield l) #[] #[],zp_ C 0] ((C,.cells #[.map (some v)] 186 (0,0))::(v,.map es c)::F L) [] (λ_:{o:σ // (lst o).Perm q}=>.tuple #[]) (λo=>(C,.cells #[.map (some v)] 186 (0,0))::(v,.map es c)::F o.1) (λ_=>[]):=by
 refine l_ func284 rfl rfl ntmps284 rfl λS=>?_;refine Zz 3 ?_;refine qT_ 1 underlying186 rfl rfl rfl λH=>Zz 3 ?_
 refine Y_ (ι:={y:List Str×Array Nat×Nat×σ // ItS str es y.2.1 y.1/\c<=y.2.2.1/\lst y.2.2.2=y.1/\(∀ z∈y.1,z∈q)}) (λy=>[(0,.func (.yield l) #[] #[]),(1,zp_ C 0),(5,zp_ H 0)]) (λy=>((H,.mapIter (some v) c y.1.2.1 y.1.2.2.1)::((C,.cells #[.map (some v)] 186 (0,0))::((v,.map es c)::(F y.1.2.2.2))))) (λy=>[]) (λy=>q.length - y.1.1.length) ⟨([],#[],c,L),ItS.nil,yab_ _,K,by simp⟩ zl zp zt ?_;rintro ⟨⟨done,B,T,s⟩,M,G,A,h⟩;dsimp only at M G A h ⊢;refine Zz 2 ?_;refine tJ_ 0 2 rfl rfl rfl hB.lt G rfl (λP=>?_) (λe U=>?_)
 .refine Zz 7 ?_
  exact end0 results284 ⟨s,by rw[A];exact M.endK (λ_ _=>lQ_) hE P⟩ rfl zp zt
 obtain⟨k,E,Q,O,J,u⟩:=M.stepK (λ_ _=>lQ_) hE hB U;refine Zz 10 ?_;refine c_ (aD_ (qw_ 0 2 rfl rfl rfl J hB) (show _=Value.tuple #[str k,e.val] by rw[O])) rfl (Zz 5 ?_);refine hG_ (ι:={o:σ // lst o=lst s++[k]}) (λ_=>[(0,.func (.yield l) #[] #[]),(1,zp_ C 0),(5,zp_ H 0),(13,.bool false)]) (λz=>((H,.mapIter (some v) c (B.push e.born) c)::((C,.cells #[.map (some v)] 186 (0,0))::((v,.map es c)::(F z.1))))) (λ_=>[]) ?_ ?_
 .refine aR_ ?_
  refine Z_ bh_ (P_ rfl) rfl rfl ?_;refine Z_ bh_ (P_ rfl) rfl rfl ?_;refine gS_ (R s k zaU_) rfl rfl (g_ (g_ ah_)) zt rfl λz=>?_;refine Z_ bh_ (aI_ rfl) rfl rfl ?_;refine bK_ ?_;refine cL_ rfl ?_;exact eg_ z zl zp zh
 rintro ⟨o,I⟩;dsimp only;refine Zz 4 ?_;exact w_ ⟨(done++[k],B.push e.born,c,o),u,yab_ _,by rw[I,A],λz d=>by rcases yaj_.1 d with d|d;exact h z d;rw[yal_]at d;exact d▸E⟩ zaP_ zl (E_ f_ (E_ f_ (E_ f_ an_))) zt
theorem Cj_ (h e c:Nat) (es:Array MapEntry) (q:List Str) (hE:KeyE str es q) (hB:Born es c) (k:q.length<=100000000):uJ_ prog 284 [zp_ e 0] [(e,.cells #[.map (some h)] 186 (0,0)),(h,.map es c)] (λL=>L.Perm q) :=
  λl v lst u o d=>Af_ u o d h e c es q hE hB k
theorem Ci_ (e:Nat):Tri prog 210 #[.map (some e)] [] [] (λd:Nat=>.func (.func 284) #[] #[zp_ d 0]) (λd=>[(d,.cells #[.map (some e)] 186 (0,0))]) (λ_=>[]):=by
  refine l_ func210 rfl rfl ntmps210 rfl λk=>?_;refine Zz 2 ?_;refine Q_ rfl rfl λh=>Zz 5 ?_
  refine c_ (ft_ rfl rfl) rfl (Zz 4 ?_);exact W_ results210 h rfl (F:=[]) (.refl _) zt
theorem zM_ {C Q G:Hp} {c:Nat×Obj}:(C++(c::Q)++G).Perm (c::(C++(Q++G))):=by
  have d:C++(c::Q)++G=C++([c]++(Q++G)):=by simp
  grind[List.perm_append_comm]
theorem yI_ (S:FuncId) (caps:List Value) (Hc:Hp) (Rc:List Str->Prop) (R:uJ_ prog S caps Hc Rc):Tri prog 274 #[.slice none 0 0,.func (.func S) #[] caps.toArray] Hc [] (λy:{y:Value×Hp×List Str // av_ 9 1 y.1 y.2.2.length (y.2.2.flatMap V_) y.2.1/\Rc y.2.2}=>y.1.1) (λy=>Hc++y.1.2.1) (λ_=>[]):=by
 refine eJ_ func274 rfl rfl ntmps274 rfl λE=>?_;refine Zz 2 ?_;refine Q_ rfl rfl λd=>Zz 10 ?_
 refine bc_ [(2,zp_ d 0),(6,.func (.func S) #[] caps.toArray)] zl ?_;refine uW_ (σ:={y:Value×Hp×List Str // av_ 9 1 y.1 y.2.2.length (y.2.2.flatMap V_) y.2.1}) (α:=Str) (xv:=λx=>str x) (good:=λs _=>s.1.2.2.length<100000000) (nx:=λx s M=>M.1.2.2=s.1.2.2++[x]) (Rc:=λs=>Rc s.1.2.2) (Γi:=[]) (Hj:=λy=>(d,.cells #[y.1.1] 25 (0,0))::y.1.2.1) (Hc:=Hc) (caps:=caps) ⟨(.slice none 0 0,[],[]),av_.nil _ _⟩ rfl (@List.perm_append_comm _ [_] _) zt ?_ ?_ ?_
 .rintro l D rec V P O Y I A ⟨⟨sv,k,L⟩,B⟩ x H
  dsimp only at B H ⊢;refine jm_ (ι:=Unit) (Hj:=λy:{y:Value×Hp×List Str // av_ 9 1 y.1 y.2.2.length (y.2.2.flatMap V_) y.2.1}=>(d,.cells #[y.1.1] 25 (0,0))::y.1.2.1) (s:=⟨(sv,k,L),B⟩) (ok:=λM=>M.1.2.2=L++[x]) (Γ:=[]) (λ_=>[(2,zp_ d 0),(5,str x)]) (λ_=>(d,.cells #[sv] 25 (0,0))::k) V P O Y rfl ?_ ?_
  .intro n E Q T
   rw[I];dsimp only;refine ef_.2 (s_ (H':=(d,.cells #[sv] 25 (0,0))::(k++T)) zak_ (ef_.1 ?_));refine aR_ ?_;refine Z_ (aa_ _) (X_ rfl) rfl rfl ?_;refine bK_ ?_;refine cL_ rfl ?_;exact eg_ () zl (F:=[]) zaS_ zh
  intro n E Q T _;rw[A];refine ef_.2 (s_ (H':=(d,.cells #[sv] 25 (0,0))::(k++T)) zak_ (ef_.1 ?_));refine dZ_ ?_;refine aR_ ?_;refine Z_ (aa_ _) (aK_ 0 fS_ rfl rfl rfl) rfl rfl ?_;refine Z_ (aa_ _) (P_ rfl) rfl rfl ?_;refine qW_ (aa_ _) m_ B_ ak_ rfl rfl rfl rfl rfl rfl λX=>?_;refine oh_ (aa_ _) (news:=List.flatMap V_ [x]) ch_ B rfl rfl zp rfl (aO_ 0 rfl) (λu hu=>aF_ bN_ hu) zay_ zaa_ rfl λC J K=>?_;have o:=zsa K;refine gj_ (aL_ (ae_ f_) (cg_ (ae_ f_))) ?_;refine kC_ (aa_ _) 1 o bo_ rfl rfl rfl rfl ?_;refine bK_ ?_;refine cL_ rfl ?_;exact kV_ ⟨(C,J,(L++[x])),o⟩ rfl (vk_ (E_ (g_ f_) (bP_ (g_ ag_) (bP_ ah_ f_))))
 .intro l Z hY
  exact R l Z (λy=>y.1.2.2) (λs x h=>hY s x h) ⟨(.slice none 0 0,[],[]),av_.nil _ _⟩ rfl
 rintro ⟨⟨sv,k,L⟩,B⟩ W D l r;dsimp only at W B ⊢;refine du_ (H':=(d,.cells #[sv] 25 (0,0))::(Hc++(k++HLp l D r))) (F:=[]) (by rw[yas_];exact zM_) zh ?_;refine cm_ rfl ?_;refine cZ_ ?_;refine aR_ ?_;refine Z_ bh_ (aK_ 0 fS_ rfl rfl rfl) rfl rfl ?_;refine Z_ bh_ (X_ rfl) rfl rfl ?_;refine bK_ ?_;refine cm_ rfl ?_;refine hH_ ?_;exact tq_ (G:=Hc++((d,.cells #[sv] 25 (0,0))::(k++[(l,.loop r)]))) ⟨(sv,k,L),B,W⟩ (λa v U h_2=>by have e:=U.val 4 sv rfl;simp[results,results274,e]) (zM_.symm.trans (by unfold HLp;exact Ca_)) ⟨_,pf_D10⟩ rfl
theorem vI_ (u:FuncId) (caps:List Value) (Hc:Hp) (Rc:List Str->Prop) (v:uJ_ prog u caps Hc Rc):Tri prog 192 #[.func (.func u) #[] caps.toArray] Hc [] (λy:{y:Value×Hp×List Str // av_ 9 1 y.1 y.2.2.length (y.2.2.flatMap V_) y.2.1/\Rc y.2.2}=>y.1.1) (λy=>Hc++y.1.2.1) (λ_=>[]):=by
  refine l_ func192 rfl rfl ntmps192 rfl λx=>?_;refine Zz 8 ?_;refine d_ (yI_ u caps Hc Rc v) rfl an_ zt rfl λ⟨⟨k,h,o⟩,e,d⟩=>?_;dsimp only;dsimp only at e d ⊢;simp only[yak_,yas_];refine Zz 4 ?_;exact W_ results192 ⟨(k,h,o),e,d⟩ rfl zp zt
theorem gF_ (H:FuncId) (caps:List Value) (Hc:Hp) (q:List Str) (G:q.Nodup) (M:q.length<=100000000) (I:uJ_ prog H caps Hc (λL=>L.Perm q)):Tri prog 107 #[.func (.func H) #[] caps.toArray] Hc [] (λy:{y:Ao×Nat // (cu_ q).length<=y.2/\y.2<=maxLen/\(y.1=none->y.2=0)}=>.slice y.1.1 (cu_ q).length y.1.2) (λ_=>Hc) (λy=>[O_ y.1.1 ((cu_ q).flatMap V_)]):=by
  refine l_ func107 rfl rfl ntmps107 rfl λK=>?_;refine Zz 8 ?_;refine d_ (vI_ H caps Hc (λL=>L.Perm q) I) rfl an_ zt rfl λ⟨⟨A,J,v⟩,o,d⟩=>?_;dsimp only;dsimp only at o d ⊢;simp only[yak_,yas_];refine Zz 6 ?_;refine d_ (wd_ o (by have:=d.length_eq;omega)) rfl bS_ zt rfl λ⟨E,C⟩=>?_;dsimp only;have F:av_ 9 1 A (cu_ q).length (List.flatMap V_ (cu_ q)) E:=by rw[<-xq_ d G,show (cu_ v).length=v.length from ybm_ _];exact C
  refine Zz 9 ?_;refine I_ F ag_ λx B u e k h=>?_;exact W_ results107 ⟨(x,B),e,k,h⟩ (cw_ rfl u) an_ zf
theorem strt99:iJ_ prog 99 [(0,16)] [i4_ 0,.bool false,i4_ 0,str [],i4_ 0,i4_ 0,.slice none 0 0,i4_ 0,str [],i4_ 0,i4_ 0,.slice none 0 0,.slice none 0 0,str [],str [],str []]:=⟨_,zeroValue99,runUnderlying99,λw=>by simp[D_]⟩
def pln (x:Ax):Prop:=x.kind=1/\x.left.kind=3/\x.right.kind=3
theorem rH_ {x:Ax} (d:x.ok) (e:x.check=0):Tri prog 53 #[x.val] [] [x.memF,cy_] (λ_:Unit=>i4_ 0) (λ_=>[]) (λ_=>[]):=by
  have h:=gE_ x d;rw[e]at h;exact h
theorem CT_ (x y:Ax) (u:x.ok) (d:y.ok) (h:x.left.sz<=1000000) (k:x.right.sz<=1000000) (o:y.left.sz<=1000000) (e:y.right.sz<=1000000):Tri prog 65 #[.agg #[i4_ x.kind,.bool x.opn,i4_ x.left.kind,str x.left.name,i4_ x.left.lo,i4_ x.left.hi,.slice x.left.ad x.left.parts.length x.left.cap,i4_ x.right.kind,str x.right.name,i4_ x.right.lo,i4_ x.right.hi,.slice x.right.ad x.right.parts.length x.right.cap,.slice x.ad x.roles.length x.cap,str x.role,str x.a,str x.b],Ax.val y] [] [Ax.memF x,Ax.memF y] (λ_:Unit=>.bool (Ax.cmp x y==0)) (λ_=>[]) (λ_=>[]):=by
  refine l_ func65 rfl rfl ntmps65 rfl λE=>?_;refine Zz 2 ?_;refine Q_ rfl rfl λA=>Q_ rfl rfl λC=>Zz 8 ?_
  refine d_ (wZ_ x y u d h k o e) rfl e_ zf rfl λ_=>A_ (al_ rfl rfl) rfl λB v=>Zz 4 ?_
  exact W_ results65 () (n_ rfl (by rw[<-v])) e_ zt
theorem Cz_ (x y:Ax) (A:x.ok) (e:y.ok) (k:x.left.sz<=1000000) (u:x.right.sz<=1000000) (v:y.left.sz<=1000000) (h:y.right.sz<=1000000):Tri prog 57 #[.agg #[i4_ x.kind,.bool x.opn,i4_ x.left.kind,str x.left.name,i4_ x.left.lo,i4_ x.left.hi,.slice x.left.ad x.left.parts.length x.left.cap,i4_ x.right.kind,str x.right.name,i4_ x.right.lo,i4_ x.right.hi,.slice x.right.ad x.right.parts.length x.right.cap,.slice x.ad x.roles.length x.cap,str x.role,str x.a,str x.b],Ax.val y] [] [Ax.memF x,Ax.memF y] (λ_:Unit=>.bool ((x.opn==y.opn)&&(Ax.cmp x y==0))) (λ_=>[]) (λ_=>[]):=by
 refine l_ func57 rfl rfl ntmps57 rfl λC=>?_;refine Zz 2 ?_;refine Q_ rfl rfl λF=>Q_ rfl rfl λG=>Zz 10 ?_
 refine A_ (lL_ kR_ rfl rfl) rfl λB d=>Zz 1 ?_
 cases B
 .refine Zz 8 ?_
  exact W_ results57 () (n_ rfl zbH_) e_ zt
 refine Zz 5 ?_;refine U_ (CT_ x y A e k u v h) rfl e_ zf rfl λE o=>Zz 5 ?_
 exact W_ results57 () (n_ rfl (by rw[<-o];simp[d])) e_ zt
def qK_ (x:Ax):Bool:=(x.kind==5)||(x.kind==6)||(x.kind==7)
theorem jj_ {G:Prop} (h:G:=by
 exact W_ results59 () (n_ rfl (by unfold qK_;simp_all)) e_ zt):G:=h
theorem vN_ (x:Ax):Fn0 prog 59 #[Ax.val x] (.bool (qK_ x)):=by
 refine l_ func59 rfl rfl ntmps59 rfl λk=>?_;refine Zz 2 ?_;refine Q_ rfl rfl λo=>Zi 7 (λd=>?_) λd=>?_
 .refine Zi 6 (λe=>?_) λe=>?_
  .refine Zz 7 ?_
   refine A_ (al_ rfl rfl) rfl λu h=>Zz 5 ?_
   exact jj_
  refine Zz 10 ?_;exact jj_
 refine Zz 14 ?_;exact jj_
structure PL where
  l:List Pc
  ad:Ao
  cap:Nat
def PL.cells (x:PL):List Value:=[.slice x.ad x.l.length x.cap]
theorem PL.cells_len (x:PL):x.cells.length=1:=rfl
structure PL.ok (x:PL):Prop where
  le:x.l.length<=x.cap
  nz:x.ad=none->x.cap=0
  sh:x.l.length<=100000
def plF (xs:List PL):Fct where
  p v:=∀ x∈xs,bW_ v x.ad (x.l.flatMap Pc.cells)
  mono:=λv v' h hp x hx=>(O_ x.ad (x.l.flatMap Pc.cells)).mono v v' h (hp x hx)
def iC_ (xs:List PL):List Pc:=List.flatMap PL.l xs
theorem vi_ {xs:List PL} {i:Nat} {x:PL} (h:xs[i]? = some x):iC_ (xs.take (i+1))=iC_ (xs.take i)++x.l:=by unfold iC_;rw[yao_,h];simp
theorem xZ_ {xs:List PL} (h:∀ x∈xs,x.ok) (i:Nat):(iC_ (xs.take i)).length<=min i xs.length*100000:=by
  have:=Dg_ (g:=PL.l) (n:=100000) (xs.take i) λx d=>(h x (yaS_ d)).sh
  rwa [yat_]at this
theorem Cr_ (n:Nat) (v:n<=1000000000):Tri prog 93 #[.slice none 0 0,i4_ n] [] [] (λy:{y:Value×Hp // av_ 80 10 y.1 0 [] y.2}=>y.1.1) (λy=>y.1.2) (λ_=>[]):=by
 refine l_ func93 rfl rfl ntmps93 rfl λu=>?_;refine Zi 9 (λe=>?_) λe=>?_
 .refine Zz 10 ?_
  refine c_ (sW_ u_ rfl) rfl (Zz 3 ?_);refine c_ (aD_ (aT_ rfl rfl rfl (bB_ zaa_ zaa_)) (show i4_ ((n:Int) - (0 - 0))=i4_ n from yag_ _ zaa_)) rfl (Zi 6 (λd=>?_) λd=>?_)
  .refine Zz 12 ?_
   exact W_ results93 ⟨(.slice none 0 0,[]),av_.nil _ _⟩ rfl e_ zt
  refine Zz 6 ?_;refine c_ (sW_ u_ rfl) rfl (c_ (aD_ (cq_ (i:=0) (j:=0) (kl:=.i64) (kh:=.i64) u_ ab_ rfl rfl rfl zaa_ zaa_) (show _=Value.slice none 0 0 from rfl)) rfl (Zz 1 ?_));refine tL_ (n:=n) sC_ F_ rfl rfl zaa_ zaa_ zay_ rfl λk h o=>?_;refine Zz 2 ?_;refine c_ (aD_ (cq_ (i:=0) (j:=0) (kl:=.i64) (kh:=.i64) u_ ab_ rfl rfl rfl zaa_ zaa_) (show _=Value.slice (some ⟨h,0,none⟩) 0 k.1 by simp[zq_])) rfl (Zz 10 ?_);exact W_ results93 ⟨(.slice (some ⟨h,0,none⟩) 0 k.1,[(h,.cells k.2 80 (0,0))]),xr_ o.2.1 o.2.2⟩ rfl f_ zt
 exfalso;omega
theorem AO_ (xs:List PL) (B:Ao) (A:Nat) (o:∀ x∈xs,x.ok) (hl:xs.length<=100):Tri prog 46 #[.slice B xs.length A] [] [O_ B (xs.flatMap PL.cells),plF xs] (λy:{y:Ao×Nat // ((iC_ xs)).length<=y.2/\y.2<=maxLen/\(y.1=none->y.2=0)}=>.slice y.1.1 ((iC_ xs)).length y.1.2) (λ_=>[]) (λy=>[O_ y.1.1 (((iC_ xs)).flatMap Pc.cells)]):=by
 refine l_ func46 rfl rfl ntmps46 rfl λa0=>?_;refine Zz 19 ?_;refine Y_ (ι:={y:Nat×Nat // y.1<=List.length xs/\y.2<=y.1*100000}) (λy=>[(0,.slice B xs.length A),(3,i4_ y.1.2),(9,.slice B xs.length A),(10,i4_ (List.length xs:Int)),(11,i4_ y.1.1)]) (λy=>([])) (λy=>[O_ B (xs.flatMap PL.cells),plF xs]) (λy=>xs.length - y.1.1) ⟨((0:Nat),(0:Nat)),by simp,by simp⟩ zl e_ zh ?_;rintro ⟨⟨i,w⟩,hi,Z⟩;dsimp only at hi Z ⊢;refine Zi 2 (λF=>?_) λF=>?_
 .refine Zz 9 ?_
  refine d_ (Cr_ w zaa_) rfl e_ zt rfl λ⟨⟨E,K⟩,L⟩=>?_;dsimp only;dsimp only at L;refine s_ fB_ ?_;have T:av_ 80 10 E (iC_ (xs.take 0)).length (List.flatMap Pc.cells (iC_ (xs.take 0))) K:=by exact L
  refine Zz 12 ?_;refine Y_ (ι:={y:Nat×Value×Hp // y.1<=List.length xs/\zR 80 10 Pc.cells y.2.1 (iC_ (xs.take y.1)) y.2.2}) (λy=>[(0,.slice B xs.length A),(6,y.1.2.1),(25,.slice B xs.length A),(26,i4_ (List.length xs:Int)),(27,i4_ y.1.1)]) (λy=>(y.1.2.2)) (λy=>[O_ B (xs.flatMap PL.cells),plF xs]) (λy=>xs.length - y.1.1) ⟨((0:Nat),E,K),by simp,T⟩ zl an_ zh ?_;rintro ⟨⟨j,W,X⟩,hj,k⟩;dsimp only at hj k ⊢;have Y:=xZ_ o j;refine Zi 2 (λG=>?_) λG=>?_
  .rw[yac_ zaa_]at k
   refine Zz 13 ?_;refine I_ k an_ λQ U P I H J=>?_;exact W_ results46 ⟨(Q,U),I,H,J⟩ (cw_ rfl P) e_ zf
  obtain⟨C,e,M,d⟩:=zge (show j<xs.length by omega);have O:=(o e d).sh;refine Zz 18 ?_;refine aY_ (news:=List.flatMap Pc.cells (PL.l e)) sC_ k rfl rfl (o e d).nz (o e d).le an_ zaQ_ (λv _ h=>by exact (h.2.1 e d)) (λu hu=>aF_ Pc.cells_one hu) (by simp only[maxLen];(have:=(o e d).sh;omega)) (by (have:=(o e d).sh;omega)) rfl λR V F=>?_;refine s_ yah_ ?_;have S:=zsa F;refine Zz 8 ?_;exact w_ ⟨(j+1,R,V),C,(by rw[vi_ M];exact S)⟩ zae_ zl an_ zh
 obtain⟨C,e,M,d⟩:=zge (show i<xs.length by omega);have O:=(o e d).sh;refine Zi 27 (λG=>?_) λG=>?_
 .refine Zz 10 ?_
  exact w_ ⟨(i+1,w+List.length (PL.l e)),C,by have:=(o e d).sh;dsimp only;omega⟩ zae_ ⟨rfl,(aV_ rfl (by push_cast;rfl)),rfl,rfl,rfl,trivial⟩ e_ zh
 exfalso;omega
theorem ee_ (x y:Int):Fn0 prog 163 #[i4_ x,i4_ y] (i4_ (Lib.compareInt x y)):=by
 refine l_ func163 rfl rfl ntmps163 rfl λh=>?_;refine Zi 10 (λd=>?_) λd=>?_
 .refine Zi 10 (λe=>?_) λe=>?_
  .refine Zz 11 ?_
   exact W_ results163 () (aV_ rfl (by unfold Lib.compareInt;rw[yam_ d,yam_ e])) e_ zt
  refine Zz 9 ?_;exact W_ results163 () (aV_ rfl (by unfold Lib.compareInt;rw[yam_ d,yax_ e])) e_ zt
 refine Zz 9 ?_;exact W_ results163 () (aV_ rfl (by unfold Lib.compareInt;rw[yax_ d])) e_ zt
theorem dp_ (x y:Str):Fn0 prog 166 #[str x,str y] (i4_ (Lib.compareBytes x y)):=by
 refine l_ func166 rfl rfl ntmps166 rfl λk=>?_;refine Zi 10 (λe=>?_) λe=>?_
 .refine Zz 10 ?_
  refine A_ (sV_ rfl rfl) rfl λh d=>Zz 2 ?_
  cases h
  .replace d:=zdf d
   refine Zz 9 ?_;exact W_ results166 () (aV_ rfl (by rw[jP_,yam_ e,yam_ d])) e_ zt
  replace d:=zdt d;refine Zz 7 ?_;exact W_ results166 () (aV_ rfl (by rw[jP_,yam_ e,yax_ d])) e_ zt
 refine Zz 9 ?_;exact W_ results166 () (aV_ rfl (by rw[jP_,yax_ e])) e_ zt
theorem gO_:∀ (m:Nat) (c d:Con),c.sz<=m->c.ok->d.ok->c.sz<=1000->d.sz<=1000->Tri prog 165 #[Con.val c,Con.val d] [] [Con.memF c,Con.memF d] (λ_:Unit=>i4_ (Con.cmp c d)) (λ_=>[]) (λ_=>[]):=by
 intro m
 induction m with
 | zero=>intro c d h;have:=Con.sz_pos c;omega
 | succ m ih =>
   intro c d h T Q a1 a4;have b4:=Con.parts_lt c;refine l_ func165 rfl rfl ntmps165 rfl λv_1=>?_;refine Zz 2 ?_;refine Q_ rfl rfl λu=>Q_ rfl rfl λk=>Zz 5 ?_
   refine C_ 4 [0,2] zk zs (Zz 3 ?_);refine j_ 1 rfl zk (d_ (gB_ _ c (yab_ _) T a1) rfl e_ zf rfl λ_=>Zz 3 ?_);refine j_ 3 rfl zk (d_ (gB_ _ d (yab_ _) Q a4) rfl e_ zf rfl λ_=>Zz 3 ?_);refine j_ 4 rfl zk (d_ (ee_ (Con.sz c:Int) (Con.sz d:Int)) rfl e_ zt rfl λ_=>Zz 3 ?_);refine C_ 0 [5] zk zs (Zz 8 ?_);refine A_ (al_ rfl rfl) rfl λb1 G=>Zz 2 ?_
   let Pu:Hp:=((k,.cells (Con.cells d).toArray 28 (0,0))::((u,.cells (Con.cells c).toArray 28 (0,0))::[]));refine co_ (ι:={y:Int // y=orF ([(Lib.compareInt (Con.sz c:Int) (Con.sz d:Int))]++[(Lib.compareInt c.kind d.kind)])}) (λy=>[(2,zp_ u 0),(3,zp_ k 0),(4,i4_ 0),(5,i4_ y.1)]) (λy=>Pu) (λy=>[Con.memF c,Con.memF d]) ?_ ?_
   . cases b1
     . replace G:=znb G;refine Zz 3 ?_;exact aA_ ⟨(Lib.compareInt (Con.sz c:Int) (Con.sz d:Int)),(eR_ (oF_ _).symm G)⟩ zl zp zf
     . replace G:=zeb G;refine Zz 6 ?_;refine d_ (ee_ c.kind d.kind) rfl e_ zt rfl λ_=>Zz 3 ?_
       exact aA_ ⟨(Lib.compareInt c.kind d.kind),(ed_ (oF_ _).symm G)⟩ zl zp zf
   . rintro ⟨a7,U⟩;dsimp only;refine Zz 5 ?_;refine A_ (al_ rfl rfl) rfl λa9 H=>Zz 2 ?_
     refine co_ (ι:={y:Int // y=orF (([(Lib.compareInt (Con.sz c:Int) (Con.sz d:Int))]++[(Lib.compareInt c.kind d.kind)])++[(Lib.compareBytes c.name d.name)])}) (λy=>[(2,zp_ u 0),(3,zp_ k 0),(4,i4_ 0),(5,i4_ y.1)]) (λy=>Pu) (λy=>[Con.memF c,Con.memF d]) ?_ ?_
     . cases a9
       . replace H:=znb H;refine Zz 3 ?_;exact aA_ ⟨a7,(eR_ U H)⟩ zl zp zf
       . replace H:=zeb H;refine Zz 6 ?_;refine d_ (dp_ c.name d.name) rfl e_ zt rfl λ_=>Zz 3 ?_
         exact aA_ ⟨(Lib.compareBytes c.name d.name),(ed_ U H)⟩ zl zp zf
     . rintro ⟨a5,R⟩;dsimp only;refine Zz 5 ?_;refine A_ (al_ rfl rfl) rfl λb0 F=>Zz 2 ?_
       refine co_ (ι:={y:Int // y=orF ((([(Lib.compareInt (Con.sz c:Int) (Con.sz d:Int))]++[(Lib.compareInt c.kind d.kind)])++[(Lib.compareBytes c.name d.name)])++[(Lib.compareInt c.lo d.lo)])}) (λy=>[(2,zp_ u 0),(3,zp_ k 0),(4,i4_ 0),(5,i4_ y.1)]) (λy=>Pu) (λy=>[Con.memF c,Con.memF d]) ?_ ?_
       . cases b0
         . replace F:=znb F;refine Zz 3 ?_;exact aA_ ⟨a5,(eR_ R F)⟩ zl zp zf
         . replace F:=zeb F;refine Zz 6 ?_;refine d_ (ee_ c.lo d.lo) rfl e_ zt rfl λ_=>Zz 3 ?_
           exact aA_ ⟨(Lib.compareInt c.lo d.lo),(ed_ R F)⟩ zl zp zf
       . rintro ⟨a6,O⟩;dsimp only;refine Zz 5 ?_;refine A_ (al_ rfl rfl) rfl λb3 E=>Zz 2 ?_
         refine co_ (ι:={y:Int // y=orF (((([(Lib.compareInt (Con.sz c:Int) (Con.sz d:Int))]++[(Lib.compareInt c.kind d.kind)])++[(Lib.compareBytes c.name d.name)])++[(Lib.compareInt c.lo d.lo)])++[(Lib.compareInt c.hi d.hi)])}) (λy=>[(2,zp_ u 0),(3,zp_ k 0),(4,i4_ 0),(5,i4_ y.1)]) (λy=>Pu) (λy=>[Con.memF c,Con.memF d]) ?_ ?_
         . cases b3
           . replace E:=znb E;refine Zz 3 ?_;exact aA_ ⟨a6,(eR_ O E)⟩ zl zp zf
           . replace E:=zeb E;refine Zz 6 ?_;refine d_ (ee_ c.hi d.hi) rfl e_ zt rfl λ_=>Zz 3 ?_
             exact aA_ ⟨(Lib.compareInt c.hi d.hi),(ed_ O E)⟩ zl zp zf
         . rintro ⟨X,K⟩;dsimp only;refine Zz 8 ?_;refine Y_ (ι:={y:Nat×Int // hA_ X y.2 (Con.cmp.cmps c.parts d.parts) (Con.cmp.cmps (c.parts.drop y.1) (d.parts.drop y.1)) (y.1<=List.length c.parts/\y.1<=d.parts.length)}) (λy=>[(2,zp_ u 0),(3,zp_ k 0),(4,i4_ 0),(5,i4_ y.1.2),(6,i4_ y.1.1)]) (λy=>Pu) (λy=>[Con.memF c,Con.memF d]) (λy=>c.parts.length - y.1.1) ⟨((0:Nat),X),(hA_.init ⟨yaV_ _,yaV_ _⟩)⟩ zl zp zh ?_;rintro ⟨⟨i,n⟩,M⟩;dsimp only at M ⊢;refine Zi 4 (λa2=>?_) λa2=>?_
           . refine Zz 23 ?_;refine A_ (al_ rfl rfl) rfl λP A=>Zz 2 ?_
             refine co_ (ι:={y:Int // y=(if n=0 then (Lib.compareInt (List.length c.parts:Int) (List.length d.parts:Int)) else n)}) (λy=>[(2,zp_ u 0),(3,zp_ k 0),(4,i4_ 0),(6,i4_ i),(5,i4_ y.1)]) (λy=>Pu) (λy=>[Con.memF c,Con.memF d]) ?_ ?_
             . cases P
               . replace A:=znb A;refine Zz 3 ?_;exact aA_ ⟨n,(by rw[yam_ A])⟩ zl zp zf
               . replace A:=zeb A;refine Zz 8 ?_;refine d_ (ee_ (List.length c.parts:Int) (List.length d.parts:Int)) rfl e_ zt rfl λ_=>Zz 3 ?_
                 exact aA_ ⟨(Lib.compareInt (List.length c.parts:Int) (List.length d.parts:Int)),(by rw[yax_ A])⟩ zl zp zf
             . rintro ⟨W,B⟩;dsimp only;have e:=hA_.or (o:=(Lib.compareInt (List.length c.parts:Int) (List.length d.parts:Int))) M K (λhn hv Y=>pZ_ Y.1 Y.2 zba_);rw[<-B]at e;refine Zz 8 ?_;exact W_ results165 () (aV_ rfl zbS_) e_ zt
           . refine Zi 10 (λA=>?_) λA=>?_
             . refine Zz 17 ?_;refine A_ (al_ rfl rfl) rfl λP x=>Zz 2 ?_
               refine co_ (ι:={y:Int // y=(if n=0 then (Lib.compareInt (List.length c.parts:Int) (List.length d.parts:Int)) else n)}) (λy=>[(2,zp_ u 0),(3,zp_ k 0),(4,i4_ 0),(6,i4_ i),(5,i4_ y.1)]) (λy=>Pu) (λy=>[Con.memF c,Con.memF d]) ?_ ?_
               . cases P
                 . replace x:=znb x;refine Zz 3 ?_;exact aA_ ⟨n,(by rw[yam_ x])⟩ zl zp zf
                 . replace x:=zeb x;refine Zz 8 ?_;refine d_ (ee_ (List.length c.parts:Int) (List.length d.parts:Int)) rfl e_ zt rfl λ_=>Zz 3 ?_
                   exact aA_ ⟨(Lib.compareInt (List.length c.parts:Int) (List.length d.parts:Int)),(by rw[yax_ x])⟩ zl zp zf
               . rintro ⟨W,B⟩;dsimp only;have e:=hA_.or (o:=(Lib.compareInt (List.length c.parts:Int) (List.length d.parts:Int))) M K (λhn hv Y=>pZ_ Y.1 Y.2 zba_);rw[<-B]at e;refine Zz 8 ?_;exact W_ results165 () (aV_ rfl zbS_) e_ zt
             . refine Zi 11 (λx=>?_) λx=>?_
               . refine Zz 10 ?_;refine A_ (al_ rfl rfl) rfl λP C=>Zz 2 ?_
                 refine co_ (ι:={y:Int // y=(if n=0 then (Lib.compareInt (List.length c.parts:Int) (List.length d.parts:Int)) else n)}) (λy=>[(2,zp_ u 0),(3,zp_ k 0),(4,i4_ 0),(6,i4_ i),(5,i4_ y.1)]) (λy=>Pu) (λy=>[Con.memF c,Con.memF d]) ?_ ?_
                 . cases P
                   . replace C:=znb C;refine Zz 3 ?_;exact aA_ ⟨n,(by rw[yam_ C])⟩ zl zp zf
                   . replace C:=zeb C;refine Zz 8 ?_;refine d_ (ee_ (List.length c.parts:Int) (List.length d.parts:Int)) rfl e_ zt rfl λ_=>Zz 3 ?_
                     exact aA_ ⟨(Lib.compareInt (List.length c.parts:Int) (List.length d.parts:Int)),(by rw[yax_ C])⟩ zl zp zf
                 . rintro ⟨W,B⟩;dsimp only;have e:=hA_.or (o:=(Lib.compareInt (List.length c.parts:Int) (List.length d.parts:Int))) M K (λhn hv Y=>pZ_ Y.1 Y.2 zba_);rw[<-B]at e;refine Zz 8 ?_;exact W_ results165 () (aV_ rfl zbS_) e_ zt
               . obtain⟨b2,Z,S,I⟩:=zge (show i<c.parts.length by omega);have a0:i<d.parts.length:=by omega
                 obtain⟨V,L⟩:∃ a8,d.parts[i]? = some a8:=⟨_,yaa_ a0⟩;have J:V∈d.parts:=yad_ L;have a3:n=0:=by assumption
                 refine Zz 9 ?_;refine C_ 2 [0,1,2,3,4,5,6,7,8,9] zk zs (Zz 3 ?_);refine G_ rfl (J_ z_ i_ rfl rfl (λv _ h=>az_ (n:=5) Con.cells_len zaj_ zas_ S) zaa_ zah_) rfl ?_;refine G_ rfl (ax_ (ad:=c.ad) (us:=Con.cells Z) H_ i_ rfl (λv _ h=>by exact ((Con.mem_iff c v).1 h.1).1) (Con.cells_len _) (t_ Con.cells_len S)) rfl (Zz 3 ?_);refine G_ rfl (J_ z_ i_ rfl rfl (λv _ h=>az_ (n:=5) Con.cells_len zaj_ (by exact ((Con.mem_iff d v).1 h.2.1).1) L) zaa_ zah_) rfl ?_;refine G_ rfl (ax_ (ad:=d.ad) (us:=Con.cells V) H_ i_ rfl (λv _ h=>by exact ((Con.mem_iff d v).1 h.2.1).1) (Con.cells_len _) (t_ Con.cells_len L)) rfl (bd_ (j_ 10 rfl zk (d_ (ih Z V (by have:=Con.sz_part I;omega) (Con.ok_part T I) (Con.ok_part Q J) (by have:=Con.sz_part I;omega) (by have:=Con.sz_part J;omega)) rfl e_ (λv _ h=>by exact⟨(Con.mem_part (c:=c) h.1 I),(Con.mem_part (c:=d) h.2.1 J),trivial⟩) rfl λ_=>?_)));refine Zz 3 ?_;refine C_ 0 [11] zk zs (Zz 10 ?_);exact w_ ⟨(i+1,(Con.cmp Z V)),hA_.step (by rw[a3]at M;exact M) (by rw[sH_ S L]) (λ_=>⟨by omega,by omega⟩)⟩ zae_ zl zp zh
theorem qM_ (x:Ax) (L:x.ok) (R:x.left.sz<=1000) (S:x.right.sz<=1000):Tri prog 164 #[Ax.val x] [] [Ax.memF x] (λ_:Unit=>i4_ x.wgt) (λ_=>[]) (λ_=>[]):=by
 refine l_ func164 rfl rfl ntmps164 rfl λa0=>?_;have Z:=L.cap;refine Zz 2 ?_;refine Q_ rfl rfl λF=>Zz 17 ?_
 refine A_ (cP_ rfl rfl) rfl λQ C=>Zz 2 ?_
 let Pu:Hp:=((F,.cells (Ax.cells x).toArray 30 (0,0))::[]);refine co_ (ι:={y:Int // y=(if (bne x.left.kind 0)=true then ((List.length x.roles:Int)+(Con.sz x.left:Int)) else (List.length x.roles:Int))}) (λy=>[(1,zp_ F 0),(2,i4_ 0),(3,i4_ y.1)]) (λy=>Pu) (λy=>[Ax.memF x]) ?_ ?_
 .cases Q
  .replace C:=de_ C
   refine Zz 3 ?_;exact aA_ ⟨(List.length x.roles:Int),(by rw[yam_ zbn_])⟩ zl f_ zf
  replace C:=dd_ C;refine Zz 5 ?_;refine d_ (gB_ _ x.left (yab_ _) L.left R) rfl e_ (λv _ h=>by exact⟨h.1.1,trivial⟩) rfl λ_=>Zz 4 ?_
  exact aA_ ⟨((List.length x.roles:Int)+(Con.sz x.left:Int)),(by rw[yax_ zbn_])⟩ zl f_ zf
 rintro ⟨B,J⟩;dsimp only;have W:B<=8796093021952+1*1001/\0<=B:=by have q:=J;split at q<;>omega
 refine Zz 7 ?_;refine A_ (cP_ rfl rfl) rfl λO E=>Zz 2 ?_
 refine co_ (ι:={y:Int // y=(if (bne x.right.kind 0)=true then (B+(Con.sz x.right:Int)) else B)}) (λy=>[(1,zp_ F 0),(2,i4_ 0),(3,i4_ y.1)]) (λy=>Pu) (λy=>[Ax.memF x]) ?_ ?_
 .cases O
  .replace E:=de_ E
   refine Zz 3 ?_;exact aA_ ⟨B,(by rw[yam_ zbo_])⟩ zl f_ zf
  replace E:=dd_ E;refine Zz 5 ?_;refine d_ (gB_ _ x.right (yab_ _) L.right S) rfl e_ (λv _ h=>by exact⟨h.1.2.1,trivial⟩) rfl λ_=>Zz 4 ?_
  exact aA_ ⟨(B+(Con.sz x.right:Int)),(by rw[yax_ zbo_])⟩ zl f_ zf
 rintro ⟨k,H⟩;dsimp only;have X:k<=8796093021952+2*1001/\0<=k:=by have q:=H;split at q<;>omega
 refine Zz 6 ?_;refine A_ (cY_ rfl rfl) rfl λP A=>Zz 2 ?_
 refine co_ (ι:={y:Int // y=(if (bne x.role [])=true then (k+1) else k)}) (λy=>[(1,zp_ F 0),(2,i4_ 0),(3,i4_ y.1)]) (λy=>Pu) (λy=>[Ax.memF x]) ?_ ?_
 .cases P
  .replace A:=de_ A
   refine Zz 3 ?_;exact aA_ ⟨k,(by rw[yam_ (by simpa using A)])⟩ zl f_ zf
  replace A:=dd_ A;refine Zz 7 ?_;exact aA_ ⟨(k+1),(by rw[yax_ (by simpa using A)])⟩ zl f_ zf
 rintro ⟨u,G⟩;dsimp only;have U:u<=8796093021952+3*1001/\0<=u:=by have q:=G;split at q<;>omega
 refine Zz 6 ?_;refine A_ (cY_ rfl rfl) rfl λT e=>Zz 2 ?_
 refine co_ (ι:={y:Int // y=(if (bne x.a [])=true then (u+1) else u)}) (λy=>[(1,zp_ F 0),(2,i4_ 0),(3,i4_ y.1)]) (λy=>Pu) (λy=>[Ax.memF x]) ?_ ?_
 .cases T
  .replace e:=de_ e
   refine Zz 3 ?_;exact aA_ ⟨u,(by rw[yam_ (by simpa using e)])⟩ zl f_ zf
  replace e:=dd_ e;refine Zz 7 ?_;exact aA_ ⟨(u+1),(by rw[yax_ (by simpa using e)])⟩ zl f_ zf
 rintro ⟨o,I⟩;dsimp only;have V:o<=8796093021952+4*1001/\0<=o:=by have q:=I;split at q<;>omega
 refine Zz 6 ?_;refine A_ (cY_ rfl rfl) rfl λM d=>Zz 2 ?_
 refine co_ (ι:={y:Int // y=(if (bne x.b [])=true then (o+1) else o)}) (λy=>[(2,i4_ 0),(3,i4_ y.1)]) (λy=>Pu) (λy=>[Ax.memF x]) ?_ ?_
 .cases M
  .replace d:=de_ d
   refine Zz 3 ?_;exact aA_ ⟨o,(by rw[yam_ zbe_])⟩ zl f_ zf
  replace d:=dd_ d;refine Zz 7 ?_;exact aA_ ⟨(o+1),(by rw[yax_ zbe_])⟩ zl f_ zf
 rintro ⟨Y,K⟩;dsimp only;refine Zz 8 ?_;exact W_ results164 () (aV_ rfl (by unfold Ax.wgt;simp only[bne_iff_ne,ne_eq]at J H G I K;rw[K,I,G,H,J];(repeat' split)<;>first|omega|(exfalso;simp_all;done))) e_ zt
theorem iZ_ {G:Prop} (h:G:=by
 rintro ⟨a3,I⟩;dsimp only;refine Zz 8 ?_;exact W_ results76 () (aV_ rfl (by rw[I];exact rfl)) e_ zt):G:=h
theorem ty_ (x w:Ax) (S:x.ok) (U:w.ok) (a1:x.left.sz<=1000) (hz1r:x.right.sz<=1000) (a4:w.left.sz<=1000) (a2:w.right.sz<=1000):Tri prog 76 #[Ax.val x,Ax.val w] [] [Ax.memF x,Ax.memF w] (λ_:Unit=>i4_ (Ax.cmp x w)) (λ_=>[]) (λ_=>[]):=by
 refine l_ func76 rfl rfl ntmps76 rfl λv_1=>?_;have hrc_1:=S.cap;refine Zz 2 ?_;refine Q_ rfl rfl λe=>Q_ rfl rfl λd=>Zz 5 ?_
 refine C_ 4 [0,2] zk zs (Zz 3 ?_);refine j_ 1 rfl zk (d_ (qM_ x S a1 hz1r) rfl e_ zf rfl λ_=>Zz 3 ?_);refine j_ 3 rfl zk (d_ (qM_ w U a4 a2) rfl e_ zf rfl λ_=>Zz 3 ?_);refine j_ 4 rfl zk (d_ (ee_ (Ax.wgt x) (Ax.wgt w)) rfl e_ zt rfl λ_=>Zz 3 ?_);refine C_ 0 [5] zk zs (Zz 8 ?_);refine A_ (al_ rfl rfl) rfl λr_1 K=>Zz 2 ?_
 let Pu:Hp:=((d,.cells (Ax.cells w).toArray 30 (0,0))::((e,.cells (Ax.cells x).toArray 30 (0,0))::[]));refine co_ (ι:={y:Int // y=orF ([(Lib.compareInt (Ax.wgt x) (Ax.wgt w))]++[(Lib.compareInt x.kind w.kind)])}) (λy=>[(2,zp_ e 0),(3,zp_ d 0),(4,i4_ 0),(5,i4_ y.1)]) (λy=>Pu) (λy=>[Ax.memF x,Ax.memF w]) ?_ ?_
 .cases r_1
  .replace K:=znb K
   refine Zz 3 ?_;exact aA_ ⟨(Lib.compareInt (Ax.wgt x) (Ax.wgt w)),(eR_ (oF_ _).symm K)⟩ zl zp zf
  replace K:=zeb K;refine Zz 6 ?_;refine d_ (ee_ x.kind w.kind) rfl e_ zt rfl λ_=>Zz 3 ?_
  exact aA_ ⟨(Lib.compareInt x.kind w.kind),(ed_ (oF_ _).symm K)⟩ zl zp zf
 rintro ⟨nn_1,a0⟩;dsimp only;refine Zz 5 ?_;refine A_ (al_ rfl rfl) rfl λr_2 M=>Zz 2 ?_
 refine co_ (ι:={y:Int // y=orF (([(Lib.compareInt (Ax.wgt x) (Ax.wgt w))]++[(Lib.compareInt x.kind w.kind)])++[(Con.cmp x.left w.left)])}) (λy=>[(2,zp_ e 0),(3,zp_ d 0),(4,i4_ 0),(5,i4_ y.1)]) (λy=>Pu) (λy=>[Ax.memF x,Ax.memF w]) ?_ ?_
 .cases r_2
  .replace M:=znb M
   refine Zz 3 ?_;exact aA_ ⟨nn_1,(eR_ a0 M)⟩ zl zp zf
  replace M:=zeb M;refine Zz 6 ?_;refine d_ (gO_ _ x.left w.left (yab_ _) S.left U.left a1 a4) rfl e_ (λv _ h=>by exact⟨h.1.1,h.2.1.1,trivial⟩) rfl λ_=>Zz 3 ?_
  exact aA_ ⟨(Con.cmp x.left w.left),(ed_ a0 M)⟩ zl zp zf
 rintro ⟨nn_2,W⟩;dsimp only;refine Zz 5 ?_;refine A_ (al_ rfl rfl) rfl λr_3 L=>Zz 2 ?_
 refine co_ (ι:={y:Int // y=orF ((([(Lib.compareInt (Ax.wgt x) (Ax.wgt w))]++[(Lib.compareInt x.kind w.kind)])++[(Con.cmp x.left w.left)])++[(Con.cmp x.right w.right)])}) (λy=>[(2,zp_ e 0),(3,zp_ d 0),(4,i4_ 0),(5,i4_ y.1)]) (λy=>Pu) (λy=>[Ax.memF x,Ax.memF w]) ?_ ?_
 .cases r_3
  .replace L:=znb L
   refine Zz 3 ?_;exact aA_ ⟨nn_2,(eR_ W L)⟩ zl zp zf
  replace L:=zeb L;refine Zz 6 ?_;refine d_ (gO_ _ x.right w.right (yab_ _) S.right U.right hz1r a2) rfl e_ (λv _ h=>by exact⟨h.1.2.1,h.2.1.2.1,trivial⟩) rfl λ_=>Zz 3 ?_
  exact aA_ ⟨(Con.cmp x.right w.right),(ed_ W L)⟩ zl zp zf
 rintro ⟨a5,R⟩;dsimp only;refine Zz 8 ?_;refine Y_ (ι:={y:Nat×Int // hA_ a5 y.2 (eh_ x.roles w.roles) (eh_ (x.roles.drop y.1) (w.roles.drop y.1)) (y.1<=List.length x.roles/\y.1<=w.roles.length)}) (λy=>[(2,zp_ e 0),(3,zp_ d 0),(4,i4_ 0),(5,i4_ y.1.2),(6,i4_ y.1.1)]) (λy=>Pu) (λy=>[Ax.memF x,Ax.memF w]) (λy=>x.roles.length - y.1.1) ⟨((0:Nat),a5),(hA_.init ⟨yaV_ _,yaV_ _⟩)⟩ zl zp zh ?_;rintro ⟨⟨i,n⟩,T⟩;dsimp only at T ⊢;refine Zi 4 (λhr_4=>?_) λhr_4=>?_
 .refine Zz 23 ?_
  refine A_ (al_ rfl rfl) rfl λY H=>Zz 2 ?_
  refine co_ (ι:={y:Int // y=(if n=0 then (Lib.compareInt (List.length x.roles:Int) (List.length w.roles:Int)) else n)}) (λy=>[(2,zp_ e 0),(3,zp_ d 0),(4,i4_ 0),(6,i4_ i),(5,i4_ y.1)]) (λy=>Pu) (λy=>[Ax.memF x,Ax.memF w]) ?_ ?_
  .cases Y
   .replace H:=znb H
    refine Zz 3 ?_;exact aA_ ⟨n,(by rw[yam_ H])⟩ zl zp zf
   replace H:=zeb H;refine Zz 8 ?_;refine d_ (ee_ (List.length x.roles:Int) (List.length w.roles:Int)) rfl e_ zt rfl λ_=>Zz 3 ?_
   exact aA_ ⟨(Lib.compareInt (List.length x.roles:Int) (List.length w.roles:Int)),(by rw[yax_ H])⟩ zl zp zf
  rintro ⟨Q,J⟩;dsimp only;have A:=hA_.or (o:=(Lib.compareInt (List.length x.roles:Int) (List.length w.roles:Int))) T R (λhn hv ha=>qd_ ha.1 ha.2 zba_);rw[<-J]at A;refine Zz 5 ?_;refine A_ (al_ rfl rfl) rfl λV B=>Zz 2 ?_
  refine co_ (ι:={y:Int // y=orF ((((([(Lib.compareInt (Ax.wgt x) (Ax.wgt w))]++[(Lib.compareInt x.kind w.kind)])++[(Con.cmp x.left w.left)])++[(Con.cmp x.right w.right)])++[eh_ x.roles w.roles])++[(Lib.compareBytes x.role w.role)])}) (λy=>[(2,zp_ e 0),(3,zp_ d 0),(4,i4_ 0),(6,i4_ i),(5,i4_ y.1)]) (λy=>Pu) (λy=>[Ax.memF x,Ax.memF w]) ?_ ?_
  .cases V
   .replace B:=znb B
    refine Zz 3 ?_;exact aA_ ⟨Q,(eR_ A B)⟩ zl zp zf
   replace B:=zeb B;refine Zz 6 ?_;refine d_ (dp_ x.role w.role) rfl e_ zt rfl λ_=>Zz 3 ?_
   exact aA_ ⟨(Lib.compareBytes x.role w.role),(ed_ A B)⟩ zl zp zf
  rintro ⟨O,E⟩;dsimp only;refine Zz 5 ?_;refine A_ (al_ rfl rfl) rfl λX u=>Zz 2 ?_
  refine co_ (ι:={y:Int // y=orF (((((([(Lib.compareInt (Ax.wgt x) (Ax.wgt w))]++[(Lib.compareInt x.kind w.kind)])++[(Con.cmp x.left w.left)])++[(Con.cmp x.right w.right)])++[eh_ x.roles w.roles])++[(Lib.compareBytes x.role w.role)])++[(Lib.compareBytes x.a w.a)])}) (λy=>[(2,zp_ e 0),(3,zp_ d 0),(4,i4_ 0),(6,i4_ i),(5,i4_ y.1)]) (λy=>Pu) (λy=>[Ax.memF x,Ax.memF w]) ?_ ?_
  .cases X
   .replace u:=znb u
    refine Zz 3 ?_;exact aA_ ⟨O,(eR_ E u)⟩ zl zp zf
   replace u:=zeb u;refine Zz 6 ?_;refine d_ (dp_ x.a w.a) rfl e_ zt rfl λ_=>Zz 3 ?_
   exact aA_ ⟨(Lib.compareBytes x.a w.a),(ed_ E u)⟩ zl zp zf
  rintro ⟨P,F⟩;dsimp only;refine Zz 5 ?_;refine A_ (al_ rfl rfl) rfl λZ k=>Zz 2 ?_
  refine co_ (ι:={y:Int // y=orF ((((((([(Lib.compareInt (Ax.wgt x) (Ax.wgt w))]++[(Lib.compareInt x.kind w.kind)])++[(Con.cmp x.left w.left)])++[(Con.cmp x.right w.right)])++[eh_ x.roles w.roles])++[(Lib.compareBytes x.role w.role)])++[(Lib.compareBytes x.a w.a)])++[(Lib.compareBytes x.b w.b)])}) (λy=>[(2,zp_ e 0),(3,zp_ d 0),(4,i4_ 0),(6,i4_ i),(5,i4_ y.1)]) (λy=>Pu) (λy=>[Ax.memF x,Ax.memF w]) ?_ ?_
  .cases Z
   .replace k:=znb k
    refine Zz 3 ?_;exact aA_ ⟨P,(eR_ F k)⟩ zl zp zf
   replace k:=zeb k;refine Zz 6 ?_;refine d_ (dp_ x.b w.b) rfl e_ zt rfl λ_=>Zz 3 ?_
   exact aA_ ⟨(Lib.compareBytes x.b w.b),(ed_ F k)⟩ zl zp zf
  exact iZ_
 refine Zi 10 (λH=>?_) λH=>?_
 .refine Zz 17 ?_
  refine A_ (al_ rfl rfl) rfl λY B=>Zz 2 ?_
  refine co_ (ι:={y:Int // y=(if n=0 then (Lib.compareInt (List.length x.roles:Int) (List.length w.roles:Int)) else n)}) (λy=>[(2,zp_ e 0),(3,zp_ d 0),(4,i4_ 0),(6,i4_ i),(5,i4_ y.1)]) (λy=>Pu) (λy=>[Ax.memF x,Ax.memF w]) ?_ ?_
  .cases Y
   .replace B:=znb B
    refine Zz 3 ?_;exact aA_ ⟨n,(by rw[yam_ B])⟩ zl zp zf
   replace B:=zeb B;refine Zz 8 ?_;refine d_ (ee_ (List.length x.roles:Int) (List.length w.roles:Int)) rfl e_ zt rfl λ_=>Zz 3 ?_
   exact aA_ ⟨(Lib.compareInt (List.length x.roles:Int) (List.length w.roles:Int)),(by rw[yax_ B])⟩ zl zp zf
  rintro ⟨Q,J⟩;dsimp only;have A:=hA_.or (o:=(Lib.compareInt (List.length x.roles:Int) (List.length w.roles:Int))) T R (λhn hv ha=>qd_ ha.1 ha.2 zba_);rw[<-J]at A;refine Zz 5 ?_;refine A_ (al_ rfl rfl) rfl λV u=>Zz 2 ?_
  refine co_ (ι:={y:Int // y=orF ((((([(Lib.compareInt (Ax.wgt x) (Ax.wgt w))]++[(Lib.compareInt x.kind w.kind)])++[(Con.cmp x.left w.left)])++[(Con.cmp x.right w.right)])++[eh_ x.roles w.roles])++[(Lib.compareBytes x.role w.role)])}) (λy=>[(2,zp_ e 0),(3,zp_ d 0),(4,i4_ 0),(6,i4_ i),(5,i4_ y.1)]) (λy=>Pu) (λy=>[Ax.memF x,Ax.memF w]) ?_ ?_
  .cases V
   .replace u:=znb u
    refine Zz 3 ?_;exact aA_ ⟨Q,(eR_ A u)⟩ zl zp zf
   replace u:=zeb u;refine Zz 6 ?_;refine d_ (dp_ x.role w.role) rfl e_ zt rfl λ_=>Zz 3 ?_
   exact aA_ ⟨(Lib.compareBytes x.role w.role),(ed_ A u)⟩ zl zp zf
  rintro ⟨O,E⟩;dsimp only;refine Zz 5 ?_;refine A_ (al_ rfl rfl) rfl λX k=>Zz 2 ?_
  refine co_ (ι:={y:Int // y=orF (((((([(Lib.compareInt (Ax.wgt x) (Ax.wgt w))]++[(Lib.compareInt x.kind w.kind)])++[(Con.cmp x.left w.left)])++[(Con.cmp x.right w.right)])++[eh_ x.roles w.roles])++[(Lib.compareBytes x.role w.role)])++[(Lib.compareBytes x.a w.a)])}) (λy=>[(2,zp_ e 0),(3,zp_ d 0),(4,i4_ 0),(6,i4_ i),(5,i4_ y.1)]) (λy=>Pu) (λy=>[Ax.memF x,Ax.memF w]) ?_ ?_
  .cases X
   .replace k:=znb k
    refine Zz 3 ?_;exact aA_ ⟨O,(eR_ E k)⟩ zl zp zf
   replace k:=zeb k;refine Zz 6 ?_;refine d_ (dp_ x.a w.a) rfl e_ zt rfl λ_=>Zz 3 ?_
   exact aA_ ⟨(Lib.compareBytes x.a w.a),(ed_ E k)⟩ zl zp zf
  rintro ⟨P,F⟩;dsimp only;refine Zz 5 ?_;refine A_ (al_ rfl rfl) rfl λZ C=>Zz 2 ?_
  refine co_ (ι:={y:Int // y=orF ((((((([(Lib.compareInt (Ax.wgt x) (Ax.wgt w))]++[(Lib.compareInt x.kind w.kind)])++[(Con.cmp x.left w.left)])++[(Con.cmp x.right w.right)])++[eh_ x.roles w.roles])++[(Lib.compareBytes x.role w.role)])++[(Lib.compareBytes x.a w.a)])++[(Lib.compareBytes x.b w.b)])}) (λy=>[(2,zp_ e 0),(3,zp_ d 0),(4,i4_ 0),(6,i4_ i),(5,i4_ y.1)]) (λy=>Pu) (λy=>[Ax.memF x,Ax.memF w]) ?_ ?_
  .cases Z
   .replace C:=znb C
    refine Zz 3 ?_;exact aA_ ⟨P,(eR_ F C)⟩ zl zp zf
   replace C:=zeb C;refine Zz 6 ?_;refine d_ (dp_ x.b w.b) rfl e_ zt rfl λ_=>Zz 3 ?_
   exact aA_ ⟨(Lib.compareBytes x.b w.b),(ed_ F C)⟩ zl zp zf
  exact iZ_
 refine Zi 11 (λB=>?_) λB=>?_
 .refine Zz 10 ?_
  refine A_ (al_ rfl rfl) rfl λY u=>Zz 2 ?_
  refine co_ (ι:={y:Int // y=(if n=0 then (Lib.compareInt (List.length x.roles:Int) (List.length w.roles:Int)) else n)}) (λy=>[(2,zp_ e 0),(3,zp_ d 0),(4,i4_ 0),(6,i4_ i),(5,i4_ y.1)]) (λy=>Pu) (λy=>[Ax.memF x,Ax.memF w]) ?_ ?_
  .cases Y
   .replace u:=znb u
    refine Zz 3 ?_;exact aA_ ⟨n,(by rw[yam_ u])⟩ zl zp zf
   replace u:=zeb u;refine Zz 8 ?_;refine d_ (ee_ (List.length x.roles:Int) (List.length w.roles:Int)) rfl e_ zt rfl λ_=>Zz 3 ?_
   exact aA_ ⟨(Lib.compareInt (List.length x.roles:Int) (List.length w.roles:Int)),(by rw[yax_ u])⟩ zl zp zf
  rintro ⟨Q,J⟩;dsimp only;have A:=hA_.or (o:=(Lib.compareInt (List.length x.roles:Int) (List.length w.roles:Int))) T R (λhn hv ha=>qd_ ha.1 ha.2 zba_);rw[<-J]at A;refine Zz 5 ?_;refine A_ (al_ rfl rfl) rfl λV k=>Zz 2 ?_
  refine co_ (ι:={y:Int // y=orF ((((([(Lib.compareInt (Ax.wgt x) (Ax.wgt w))]++[(Lib.compareInt x.kind w.kind)])++[(Con.cmp x.left w.left)])++[(Con.cmp x.right w.right)])++[eh_ x.roles w.roles])++[(Lib.compareBytes x.role w.role)])}) (λy=>[(2,zp_ e 0),(3,zp_ d 0),(4,i4_ 0),(6,i4_ i),(5,i4_ y.1)]) (λy=>Pu) (λy=>[Ax.memF x,Ax.memF w]) ?_ ?_
  .cases V
   .replace k:=znb k
    refine Zz 3 ?_;exact aA_ ⟨Q,(eR_ A k)⟩ zl zp zf
   replace k:=zeb k;refine Zz 6 ?_;refine d_ (dp_ x.role w.role) rfl e_ zt rfl λ_=>Zz 3 ?_
   exact aA_ ⟨(Lib.compareBytes x.role w.role),(ed_ A k)⟩ zl zp zf
  rintro ⟨O,E⟩;dsimp only;refine Zz 5 ?_;refine A_ (al_ rfl rfl) rfl λX C=>Zz 2 ?_
  refine co_ (ι:={y:Int // y=orF (((((([(Lib.compareInt (Ax.wgt x) (Ax.wgt w))]++[(Lib.compareInt x.kind w.kind)])++[(Con.cmp x.left w.left)])++[(Con.cmp x.right w.right)])++[eh_ x.roles w.roles])++[(Lib.compareBytes x.role w.role)])++[(Lib.compareBytes x.a w.a)])}) (λy=>[(2,zp_ e 0),(3,zp_ d 0),(4,i4_ 0),(6,i4_ i),(5,i4_ y.1)]) (λy=>Pu) (λy=>[Ax.memF x,Ax.memF w]) ?_ ?_
  .cases X
   .replace C:=znb C
    refine Zz 3 ?_;exact aA_ ⟨O,(eR_ E C)⟩ zl zp zf
   replace C:=zeb C;refine Zz 6 ?_;refine d_ (dp_ x.a w.a) rfl e_ zt rfl λ_=>Zz 3 ?_
   exact aA_ ⟨(Lib.compareBytes x.a w.a),(ed_ E C)⟩ zl zp zf
  rintro ⟨P,F⟩;dsimp only;refine Zz 5 ?_;refine A_ (al_ rfl rfl) rfl λZ G=>Zz 2 ?_
  refine co_ (ι:={y:Int // y=orF ((((((([(Lib.compareInt (Ax.wgt x) (Ax.wgt w))]++[(Lib.compareInt x.kind w.kind)])++[(Con.cmp x.left w.left)])++[(Con.cmp x.right w.right)])++[eh_ x.roles w.roles])++[(Lib.compareBytes x.role w.role)])++[(Lib.compareBytes x.a w.a)])++[(Lib.compareBytes x.b w.b)])}) (λy=>[(2,zp_ e 0),(3,zp_ d 0),(4,i4_ 0),(6,i4_ i),(5,i4_ y.1)]) (λy=>Pu) (λy=>[Ax.memF x,Ax.memF w]) ?_ ?_
  .cases Z
   .replace G:=znb G
    refine Zz 3 ?_;exact aA_ ⟨P,(eR_ F G)⟩ zl zp zf
   replace G:=zeb G;refine Zz 6 ?_;refine d_ (dp_ x.b w.b) rfl e_ zt rfl λ_=>Zz 3 ?_
   exact aA_ ⟨(Lib.compareBytes x.b w.b),(ed_ F G)⟩ zl zp zf
  exact iZ_
 have hlx_1:i<x.roles.length:=by omega
 obtain⟨x_1,hx_1⟩:∃ e_1,x.roles[i]? = some e_1:=⟨_,yaa_ hlx_1⟩;have hly_1:i<w.roles.length:=by omega
 obtain⟨y_1,hy_1⟩:∃ e_1,w.roles[i]? = some e_1:=⟨_,yaa_ hly_1⟩;have hn_1:n=0:=by assumption
 refine Zz 9 ?_;refine C_ 2 [0,1,2,3,4,5,6,7,8,9] zk zs (Zz 11 ?_);refine j_ 10 rfl zk (d_ (dp_ x_1 y_1) rfl e_ zt rfl λ_=>Zz 3 ?_);refine C_ 0 [11] zk zs (Zz 10 ?_);exact w_ ⟨(i+1,(Lib.compareBytes x_1 y_1)),hA_.step (by rw[hn_1]at T;exact T) (by rw[sI_ hx_1 hy_1]) (λ_=>⟨by omega,by omega⟩)⟩ zae_ zl zp zh
theorem qI_ (x y:Ax) (A:x.ok) (e:y.ok) (k:x.left.sz<=1000) (u:x.right.sz<=1000) (v:y.left.sz<=1000) (h:y.right.sz<=1000):Tri prog 34 #[Ax.val x,Ax.val y] [] [Ax.memF x,Ax.memF y] (λ_:Unit=>.bool ((x.opn==y.opn)&&(Ax.cmp x y==0))) (λ_=>[]) (λ_=>[]):=by
 refine l_ func34 rfl rfl ntmps34 rfl λC=>?_;refine Zz 2 ?_;refine Q_ rfl rfl λF=>Q_ rfl rfl λG=>Zz 9 ?_
 refine A_ (lL_ kR_ rfl rfl) rfl λB d=>Zz 1 ?_
 cases B
 .refine Zz 9 ?_
  exact W_ results34 () (n_ rfl zbH_) e_ zt
 refine Zz 5 ?_;refine d_ (ty_ x y A e k u v h) rfl e_ zf rfl λ_=>as_ rfl rfl (A_ (al_ rfl rfl) rfl λE o=>Zz 5 ?_)
 exact W_ results34 () (n_ rfl (by rw[<-o];simp[d])) e_ zt
def plf (x:Ax):Prop:=(x.left.kind=3/\x.left.parts=[])/\(x.right.kind=3/\x.right.parts=[])/\x.roles=[]/\x.role=[]/\x.a=[]/\x.b=[]
theorem hs_ (x:Int):Fn0 prog 163 #[i4_ x,i4_ x] (i4_ 0):=by
  grind[ee_,Lib.compareInt]
theorem oE_ (x:Str):Fn0 prog 166 #[str x,str x] (i4_ 0):=by
  grind[dp_,jP_]
theorem wq_ (c:Con) (e:c.ok) (o:c.sz<=1000) (v:c.parts=[]):Tri prog 165 #[Con.val c,Con.val c] [] [Con.memF c] (λ_:Unit=>i4_ 0) (λ_=>[]) (λ_=>[]):=by
 refine l_ func165 rfl rfl ntmps165 rfl λu=>?_;refine Zz 2 ?_;refine Q_ rfl rfl λh=>Q_ rfl rfl λk=>Zz 5 ?_
 refine C_ 4 [0,2] zk zs (Zz 3 ?_);refine j_ 1 rfl zk (d_ (gB_ _ c (yab_ _) e o) rfl e_ zf rfl λ_=>Zz 3 ?_);refine j_ 3 rfl zk (d_ (gB_ _ c (yab_ _) e o) rfl e_ zf rfl λ_=>Zz 3 ?_);refine j_ 4 rfl zk (d_ (hs_ (Con.sz c:Int)) rfl e_ zt rfl λ_=>Zz 3 ?_);refine C_ 0 [5] zk zs (Zz 8 ?_);refine c_ (aD_ (al_ rfl rfl) (show _=Value.bool true from yag_ Value.bool zaj_)) rfl (Zz 8 ?_);refine d_ (hs_ c.kind) rfl e_ zt rfl λ_=>Zz 7 ?_
 refine c_ (aD_ (al_ rfl rfl) (show _=Value.bool true from yag_ Value.bool zaj_)) rfl (Zz 8 ?_);refine d_ (oE_ c.name) rfl e_ zt rfl λ_=>Zz 7 ?_
 refine c_ (aD_ (al_ rfl rfl) (show _=Value.bool true from yag_ Value.bool zaj_)) rfl (Zz 8 ?_);refine d_ (hs_ c.lo) rfl e_ zt rfl λ_=>Zz 7 ?_
 refine c_ (aD_ (al_ rfl rfl) (show _=Value.bool true from yag_ Value.bool zaj_)) rfl (Zz 8 ?_);refine d_ (hs_ c.hi) rfl e_ zt rfl λ_=>Zz 10 ?_
 refine Y_ (ι:={y:Nat // y=0}) (λy=>[(2,zp_ h 0),(3,zp_ k 0),(4,i4_ 0),(5,i4_ 0),(6,i4_ y.1)]) (λy=>((k,.cells (Con.cells c).toArray 28 (0,0))::((h,.cells (Con.cells c).toArray 28 (0,0))::[]))) (λy=>[Con.memF c]) (λy=>0) ⟨(0:Nat),rfl⟩ zl zp zh ?_;rintro ⟨i,hi⟩;dsimp only at hi ⊢;refine Zz 4 ?_;refine c_ (aD_ (al_ rfl rfl) (show _=Value.bool true from yag_ Value.bool zaj_)) rfl (Zi 10 (λd=>?_) λd=>?_)
 .refine Zz 17 ?_
  refine c_ (aD_ (al_ rfl rfl) (show _=Value.bool true from yag_ Value.bool zaj_)) rfl (Zz 10 ?_);refine d_ (hs_ (List.length c.parts:Int)) rfl e_ zt rfl λ_=>Zz 10 ?_
  exact W_ results165 () rfl e_ zt
 exfalso;rw[v]at d;simp only[yaw_]at d;omega
theorem wp_ (x:Ax) (o:x.ok) (F:x.left.sz<=1000) (E:x.right.sz<=1000) (u:plf x):Tri prog 164 #[Ax.val x] [] [Ax.memF x] (λ_:Unit=>i4_ (((List.length x.roles:Int)+(Con.sz x.left:Int))+(Con.sz x.right:Int))) (λ_=>[]) (λ_=>[]):=by
 refine l_ func164 rfl rfl ntmps164 rfl λG=>?_;have H:=o.cap;refine Zz 2 ?_;refine Q_ rfl rfl λI=>Zi 17 (λA=>?_) λA=>?_
 .exfalso;have C:=u.1.1;have y:=u.2.1.1;omega
 refine Zz 7 ?_;refine d_ (gB_ _ x.left (yab_ _) o.left F) rfl e_ (λv _ h=>by exact⟨h.1.1,trivial⟩) rfl λ_=>Zi 10 (λB=>?_) λB=>?_
 .exfalso;have C:=u.1.1;have y:=u.2.1.1;omega
 refine Zz 7 ?_;refine d_ (gB_ _ x.right (yab_ _) o.right E) rfl e_ (λv _ h=>by exact⟨h.1.2.1,trivial⟩) rfl λ_=>Zi 9 (λk=>?_) λk=>?_
 .refine Zi 10 (λe=>?_) λe=>?_
  .refine Zi 10 (λd=>?_) λd=>?_
   .refine Zz 12 ?_
    exact W_ results164 () (aV_ rfl zaa_) e_ zt
   exact absurd u.2.2.2.2.2 d
  exact absurd u.2.2.2.2.1 e
 exact absurd u.2.2.2.1 k
theorem xP_ (x:Ax) (e:x.ok) (o:x.left.sz<=1000) (k:x.right.sz<=1000) (u:plf x):Tri prog 76 #[Ax.val x,Ax.val x] [] [Ax.memF x] (λ_:Unit=>i4_ 0) (λ_=>[]) (λ_=>[]):=by
 refine l_ func76 rfl rfl ntmps76 rfl λC=>?_;refine Zz 2 ?_;refine Q_ rfl rfl λA=>Q_ rfl rfl λB=>Zz 5 ?_
 refine C_ 4 [0,2] zk zs (Zz 3 ?_);refine j_ 1 rfl zk (d_ (wp_ x e o k u) rfl e_ zf rfl λ_=>Zz 3 ?_);refine j_ 3 rfl zk (d_ (wp_ x e o k u) rfl e_ zf rfl λ_=>Zz 3 ?_);refine j_ 4 rfl zk (d_ (hs_ (((List.length x.roles:Int)+(Con.sz x.left:Int))+(Con.sz x.right:Int))) rfl e_ zt rfl λ_=>Zz 3 ?_);refine C_ 0 [5] zk zs (Zz 8 ?_);refine c_ (aD_ (al_ rfl rfl) (show _=Value.bool true from yag_ Value.bool zaj_)) rfl (Zz 8 ?_);refine d_ (hs_ x.kind) rfl e_ zt rfl λ_=>Zz 7 ?_
 refine c_ (aD_ (al_ rfl rfl) (show _=Value.bool true from yag_ Value.bool zaj_)) rfl (Zz 8 ?_);refine d_ (wq_ x.left e.left o u.1.2) rfl e_ (λv _ h=>by exact⟨h.1.1,trivial⟩) rfl λ_=>Zz 7 ?_
 refine c_ (aD_ (al_ rfl rfl) (show _=Value.bool true from yag_ Value.bool zaj_)) rfl (Zz 8 ?_);refine d_ (wq_ x.right e.right k u.2.1.2) rfl e_ (λv _ h=>by exact⟨h.1.2.1,trivial⟩) rfl λ_=>Zz 10 ?_
 refine Y_ (ι:={y:Nat // y=0}) (λy=>[(2,zp_ A 0),(3,zp_ B 0),(4,i4_ 0),(5,i4_ 0),(6,i4_ y.1)]) (λy=>((B,.cells (Ax.cells x).toArray 30 (0,0))::((A,.cells (Ax.cells x).toArray 30 (0,0))::[]))) (λy=>[Ax.memF x]) (λy=>0) ⟨(0:Nat),rfl⟩ zl zp zh ?_;rintro ⟨i,hi⟩;dsimp only at hi ⊢;refine Zz 4 ?_;refine c_ (aD_ (al_ rfl rfl) (show _=Value.bool true from yag_ Value.bool zaj_)) rfl (Zi 10 (λd=>?_) λd=>?_)
 .refine Zz 17 ?_
  refine c_ (aD_ (al_ rfl rfl) (show _=Value.bool true from yag_ Value.bool zaj_)) rfl (Zz 10 ?_);refine d_ (hs_ (List.length x.roles:Int)) rfl e_ zt rfl λ_=>Zz 7 ?_
  refine c_ (aD_ (al_ rfl rfl) (show _=Value.bool true from yag_ Value.bool zaj_)) rfl (Zz 8 ?_);refine d_ (oE_ x.role) rfl e_ zt rfl λ_=>Zz 7 ?_
  refine c_ (aD_ (al_ rfl rfl) (show _=Value.bool true from yag_ Value.bool zaj_)) rfl (Zz 8 ?_);refine d_ (oE_ x.a) rfl e_ zt rfl λ_=>Zz 7 ?_
  refine c_ (aD_ (al_ rfl rfl) (show _=Value.bool true from yag_ Value.bool zaj_)) rfl (Zz 8 ?_);refine d_ (oE_ x.b) rfl e_ zt rfl λ_=>Zz 10 ?_
  exact W_ results76 () rfl e_ zt
 exfalso;rw[u.2.2.1]at d;simp only[yaw_]at d;omega
theorem xx_ (x:Ax) (h:x.ok) (o:x.left.sz<=1000) (e:x.right.sz<=1000) (v:plf x):Tri prog 34 #[Ax.val x,Ax.val x] [] [Ax.memF x] (λ_:Unit=>.bool true) (λ_=>[]) (λ_=>[]):=by
 refine l_ func34 rfl rfl ntmps34 rfl λu=>?_;refine Zz 2 ?_;refine Q_ rfl rfl λy=>Q_ rfl rfl λA=>Zz 9 ?_
 refine A_ (lL_ kR_ rfl rfl) rfl λk d=>Zz 1 ?_
 cases k
 .exfalso;simp at d
 refine Zz 5 ?_;refine d_ (xP_ x h o e v) rfl e_ zf rfl λ_=>as_ rfl rfl (c_ (aD_ (al_ rfl rfl) (show _=Value.bool true from yag_ Value.bool zaj_)) rfl (Zz 5 ?_))
 exact W_ results34 () rfl e_ zt
theorem yo_ {l:List Ax} {i:Nat} {x:Ax} (h:l[i]? = some x):ha_ 0 (List.take (i+1) l)=ha_ 0 (l.take i)++x.pieces (i:Int):=by
  grind[List.take_add_one,om_,ha_]
theorem xM_ (l:List Ax) (ad:Ao) (cap:Nat) (a1:l.length<=cap/\cap<=2199023255488) (R:∀ x∈l,x.ok) (a5:l.length<=12) (Q:∀ x∈l,Ax.Few x) {p:List Pc} {er:Int} (W:aX_ l=(p,er)):Tri prog 80 #[.slice ad l.length cap] [] [bA_ ad l] (λy:{y:Ao×Nat // p.length<=y.2/\y.2<=maxLen/\(y.1=none->y.2=0)}=>.tuple #[.slice y.1.1 p.length y.1.2,i4_ er]) (λ_=>[]) (λy=>[O_ y.1.1 (p.flatMap Pc.cells)]):=by
 refine l_ func80 rfl rfl ntmps80 rfl λa6=>?_;refine Zi 11 (λE=>?_) λE=>?_
 .refine Zz 12 ?_
  refine bc_ [(0,.slice ad l.length cap),(4,i4_ ((0:Nat):Int))] zl ?_;refine bs_ (ι:={q:Nat // q<=l.length/\∀ y∈l.take q,y.check=0}) (λY=>[(0,.slice ad l.length cap),(4,i4_ Y.1)]) (λ_=>_) (λ_=>_) (λY=>l.length - Y.1) ⟨0,by simp⟩ ?_;rintro ⟨i,V⟩;refine bc_ [(0,.slice ad l.length cap),(4,i4_ i)] zl ?_;refine Zi 6 (λU=>?_) λU=>?_
  .refine Zz 17 ?_
   have B:∀ y∈l,y.check=0:=λy F=>V.2 y (by rw[yac_ zaa_];exact F)
   rw[pq_ zaa_ B]at W;obtain⟨rfl,rfl⟩:=ycX_ W;refine bc_ [(0,.slice ad l.length cap),(6,.slice none 0 0),(7,i4_ ((0:Nat):Int))] zl ?_;refine bs_ (ι:={y:Nat×Value×Hp // y.1<=l.length/\av_ 80 10 y.2.1 (ha_ 0 (l.take y.1)).length ((ha_ 0 (l.take y.1)).flatMap Pc.cells) y.2.2}) (λy=>[(0,.slice ad l.length cap),(6,y.1.2.1),(7,i4_ y.1.1)]) (λy=>y.1.2.2) (λ_=>_) (λy=>l.length - y.1.1) ⟨(0,.slice none 0 0,[]),by simp,av_.nil _ _⟩ ?_;rintro ⟨⟨j,sv,Hr⟩,hj,o⟩;dsimp only at hj o;dsimp only;have a0:=pP_ 0 (l.take j) (λy F=>B y (yaS_ F));rw[yat_]at a0;refine bc_ [(0,.slice ad l.length cap),(6,sv),(7,i4_ j)] zl ?_;refine Zi 6 (λC=>?_) λC=>?_
   .refine Zz 9 ?_
    refine c_ (dF_ o u_ rfl) rfl ?_;refine Zi 0 (λO=>?_) λO=>?_
    .refine Zz 13 ?_
     rw[yac_ (show l.length<=j by omega)]at o;refine I_ o an_ λK S X L T M=>?_;subst X;exact gN_ results80 ⟨(K,S),L,T,M⟩ rfl rfl rfl e_ zf
    exfalso;omega
   obtain⟨A,e,k,d⟩:=zge (show j<l.length by omega);have a4:=im_ (j:Int) (Ax.good_of (B e d));refine Zz 14 ?_;refine d_ (rOf1_c e (R e d) (B e d) (j:Int)) rfl e_ (λv _ h=>by exact⟨(h.1.2 e d),trivial⟩) rfl λ⟨⟨a3,a2⟩,J,Z,I⟩=>?_;dsimp only;refine s_ zK_ (aY_ (news:=List.flatMap Pc.cells (Ax.pieces (j:Int) e)) hU_ o rfl rfl I J an_ zaQ_ zf (λu hu=>oG_ hu) zay_ zaa_ rfl λG H E=>?_);refine s_ (@List.perm_append_comm _ _ []) ?_;have P:av_ 80 10 G ((ha_ 0 (l.take j))++(Ax.pieces (j:Int) e)).length (((ha_ 0 (l.take j))++(Ax.pieces (j:Int) e)).flatMap Pc.cells) H:=by rw[yae_,yan_];simpa using E
   refine Zz 9 ?_;exact w_ ⟨(j+1,G,H),A,by dsimp only;rw[yo_ k];exact P⟩ zae_ zl an_ (λ_ _ h=>h.2)
  obtain⟨A,e,k,d⟩:=zge (show i<l.length by omega);refine Zz 13 ?_;refine d_ (eX_ e (R e d) (by have:=(Q e d).left;omega) (by have:=(Q e d).right;omega)) rfl e_ (λv _ h=>by exact⟨(h.1.2 e d),trivial⟩) rfl λ_=>?_;refine Zi 6 (λC=>?_) λC=>?_
  .refine Zz 11 ?_
   exact w_ ⟨i+1,A,λy F=>by rw[yao_,k]at F;simp only[ybf_,yaj_,yal_]at F;rcases F with F|rfl;exact V.2 y F;assumption⟩ zae_ zl (.refl _) zh
  refine Zz 11 ?_;rw[og_ zaa_ (by rw[hu_ k V.2 zar_];assumption),hu_ k V.2 zar_]at W;obtain⟨rfl,rfl⟩:=ycX_ W;exact gN_ results80 ⟨(none,0),by simp,by decide,λ_=>rfl⟩ rfl rfl rfl e_ (λ_ _ _=>⟨.inl rfl,trivial⟩)
 exfalso;omega
theorem fY_ {s:Str} {q:Str->Bool} (h:jK_ true s q=true) (d:q []=false):s≠[]:=by
  grind[jK_]
theorem zN_ {x:Pc} (h:x.valid=true):PcN x:=by
 unfold Pc.valid at h
 by_cases E:x.kind<1\/9<x.kind\/x.frm < -1\/1024<=x.frm
 .grind
 rw[yam_ E]at h
 by_cases A:(nus x.kind).numbers=true/\(x.lo < -1099511627776\/x.hi<x.lo\/1099511627776<x.hi)
 .grind
 rw[yam_ A]at h
 by_cases B:(nus x.kind).numbers=false/\(x.lo≠0\/x.hi≠0)
 .grind
 rw[yam_ B]at h;simp only[yaJ_]at h;obtain⟨⟨⟨⟨⟨J,H⟩,u⟩,y⟩,I⟩,C⟩:=h;have F:1<=x.kind/\x.kind<=9:=by omega
 have o:cD_ []=false:=by decide
 have v:fz_ []=false:=by decide
 have G:bk_ []=false:=by decide
 refine⟨F,λt d=>?_⟩;have e:(if (nus x.kind).numbers then bk_ else fz_) []=false:=by grind
 rcases kinds9 F with k|k|k|k|k|k|k|k|k<;>rw[k]at u y C e<;>simp[aP_,k]at d
 .subst d;exact fY_ u o
 .subst d;exact fY_ u o
 .rcases d with rfl|rfl
  .exact fY_ y e
  exact fY_ u o
 .subst d;exact fY_ u o
 .subst d;exact fY_ C v
 .subst d;exact fY_ C v
 .subst d;exact fY_ y e
 .subst d;exact fY_ y e
 subst d;exact fY_ u o
theorem ya_ {l:List Ax} {p:List Pc} (k:l.length<=12) (d:∀ x∈l,x.ok) (h:aX_ l=(p,0)):(∀ x∈p,PcN x)/\p.length<=16384:=by
 by_cases o:dv_ l=0
 .have e:=on_ o
  rw[pq_ zaa_ e]at h;obtain⟨rfl,_⟩:=ycX_ h;exact⟨λx u=>zN_ (uj_ l 0 zaa_ d e x u).2.2.2,by grind[pP_]⟩
 grind[og_]
end Go.Proofs.YtbffkokbdeppaaaGreatDoor
namespace Go.Vs
open Go Go.Sx Go.Proofs.YtbffkokbdeppaaaGreatDoor
structure Rcd.ok (x:Rcd):Prop where
  a:x.a.length<=x.acap/\x.acap<=maxLen/\(x.aad=none->x.acap=0)
  r:x.r.length<=x.rcap/\x.rcap<=maxLen/\(x.rad=none->x.rcap=0)
  f:x.f.length<=x.fcap/\x.fcap<=maxLen/\(x.fad=none->x.fcap=0)
structure Rcd.sm (x:Rcd):Prop where
  a:x.a.length<=10000000000
  r:x.r.length<=10000000000
  f:x.f.length<=10000000000
def Rcd.row (x:Rcd):List Fct:=[O_ x.aad (x.a.flatMap V_),O_ x.rad (x.r.flatMap V_),O_ x.fad (x.f.flatMap V_)]
structure Rcd.srt (x:Rcd):Prop where
  a:SrS x.a
  r:SrS x.r
  f:SrS x.f
theorem yT_ {a r f:List Str} {q:Pc} (h:q.kind=1\/q.kind=3\/q.kind=8):eA_ a r f q=decide (q.a∈a):=by unfold eA_;rw[show aM_ q=[⟨1,q.a⟩] from yax_ h];simp[is_]
theorem Db_ {a r f:List Str} {q:Pc} (h:q.kind=2):eA_ a r f q=(decide (q.a∈a)&&decide (q.b∈a)):=by unfold eA_;rw[show aM_ q=[⟨1,q.a⟩,⟨1,q.b⟩] by simp[aM_,h]];simp[is_]
theorem Da_ {a r f:List Str} {q:Pc} (h:q.kind=4):eA_ a r f q=(decide (q.r∈r)&&decide (q.a∈a)):=by unfold eA_;rw[show aM_ q=[⟨2,q.r⟩,⟨1,q.a⟩] by simp[aM_,h]];simp[is_]
theorem usb_5 {a r f:List Str} {q:Pc} (h:q.kind=5):eA_ a r f q=decide (q.r∈r):=by unfold eA_;rw[show aM_ q=[⟨2,q.r⟩] by simp[aM_,h]];simp[is_]
theorem CZ_ {a r f:List Str} {q:Pc} (h:q.kind=6):eA_ a r f q=(decide (q.r∈r)&&decide (q.s∈r)):=by unfold eA_;rw[show aM_ q=[⟨2,q.r⟩,⟨2,q.s⟩] by simp[aM_,h]];simp[is_]
theorem usb_9 {a r f:List Str} {q:Pc} (h:q.kind=9):eA_ a r f q=decide (q.r∈f):=by unfold eA_;rw[show aM_ q=[⟨3,q.r⟩] by simp[aM_,h]];simp[is_]
theorem usb_7 {a r f:List Str} {q:Pc} (d:1<=q.kind/\q.kind<=9) (v:¬ q.kind=1) (y:¬ q.kind=3) (k:¬ q.kind=8) (o:¬ q.kind=2) (u:¬ q.kind=4) (x:¬ q.kind=5) (e:¬ q.kind=6) (h:¬ q.kind=9):eA_ a r f q=decide (q.kind=7):=by
  grind[eA_,aM_]
structure RcA (S X:List Str):Prop where
  s:SrS X
  l:X.length<=S.length+2
  m:∀ n,n∈X↔n=[33]\/n=[42]\/n∈S
theorem RcA.nil:RcA [] [[33],[42]]:=⟨by decide,by decide,λn=>by simp⟩
theorem RcA.step {S X:List Str} {s:Str} (h:RcA S X) (e:s≠[]):RcA (S++[s]) (be_ X s):=by
 obtain⟨d,_,_,k⟩:=fe_ h.s e;refine⟨d,?_,λn=>?_⟩
 .have:=h.l
  by_cases q:s∈X
  all_goals grind[lO_,s,kP_]
 grind[m]
theorem RcA.inv {p:List Pc} {S X:List Str} (h:RcA S X):RdI p S X [] []:=by
 refine⟨h.s,.nil,.nil,λt e=>?_,λt e=>?_⟩
 .obtain⟨k,n⟩:=t
  rcases e with⟨o,d⟩|⟨_,d⟩|⟨_,d⟩
  .dsimp only at o d
   subst o;refine .base ?_;unfold ei_;rcases (h.m n).1 d with rfl|rfl|q
   all_goals grind
  all_goals grind
 unfold ei_ at e;rcases yaj_.1 e with q|q
 .rcases yar_.1 q with rfl|q
  .exact .inl ⟨rfl,(h.m _).2 (.inr (.inl rfl))⟩
  rw[yal_]at q;subst q;exact .inl ⟨rfl,(h.m _).2 (.inl rfl)⟩
 obtain⟨n,d,rfl⟩:=yaM_.1 q;exact .inl ⟨rfl,(h.m _).2 (.inr (.inr d))⟩
structure Rc1 (p:List Pc) (S:List Str) (x:Rcd):Prop where
  m:∀ t,is_ x.a x.r x.f t↔Rch p S t
  s:x.srt
  ok:x.ok
  sm:x.sm
theorem RdR.fin {p:List Pc} {S a r f:List Str} {n:Int} (h:RdR p S n p.length a r f) (d:¬ n<((a.length+r.length+f.length:Nat):Int)):∀ t,is_ a r f t↔Rch p S t:=by
  have:=h.le
  grind[done]
theorem RdI.sm {p:List Pc} {S:List Str} {x:Rcd} (h:RdI p S x.a x.r x.f) (e:p.length<=100000000) (o:S.length<=100000000):x.sm/\x.a.length+x.r.length+x.f.length<=300000002:=by
  have d:=h.len;have k:=hC_ p S;exact⟨⟨by omega,by omega,by omega⟩,by omega⟩
def MtI (a:Ax) (x:Rcd) (p:List Pc) (i:Nat) (k:Nat) (b:Bool):Prop:=b=true↔hr_ a\/∃ (j:Nat) (q:Pc),j<k/\p[j]? = some q/\q.frm=(i:Int)/\eA_ x.a x.r x.f q=true
theorem MtI.zero {a:Ax} {x:Rcd} {p:List Pc} {i:Nat} {b:Bool} (h:b=true↔hr_ a):MtI a x p i 0 b:=by
  grind[MtI]
theorem MtI.step {a:Ax} {x:Rcd} {p:List Pc} {i k:Nat} {q:Pc} {c:Bool} (h:MtI a x p i k false) (d:p[k]? = some q) (e:c=true↔q.frm=(i:Int)/\eA_ x.a x.r x.f q=true):MtI a x p i (k+1) c:=by
  grind[MtI]
theorem Rc1.usb {p:List Pc} {S:List Str} {x:Rcd} (h:Rc1 p S x) (q:Pc):eA_ x.a x.r x.f q=true↔Usb p S q:=by
  unfold eA_ Usb;rw[ycd_];exact⟨λz u d=>(h.m u).1 (z u d),λz u d=>(h.m u).2 (z u d)⟩
theorem MtI.yes {l:List Ax} {a:Ax} {x:Rcd} {p:List Pc} {S:List Str} {i k:Nat} (h:MtI a x p i k true) (u:Rc1 p S x) (v:l[i]? = some a):Mat l p S i:=by
 rcases h.1 rfl with z|⟨j,q,_,e,d,o⟩
 .grind[tP_]
 exact .inr ⟨q,yad_ e,d,(u.usb q).1 o⟩
theorem MtI.no {l:List Ax} {a:Ax} {x:Rcd} {p:List Pc} {S:List Str} {i k:Nat} (h:MtI a x p i k false) (y:Rc1 p S x) (E:l[i]? = some a) (C:p.length<=k):¬ Mat l p S i:=by
 have u:¬ (hr_ a\/∃ (j:Nat) (q:Pc),j<k/\p[j]? = some q/\q.frm=(i:Int)/\eA_ x.a x.r x.f q=true):=λz=>by have:=h.2 z;cases this
 rintro (⟨b,B,v⟩|⟨q,A,e,o⟩)
 .grind
 obtain⟨j,d⟩:=yaA_ A;have:=(yaf_.1 d).1;exact u (.inr ⟨j,q,by omega,d,e,(y.usb q).2 o⟩)
end Go.Vs
