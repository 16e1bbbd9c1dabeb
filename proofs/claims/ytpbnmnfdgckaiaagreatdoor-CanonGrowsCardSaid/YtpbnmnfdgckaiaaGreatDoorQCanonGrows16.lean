/-
  Part of the proof of the law CanonGrows over this seat: the small logic, the data, the contracts of functions (no condition).
-/
import Derived.Test.YtpbnmnfdgckaiaaGreatDoorQCanonGrows15
import Derived.Test.YtpbnmnfdgckaiaaGreatDoorQCanonGrows11
import Derived.Test.YtpbnmnfdgckaiaaGreatDoorQCanonGrows6
import Derived.Test.YtpbnmnfdgckaiaaGreatDoorQCanonGrows3
import Derived.Test.YtpbnmnfdgckaiaaGreatDoorRows
set_option linter.unusedVariables false
set_option linter.unusedSimpArgs false
set_option linter.unusedSectionVars false
set_option maxHeartbeats 1000000
namespace Go.Proofs.YtpbnmnfdgckaiaaGreatDoor
open Go Go.Sx Go.Proofs
attribute [local irreducible] Code.wp wpList wpAnyH
open Go.Vs Go.Shelf Go.RowKit
structure FL where
  l:List Fc
  ad:Option Addr
  cap:Nat
def FL.cells (x:FL):List Value:=[.slice x.ad x.l.length x.cap]
theorem FL.cells_len (x:FL):x.cells.length=1:=rfl
def flF (xs:List FL):Fct where
  p v:=∀ x∈xs,bz_ v x.ad (List.flatMap Fc.cells x.l)
  mono:=fun v v' h hp x hx=>(V_ x.ad (List.flatMap Fc.cells x.l)).mono v v' h (hp x hx)
def Mdl.fls (m:Mdl):List FL:=[(FL.mk (Mdl.ty m) (Mdl.tya m) (Mdl.tyc m)),(FL.mk (Mdl.li m) (Mdl.lia m) (Mdl.lic m)),(FL.mk (Mdl.di m) (Mdl.dia m) (Mdl.dic m)),(FL.mk (Mdl.ra m) (Mdl.raa m) (Mdl.rac m)),(FL.mk (Mdl.ro m) (Mdl.roa m) (Mdl.roc m))]
theorem Mdl.flsF {m:Mdl} {v:Vw} (h:(er_ m).p v):(flF m.fls).p v:=fun x d=>by
 unfold Mdl.fls at d;simp only[List.mem_cons,List.not_mem_nil,or_false]at d;rcases d with rfl|rfl|rfl|rfl|rfl
 ·exact h.2.1
 ·exact h.2.2.1
 ·exact h.2.2.2.1
 ·exact h.2.2.2.2.1
 exact h.2.2.2.2.2
theorem fls_at {m n:Mdl} (h:Mle m n) (q:Srt n.ty∧Srt n.li∧Srt n.di∧Srt n.ra∧Srt n.ro) (hl:n.ty.length≤1000000000∧n.li.length≤1000000000∧n.di.length≤1000000000∧n.ra.length≤1000000000∧n.ro.length≤1000000000) (d:m.ty.length≤1000000000∧m.li.length≤1000000000∧m.di.length≤1000000000∧m.ra.length≤1000000000∧m.ro.length≤1000000000):∀ (i:Nat) (x y:FL),m.fls[i]? = some x→n.fls[i]? = some y→(∀ z∈x.l,z∈y.l)∧Srt y.l∧y.l.length≤1000000000∧x.l.length≤1000000000:=by
  intro i x y e k;unfold Mdl.fls at e k
  match i with
  | 0=>obtain rfl:=Option.some.inj e;obtain rfl:=Option.some.inj k;exact⟨h.ty,q.1,hl.1,d.1⟩
  | 1=>obtain rfl:=Option.some.inj e;obtain rfl:=Option.some.inj k;exact⟨h.li,q.2.1,hl.2.1,d.2.1⟩
  | 2=>obtain rfl:=Option.some.inj e;obtain rfl:=Option.some.inj k;exact⟨h.di,q.2.2.1,hl.2.2.1,d.2.2.1⟩
  | 3=>obtain rfl:=Option.some.inj e;obtain rfl:=Option.some.inj k;exact⟨h.ra,q.2.2.2.1,hl.2.2.2.1,d.2.2.2.1⟩
  | 4=>obtain rfl:=Option.some.inj e;obtain rfl:=Option.some.inj k;exact⟨h.ro,q.2.2.2.2,hl.2.2.2.2,d.2.2.2.2⟩
  | i+5=>simp at e
theorem xp_ (a:Int) {n:Nat} (q:0<n) (m:n≤1099511627776):∃ i:Nat,i<n∧IntKind.wrap .i64 ((IntKind.wrap .u64 a).tmod (n:Int))=(i:Int)∧0≤(IntKind.wrap .u64 a).tmod (n:Int)∧(IntKind.wrap .u64 a).tmod (n:Int)<n:=by
  have k:0≤IntKind.wrap .u64 a:=by
    simp only[IntKind.wrap,IntKind.signed,IntKind.bits,Bool.false_and,Bool.false_eq_true,if_false];exact Int.emod_nonneg _ zx_
  have e:(IntKind.wrap .u64 a).tmod (n:Int)=(IntKind.wrap .u64 a)%(n:Int):=Int.tmod_eq_emod_of_nonneg k;have h:0≤(IntKind.wrap .u64 a)%(n:Int):=Int.emod_nonneg _ zr_;have d:(IntKind.wrap .u64 a)%(n:Int)<n:=Int.emod_lt_of_pos _ zr_;refine⟨((IntKind.wrap .u64 a)%(n:Int)).toNat,by omega,?_,by rw[e];exact h,by rw[e];exact d⟩;rw[e,ce_ zr_ zr_];omega
def gv_ (i:Nat) (l:List Ax):List Ax:=l.drop i++l.take i
theorem eD_ {i:Nat} {l:List Ax} (x:Ax):x∈gv_ i l↔x∈l:=by
 unfold gv_;rw[List.mem_append];constructor
 ·rintro (h|h)
  ·exact List.mem_of_mem_drop h
  exact List.mem_of_mem_take h
 intro h;rw[← List.take_append_drop i l,List.mem_append]at h;exact h.symm
theorem iG_ {i:Nat} {l:List Ax}:(gv_ i l).length=l.length:=by
  unfold gv_;rw[List.length_append,List.length_drop,List.length_take];omega
theorem cU_:Elt Tryz.prog 22 42 16 216:=iV_ Tryz.underlying22 (z:=.agg #[.int .i64 0,.bool false,.int .i64 0,str [],.int .i64 0,.int .i64 0,.slice none 0 0,.int .i64 0,str [],.int .i64 0,.int .i64 0,.slice none 0 0,.slice none 0 0,str [],str [],str []]) zw_ rfl zx_
theorem Ax.cells_one (x:Ax):x.cells.all Value.oneCell'=true:=rfl
theorem uQ_ {x y:AL} (h:x.ok) (e:y.ok):∀ z∈[x,y],AL.ok z:=fun z d=>by
 rcases List.mem_cons.1 d with rfl|d
 ·exact h
 rw[List.mem_singleton.1 d];exact e
theorem xI_ (m k:Mdl) (B:m.no.length≤1000000000∧m.ty.length≤1000000000∧m.li.length≤1000000000∧m.di.length≤1000000000∧m.ra.length≤1000000000∧m.ro.length≤1000000000) (A:k.no.length≤1000000000∧k.ty.length≤1000000000∧k.li.length≤1000000000∧k.di.length≤1000000000∧k.ra.length≤1000000000∧k.ro.length≤1000000000) (L:m.no=k.no) (K:m.ty=k.ty) (N:m.li=k.li) (G:m.di=k.di) (O:m.ra=k.ra) (H:m.ro=k.ro):Tri Tryz.prog 14 #[Mdl.val m,Mdl.val k] [] [er_ m,er_ k] (fun _:Unit=>.bool true) (fun _=>[]) (fun _=>[]):=by
 refine j_ Tryz.func14 rfl rfl Tryz.ntmps14 rfl fun P=>?_;refine Zz 2 ?_;refine aa_ rfl rfl fun S=>aa_ rfl rfl fun Q=>Zz 9 ?_
 refine T_ (xH_ (Mdl.no m) (Mdl.no k) (Mdl.noa m) (Mdl.noa k) (Mdl.noc m) (Mdl.noc k) (Nat.le_trans B.1 zx_) (Nat.le_trans A.1 zx_)) rfl l_ (fun v _ h=>by exact⟨h.1.1,h.2.1.1,trivial⟩) rfl fun F d=>Zz 1 ?_
 cases F
 ·replace d:=zdf d
  exact absurd L d
 replace d:=zdt d;refine Zz 9 ?_;refine T_ (ks_ (Mdl.ty m) (Mdl.ty k) (Mdl.tya m) (Mdl.tya k) (Mdl.tyc m) (Mdl.tyc k) (Nat.le_trans B.2.1 zx_) (Nat.le_trans A.2.1 zx_)) rfl l_ (fun v _ h=>by exact⟨h.1.2.1,h.2.1.2.1,trivial⟩) rfl fun I e=>Zz 2 ?_
 cases I
 ·replace e:=zdf e
  exact absurd K e
 replace e:=zdt e;refine Zz 9 ?_;refine T_ (ks_ (Mdl.li m) (Mdl.li k) (Mdl.lia m) (Mdl.lia k) (Mdl.lic m) (Mdl.lic k) (Nat.le_trans B.2.2.1 zx_) (Nat.le_trans A.2.2.1 zx_)) rfl l_ (fun v _ h=>by exact⟨h.1.2.2.1,h.2.1.2.2.1,trivial⟩) rfl fun M y=>Zz 2 ?_
 cases M
 ·replace y:=zdf y
  exact absurd N y
 replace y:=zdt y;refine Zz 9 ?_;refine T_ (ks_ (Mdl.di m) (Mdl.di k) (Mdl.dia m) (Mdl.dia k) (Mdl.dic m) (Mdl.dic k) (Nat.le_trans B.2.2.2.1 zx_) (Nat.le_trans A.2.2.2.1 zx_)) rfl l_ (fun v _ h=>by exact⟨h.1.2.2.2.1,h.2.1.2.2.2.1,trivial⟩) rfl fun J q=>Zz 2 ?_
 cases J
 ·replace q:=zdf q
  exact absurd G q
 replace q:=zdt q;refine Zz 9 ?_;refine T_ (ks_ (Mdl.ra m) (Mdl.ra k) (Mdl.raa m) (Mdl.raa k) (Mdl.rac m) (Mdl.rac k) (Nat.le_trans B.2.2.2.2.1 zx_) (Nat.le_trans A.2.2.2.2.1 zx_)) rfl l_ (fun v _ h=>by exact⟨h.1.2.2.2.2.1,h.2.1.2.2.2.2.1,trivial⟩) rfl fun E x=>Zz 2 ?_
 cases E
 ·replace x:=zdf x
  exact absurd O x
 replace x:=zdt x;refine Zz 9 ?_;refine T_ (ks_ (Mdl.ro m) (Mdl.ro k) (Mdl.roa m) (Mdl.roa k) (Mdl.roc m) (Mdl.roc k) (Nat.le_trans B.2.2.2.2.2 zx_) (Nat.le_trans A.2.2.2.2.2 zx_)) rfl l_ (fun v _ h=>by exact⟨h.1.2.2.2.2.2,h.2.1.2.2.2.2.2,trivial⟩) rfl fun R C=>Zz 5 ?_
 exact af_ Tryz.results14 () (o_ rfl (by rw[← C];exact decide_eq_true H)) l_ zt
theorem gd_ {G:Prop} (h:G:=by
 refine bE_ rfl ?_;exact kg_):G:=h
theorem kd_ {G:Prop} (h:G:=by
 refine M_ ?_;refine aq_ rfl ?_;refine w_ (fun _ a b=>⟨Vw.sat.sub (a.perm (f_ (c_ d_) (c_ d_))),b⟩) ?_;refine n_ 4 rfl zk ?_;refine R_ Q_ ar_ bc_ rfl rfl rfl rfl rfl rfl fun U=>?_;refine bu_ (List.flatMap Ax.cells [x]) d_ rfl ?_;exact lY_):G:=h
theorem ke_ {G:Prop} (h:G:=by
 refine n_ 14 rfl zk ?_;refine x_ 0 bb_ rfl rfl rfl rfl rfl rfl ?_;refine M_ ?_;refine aq_ rfl ?_;refine w_ zs ?_;refine G_ 0 [15] zk zs ?_;refine z_ rfl (an_ rfl) rfl ?_;refine aZ_ ?_;refine eI_ zk ?_;refine fL_ rfl ?_;exact bZ_ ⟨(S,b3,M),A,B⟩ zl (f_ (c_ (c_ d_)) (f_ (c_ d_) d_)) zf):G:=h
theorem kf_ {G:Prop} (h:G:=by
 refine i_ (fM_ (d++[x]) C V (fun y O=>(List.mem_append.1 O).elim (a0 y) fun q=>by rw[List.mem_singleton.1 q];exact a3) zK_) rfl l_ zf rfl fun⟨⟨k,M⟩,A,B⟩=>?_;dsimp only;try dsimp only at A B
 refine M_ ?_;refine aq_ rfl ?_;refine w_ zs ?_;refine G_ 2 [7,8,9] zk zs ?_;refine z_ rfl (O_ rfl) rfl ?_;refine z_ rfl (aG_ rfl rfl) rfl ?_;refine z_ rfl (aG_ rfl rfl) rfl ?_;refine aZ_ ?_;exact lU_):G:=h
theorem kg_ {G:Prop} (h:G:=by
 refine as_ ?_;refine ad_ ?_;refine e_ (an_ rfl) rfl ?_;refine M_ ?_;refine al_ rfl ?_;refine hG_ ?_;exact af_ Tryz.results4 () rfl (.refl _) zt):G:=h
theorem kh_ {G:Prop} (h:G:=by
 refine i_ (fM_ (d++[x]) C V (fun y O=>(List.mem_append.1 O).elim (a0 y) fun q=>by rw[List.mem_singleton.1 q];exact a3) zK_) rfl l_ zf rfl fun⟨⟨k,M⟩,A,B⟩=>?_;dsimp only;try dsimp only at A B
 refine M_ ?_;refine aq_ rfl ?_;refine w_ zs ?_;refine G_ 3 [7,8,9] zk zs ?_;refine z_ rfl (O_ rfl) rfl ?_;refine z_ rfl (aG_ rfl rfl) rfl ?_;refine z_ rfl (aG_ rfl rfl) rfl ?_;refine aZ_ ?_;refine n_ 10 rfl zk ?_;refine D_ aS_ rfl fun U=>?_;refine M_ ?_;refine aq_ rfl ?_;refine w_ zs ?_;exact lU_):G:=h
theorem ki_ {G:Prop} (h:G:=by
 refine M_ ?_;refine aq_ rfl ?_;refine w_ (fun _ a b=>⟨Vw.sat.sub (a.perm (f_ (c_ d_) (c_ d_))),b.2⟩) ?_;refine n_ 5 rfl zk ?_;refine aL_ (news:=List.flatMap Ax.cells [x]) cU_ N rfl rfl (fun q=>by cases q) zC_ zp zS_ zf (fun u Y=>ak_ Ax.cells_one Y) zs_ zt_ rfl fun H F J=>?_;refine u_ List.perm_append_comm ?_;have G:=zsa J;exact lX_):G:=h
theorem lR_ {G:Prop} (h:G:=by
 refine M_ ?_;refine aq_ rfl ?_;refine w_ (fun _ a b=>⟨Vw.sat.sub (a.perm (f_ (c_ d_) (c_ d_))),b.2⟩) ?_;refine n_ 5 rfl zk ?_;refine aL_ (news:=List.flatMap Ax.cells [x]) cU_ N rfl rfl (fun q=>by cases q) zC_ zp zS_ zf (fun u Y=>ak_ Ax.cells_one Y) zs_ zt_ rfl fun H F J=>?_;refine u_ List.perm_append_comm ?_;have G:=zsa J;exact lZ_):G:=h
theorem lS_ {G:Prop} (h:G:=by
 refine i_ (fM_ (d++[x]) C V (fun y O=>(List.mem_append.1 O).elim (a0 y) fun q=>by rw[List.mem_singleton.1 q];exact a3) zK_) rfl l_ zf rfl fun⟨⟨k,M⟩,A,B⟩=>?_;dsimp only;try dsimp only at A B
 refine M_ ?_;refine aq_ rfl ?_;refine w_ zs ?_;refine G_ 2 [7,8,9] zk zs ?_;refine z_ rfl (O_ rfl) rfl ?_;refine z_ rfl (aG_ rfl rfl) rfl ?_;refine z_ rfl (aG_ rfl rfl) rfl ?_;refine aZ_ ?_;refine n_ 11 rfl zk ?_;refine x_ 0 bb_ rfl rfl rfl rfl rfl rfl ?_;refine M_ ?_;refine aq_ rfl ?_;refine w_ zs ?_;refine G_ 0 [12] zk zs ?_;refine z_ rfl (an_ rfl) rfl ?_;refine aZ_ ?_;refine eI_ zk ?_;refine fL_ rfl ?_;exact bZ_ ⟨(S,k,M),A,B⟩ zl (f_ (c_ (c_ d_)) (f_ (c_ d_) d_)) zf):G:=h
theorem lT_ {G:Prop} (h:G:=by
 refine i_ (fM_ (d++[x]) C V (fun y O=>(List.mem_append.1 O).elim (a0 y) fun q=>by rw[List.mem_singleton.1 q];exact a3) zK_) rfl l_ zf rfl fun⟨⟨k,M⟩,A,B⟩=>?_;dsimp only;try dsimp only at A B
 refine M_ ?_;refine aq_ rfl ?_;refine w_ zs ?_;refine G_ 2 [7,8,9] zk zs ?_;refine z_ rfl (O_ rfl) rfl ?_;refine z_ rfl (aG_ rfl rfl) rfl ?_;refine z_ rfl (aG_ rfl rfl) rfl ?_;refine aZ_ ?_;refine n_ 11 rfl zk ?_;refine x_ 0 bb_ rfl rfl rfl rfl rfl rfl ?_;refine M_ ?_;refine aq_ rfl ?_;refine w_ zs ?_;refine G_ 0 [12] zk zs ?_;refine z_ rfl (an_ rfl) rfl ?_;refine aZ_ ?_;refine eI_ zk ?_;refine fL_ rfl ?_;exact bZ_ ⟨(a1,k,M),A,B⟩ zl (f_ (c_ (c_ d_)) (f_ (c_ d_) d_)) zf):G:=h
theorem lU_ {G:Prop} (h:G:=by
 refine n_ 11 rfl zk ?_;refine x_ 0 bb_ rfl rfl rfl rfl rfl rfl ?_;refine M_ ?_;refine aq_ rfl ?_;refine w_ zs ?_;refine G_ 0 [12] zk zs ?_;refine z_ rfl (an_ rfl) rfl ?_;refine aZ_ ?_;refine eI_ zk ?_;refine fL_ rfl ?_;exact bZ_ ⟨(U,k,M),A,B⟩ zl (f_ (c_ (c_ d_)) (f_ (c_ d_) d_)) zf):G:=h
theorem lV_ {G:Prop} (h:G:=by
 refine M_ ?_;refine aq_ rfl ?_;refine w_ (fun _ a b=>⟨Vw.sat.sub (a.perm (f_ (c_ d_) (c_ d_))),b.2⟩) ?_;refine n_ 5 rfl zk ?_;refine aL_ (news:=List.flatMap Ax.cells [x]) cU_ N rfl rfl (fun q=>by cases q) zC_ zp zS_ zf (fun u Y=>ak_ Ax.cells_one Y) zs_ zt_ rfl fun H F J=>?_;refine u_ List.perm_append_comm ?_;have G:=zsa J;refine M_ ?_;refine aq_ rfl ?_;refine w_ (fun _ a b=>⟨Vw.sat.sub (a.perm (f_ (c_ d_) (c_ d_))),b.2⟩) ?_;refine n_ 6 rfl zk ?_;have E:aB_ 42 16 H (List.length (d++[x])) (List.flatMap Ax.cells (d++[x])) F:=by have q:=G;exact q
 refine aN_ E (c_ (c_ B_)) fun C V L W X T=>?_;subst L;refine dG_ (Γ':=cu_ C (d++[x])::[V_ C (List.flatMap Ax.cells (d++[x])),V_ (some ⟨U,0,none⟩) (List.flatMap Ax.cells [x]),er_ m,V_ (some ⟨Z,0,none⟩) (List.flatMap AL.cells [(AL.mk d lad lcap),(AL.mk [x] (some ⟨I,0,none⟩) 1)]),V_ (some ⟨I,0,none⟩) (List.flatMap Ax.cells [x]),cu_ lad d,Ax.memF x,bV_,eX_]) (fun v _ h=>⟨⟨h.1,fun y O=>(List.mem_append.1 O).elim (h.2.2.2.2.2.1.2 y) fun q=>by rw[List.mem_singleton.1 q];exact h.2.2.2.2.2.2.1⟩,h⟩) ?_;exact lT_):G:=h
theorem is_ {G:Prop} (h:G:=by
 refine M_ ?_;refine aq_ rfl ?_;refine w_ (fun _ a b=>⟨Vw.sat.sub (a.perm (f_ (c_ d_) (c_ d_))),b⟩) ?_;refine n_ 9 rfl zk ?_;have E:aB_ 42 16 H (List.length (gv_ i d)) (List.flatMap Ax.cells (gv_ i d)) F:=by have q:=G;have e:[]++List.drop i d++List.take i d=gv_ i d:=rfl;first|exact q|(rw[e]at q;exact q)
 refine aN_ E (c_ (c_ B_)) fun a4 b9 b2 c1 b8 c0=>?_;subst b2;refine dG_ (Γ':=cu_ a4 (gv_ i d)::[V_ a4 (List.flatMap Ax.cells (gv_ i d)),er_ m,V_ (some ⟨Z,0,none⟩) (List.flatMap AL.cells [(AL.mk d lad lcap),(AL.mk [x] (some ⟨I,0,none⟩) 1)]),V_ (some ⟨I,0,none⟩) (List.flatMap Ax.cells [x]),cu_ lad d,Ax.memF x,bV_,eX_]) (fun v _ h=>⟨⟨h.1,fun y O=>h.2.2.2.2.1.2 y ((eD_ y).1 O)⟩,h⟩) ?_;refine i_ (fM_ (gv_ i d) a4 b9 (fun y O=>a0 y ((eD_ y).1 O)) zbb_) rfl l_ zf rfl fun⟨⟨b3,M⟩,A,B⟩=>?_;dsimp only;try dsimp only at A B
 refine M_ ?_;refine aq_ rfl ?_;refine w_ zs ?_;refine G_ 2 [10,11,12] zk zs ?_;refine z_ rfl (O_ rfl) rfl ?_;refine z_ rfl (aG_ rfl rfl) rfl ?_;refine z_ rfl (aG_ rfl rfl) rfl ?_;refine aZ_ ?_;exact ke_):G:=h
theorem lW_ {G:Prop} (h:G:=by
 refine M_ ?_;refine aq_ rfl ?_;refine w_ zs ?_;refine ct_ 5 10 rfl rfl zk ?_ ?_
 ·refine aL_ (news:=List.flatMap Ax.cells [x]) cU_ N rfl rfl (fun q=>by cases q) zC_ zp zS_ zf (fun u Y=>ak_ Ax.cells_one Y) zs_ zt_ rfl fun H F J=>?_
  refine u_ List.perm_append_comm ?_;have G:=zsa J;refine M_ ?_;refine aq_ rfl ?_;refine w_ zs ?_;refine ct_ 6 10 rfl rfl zk ?_ ?_
  ·have E:aB_ 42 16 H (List.length (d++[x])) (List.flatMap Ax.cells (d++[x])) F:=by have q:=G;exact q
   refine aN_ E (c_ B_) fun C V L W X T=>?_;subst L;refine dG_ (Γ':=cu_ C (d++[x])::[V_ C (List.flatMap Ax.cells (d++[x])),V_ (some ⟨S,0,none⟩) (List.flatMap Ax.cells [x]),er_ m,V_ (some ⟨Z,0,none⟩) (List.flatMap AL.cells [(AL.mk d lad lcap),(AL.mk [x] (some ⟨I,0,none⟩) 1)]),V_ (some ⟨I,0,none⟩) (List.flatMap Ax.cells [x]),cu_ lad d,Ax.memF x,bV_,eX_]) (fun v _ h=>⟨⟨h.1,fun y O=>(List.mem_append.1 O).elim (h.2.2.2.2.2.1.2 y) fun q=>by rw[List.mem_singleton.1 q];exact h.2.2.2.2.2.2.1⟩,h⟩) ?_;exact kh_
  refine D_ aS_ rfl fun U=>?_;exact lZ_
 refine D_ aS_ rfl fun U=>?_;exact lR_):G:=h
theorem lX_ {G:Prop} (h:G:=by
 refine M_ ?_;refine aq_ rfl ?_;refine w_ (fun _ a b=>⟨Vw.sat.sub (a.perm (f_ (c_ d_) (c_ d_))),b.2⟩) ?_;refine n_ 6 rfl zk ?_;have E:aB_ 42 16 H (List.length (d++[x])) (List.flatMap Ax.cells (d++[x])) F:=by have q:=G;exact q
 refine aN_ E (c_ (c_ B_)) fun C V L W X T=>?_;subst L;refine dG_ (Γ':=cu_ C (d++[x])::[V_ C (List.flatMap Ax.cells (d++[x])),V_ (some ⟨a1,0,none⟩) (List.flatMap Ax.cells [x]),er_ m,V_ (some ⟨Z,0,none⟩) (List.flatMap AL.cells [(AL.mk d lad lcap),(AL.mk [x] (some ⟨I,0,none⟩) 1)]),V_ (some ⟨I,0,none⟩) (List.flatMap Ax.cells [x]),cu_ lad d,Ax.memF x,bV_,eX_]) (fun v _ h=>⟨⟨h.1,fun y O=>(List.mem_append.1 O).elim (h.2.2.2.2.2.1.2 y) fun q=>by rw[List.mem_singleton.1 q];exact h.2.2.2.2.2.2.1⟩,h⟩) ?_;exact kf_):G:=h
theorem lY_ {G:Prop} (h:G:=by
 refine M_ ?_;refine aq_ rfl ?_;refine w_ (fun _ a b=>⟨Vw.sat.sub (a.perm (f_ (c_ d_) (c_ d_))),b.2⟩) ?_;refine n_ 5 rfl zk ?_;refine aL_ (news:=List.flatMap Ax.cells [x]) cU_ N rfl rfl (fun q=>by cases q) zC_ zp zS_ zf (fun u Y=>ak_ Ax.cells_one Y) zs_ zt_ rfl fun H F J=>?_;refine u_ List.perm_append_comm ?_;have G:=zsa J;refine M_ ?_;refine aq_ rfl ?_;refine w_ (fun _ a b=>⟨Vw.sat.sub (a.perm (f_ (c_ d_) (c_ d_))),b.2⟩) ?_;refine n_ 6 rfl zk ?_;have E:aB_ 42 16 H (List.length (d++[x])) (List.flatMap Ax.cells (d++[x])) F:=by have q:=G;exact q
 refine aN_ E (c_ (c_ B_)) fun C V L W X T=>?_;subst L;refine dG_ (Γ':=cu_ C (d++[x])::[V_ C (List.flatMap Ax.cells (d++[x])),V_ (some ⟨U,0,none⟩) (List.flatMap Ax.cells [x]),er_ m,V_ (some ⟨Z,0,none⟩) (List.flatMap AL.cells [(AL.mk d lad lcap),(AL.mk [x] (some ⟨I,0,none⟩) 1)]),V_ (some ⟨I,0,none⟩) (List.flatMap Ax.cells [x]),cu_ lad d,Ax.memF x,bV_,eX_]) (fun v _ h=>⟨⟨h.1,fun y O=>(List.mem_append.1 O).elim (h.2.2.2.2.2.1.2 y) fun q=>by rw[List.mem_singleton.1 q];exact h.2.2.2.2.2.2.1⟩,h⟩) ?_;exact lS_):G:=h
theorem lZ_ {G:Prop} (h:G:=by
 refine M_ ?_;refine aq_ rfl ?_;refine w_ (fun _ a b=>⟨Vw.sat.sub (a.perm (f_ (c_ d_) (c_ d_))),b.2⟩) ?_;refine n_ 6 rfl zk ?_;have E:aB_ 42 16 H (List.length (d++[x])) (List.flatMap Ax.cells (d++[x])) F:=by have q:=G;exact q
 refine aN_ E (c_ (c_ B_)) fun C V L W X T=>?_;subst L;refine dG_ (Γ':=cu_ C (d++[x])::[V_ C (List.flatMap Ax.cells (d++[x])),V_ (some ⟨S,0,none⟩) (List.flatMap Ax.cells [x]),er_ m,V_ (some ⟨Z,0,none⟩) (List.flatMap AL.cells [(AL.mk d lad lcap),(AL.mk [x] (some ⟨I,0,none⟩) 1)]),V_ (some ⟨I,0,none⟩) (List.flatMap Ax.cells [x]),cu_ lad d,Ax.memF x,bV_,eX_]) (fun v _ h=>⟨⟨h.1,fun y O=>(List.mem_append.1 O).elim (h.2.2.2.2.2.1.2 y) fun q=>by rw[List.mem_singleton.1 q];exact h.2.2.2.2.2.2.1⟩,h⟩) ?_;exact kf_):G:=h
set_option maxHeartbeats 1000000 in
theorem canonGrows_c (d:List Ax) (lad:Option Addr) (lcap:Nat) (P:d.length≤lcap∧lcap≤2199023255488) (a5:lad=none→lcap=0) (a0:∀ x∈d,x.ok) (x:Ax) (a3:x.ok) (at':Int):Tri Tryz.prog 4 #[.slice lad (List.length d) lcap,Ax.val x,.int .i64 at'] [] [cu_ lad d,Ax.memF x,bV_,eX_] (fun _:Unit=>.bool true) (fun _=>[]) (fun _=>[]):=by
 refine j_ Tryz.func4 rfl rfl Tryz.ntmps4 rfl fun v_1=>?_;refine as_ ?_;refine ad_ ?_;refine aa_ rfl rfl fun c2=>?_;refine e_ (an_ rfl) rfl ?_;refine M_ ?_;refine al_ rfl ?_;refine as_ ?_;refine as_ ?_;refine ad_ ?_;refine i_ (vC_) rfl l_ zf rfl fun _=>?_;refine e_ (aJ_ rfl) rfl ?_;refine M_ ?_;refine al_ rfl ?_;refine bX_ rfl ?_;refine cR_ ?_;refine al_ rfl ?_;refine as_ ?_;refine as_ ?_;refine ad_ ?_;refine e_ (O_ rfl) rfl ?_;refine i_ (yz_ d lad lcap P a0) rfl l_ zf rfl fun⟨fb,h0⟩=>?_;dsimp only;refine e_ (aJ_ rfl) rfl ?_;refine e_ (O_ rfl) rfl ?_;cases fb
 ·refine jN_ rfl rfl rfl rfl ?_
  refine jN_ rfl rfl rfl rfl ?_;refine jN_ rfl rfl rfl rfl ?_;refine jN_ rfl rfl rfl rfl ?_;refine jN_ rfl rfl rfl rfl ?_;refine jN_ rfl rfl rfl rfl ?_;refine e_ (cm_ rfl rfl) rfl ?_;refine M_ ?_;refine al_ rfl ?_;exact gd_
 obtain⟨h_1,hfw⟩:=h0 rfl;refine aQ_ rfl rfl ?_;refine e_ (O_ rfl) rfl ?_;refine aQ_ rfl rfl ?_;refine e_ (bs_ 0 iQ_ ar_ rfl rfl rfl) rfl ?_;refine aQ_ rfl rfl ?_;refine R_ Q_ ar_ bc_ rfl rfl rfl rfl rfl rfl fun I=>?_;refine bu_ (List.flatMap Ax.cells [x]) d_ rfl ?_;refine aQ_ rfl rfl ?_;refine R_ cy_ Tryz.sizeOf22 Tryz.zeroValue22 rfl rfl rfl rfl rfl rfl fun Z=>?_;refine bu_ (List.flatMap AL.cells [(AL.mk d lad lcap),(AL.mk [x] (some ⟨I,0,none⟩) 1)]) d_ rfl ?_;refine aQ_ rfl rfl ?_;refine i_ (tK_ [(AL.mk d lad lcap),(AL.mk [x] (some ⟨I,0,none⟩) 1)] (some ⟨Z,0,none⟩) 2 (uQ_ ⟨by dsimp only;omega,a0⟩ ⟨by simp,fun y O=>by rw[List.mem_singleton.1 O];exact a3⟩) zC_) rfl l_ (fun v _ h=>by exact⟨h.1,(al_two h.2.2.1 ⟨h.2.1,fun y O=>by rw[List.mem_singleton.1 O];exact h.2.2.2.1⟩),trivial⟩) rfl fun lb=>?_;refine aQ_ rfl rfl ?_;refine e_ (aJ_ rfl) rfl ?_;refine e_ (hy_ rfl rfl) rfl ?_;refine M_ ?_;refine al_ rfl ?_;cases lb
 ·exact gd_
 refine bX_ rfl ?_;refine cR_ ?_;refine al_ rfl ?_;refine as_ ?_;refine ad_ ?_;refine e_ (O_ rfl) rfl ?_;refine i_ (fM_ d lad lcap a0 zr_) rfl l_ zf rfl fun⟨⟨m,e⟩,hb,e2⟩=>?_;dsimp only;dsimp only at hb e2;have hnl:=e2.no;have hdl:=e2.di;have h4:=e2.ro;refine e_ (O_ rfl) rfl ?_;refine e_ (aG_ rfl rfl) rfl ?_;refine e_ (aG_ rfl rfl) rfl ?_;refine D_ aS_ rfl fun a6=>?_;refine x_ 0 bb_ rfl rfl rfl rfl rfl rfl ?_;refine e_ (an_ rfl) rfl ?_;refine M_ ?_;refine al_ rfl ?_;refine as_ ?_;refine as_ ?_;refine ad_ ?_;refine e_ (O_ rfl) rfl ?_;refine C_ (cf_ rfl rfl) rfl fun g8 b5=>?_;refine M_ ?_;refine al_ rfl ?_;cases g8
 ·replace b5:=ee_ b5
  have f2:e=0:=by assumption
  have f7:oE_ d m 0:=by rw[← f2];exact hb
  obtain⟨c,hB⟩:=f7.bok rfl;have b7:=hB.len zr_;refine bX_ rfl ?_;refine cR_ ?_;refine al_ rfl ?_;refine as_ ?_;refine as_ ?_;refine ad_ ?_;refine e_ (O_ rfl) rfl ?_;refine e_ (cA_ Q_ rfl) rfl ?_;refine C_ (dx_ rfl rfl) rfl fun g9 b6=>?_;refine M_ ?_;refine al_ rfl ?_;refine fh_ (ι:=Unit) (fun y=>[(0,.slice lad (List.length d) lcap),(4,zp_ c2 0),(6,.bool false),(7,zp_ a6 0)]) (fun y=>((a6,.cells #[.slice (Mdl.noa m) (List.length (Mdl.no m)) (Mdl.noc m),.slice (Mdl.tya m) (List.length (Mdl.ty m)) (Mdl.tyc m),.slice (Mdl.lia m) (List.length (Mdl.li m)) (Mdl.lic m),.slice (Mdl.dia m) (List.length (Mdl.di m)) (Mdl.dic m),.slice (Mdl.raa m) (List.length (Mdl.ra m)) (Mdl.rac m),.slice (Mdl.roa m) (List.length (Mdl.ro m)) (Mdl.roc m)] 28 (0,0))::((c2,.cells (Ax.cells x).toArray 42 (0,0))::[]))) (fun y=>[er_ m,V_ (some ⟨Z,0,none⟩) (List.flatMap AL.cells [(AL.mk d lad lcap),(AL.mk [x] (some ⟨I,0,none⟩) 1)]),V_ (some ⟨I,0,none⟩) (List.flatMap Ax.cells [x]),cu_ lad d,Ax.memF x,bV_,eX_]) ?_ ?_
  ·cases g9
   ·replace b6:=zdf b6
    refine bX_ rfl ?_;refine cR_ ?_;refine fL_ rfl ?_;exact bZ_ () zl zp zf
   replace b6:=zdt b6;obtain⟨i,hi,g5,f5,hi_2⟩:=xp_ at' (n:=d.length) zr_ zr_;refine bE_ rfl ?_;refine as_ ?_;refine ad_ ?_;refine e_ (O_ rfl) rfl ?_;refine e_ (kk_ s_ oK_ rfl rfl) rfl ?_;refine e_ (O_ rfl) rfl ?_;refine e_ (cA_ Q_ rfl) rfl ?_;refine e_ (kk_ s_ oK_ rfl (vb_ zr_ zr_)) rfl ?_;refine e_ (uX_ rfl rfl zr_ (vb_ f5 zr_)) rfl ?_;refine e_ (kk_ oK_ s_ rfl g5) rfl ?_;refine e_ (an_ rfl) rfl ?_;refine M_ ?_;refine al_ rfl ?_;refine as_ ?_;refine fh_ (ι:={y:Nat×Mdl×Int // oE_ (gv_ i d) y.2.1 y.2.2∧y.2.1.ok}) (fun y=>[(0,.slice lad (List.length d) lcap),(4,zp_ c2 0),(6,.bool false),(7,zp_ a6 0),(10,zp_ y.1.1 0),(11,.int .i64 y.1.2.2)]) (fun y=>((c2,.cells (Ax.cells x).toArray 42 (0,0))::((a6,.cells #[.slice (Mdl.noa m) (List.length (Mdl.no m)) (Mdl.noc m),.slice (Mdl.tya m) (List.length (Mdl.ty m)) (Mdl.tyc m),.slice (Mdl.lia m) (List.length (Mdl.li m)) (Mdl.lic m),.slice (Mdl.dia m) (List.length (Mdl.di m)) (Mdl.dic m),.slice (Mdl.raa m) (List.length (Mdl.ra m)) (Mdl.rac m),.slice (Mdl.roa m) (List.length (Mdl.ro m)) (Mdl.roc m)] 28 (0,0))::((y.1.1,.cells #[.slice (Mdl.noa y.1.2.1) (List.length (Mdl.no y.1.2.1)) (Mdl.noc y.1.2.1),.slice (Mdl.tya y.1.2.1) (List.length (Mdl.ty y.1.2.1)) (Mdl.tyc y.1.2.1),.slice (Mdl.lia y.1.2.1) (List.length (Mdl.li y.1.2.1)) (Mdl.lic y.1.2.1),.slice (Mdl.dia y.1.2.1) (List.length (Mdl.di y.1.2.1)) (Mdl.dic y.1.2.1),.slice (Mdl.raa y.1.2.1) (List.length (Mdl.ra y.1.2.1)) (Mdl.rac y.1.2.1),.slice (Mdl.roa y.1.2.1) (List.length (Mdl.ro y.1.2.1)) (Mdl.roc y.1.2.1)] 28 (0,0))::[])))) (fun y=>[er_ y.1.2.1,er_ m,V_ (some ⟨Z,0,none⟩) (List.flatMap AL.cells [(AL.mk d lad lcap),(AL.mk [x] (some ⟨I,0,none⟩) 1)]),V_ (some ⟨I,0,none⟩) (List.flatMap Ax.cells [x]),cu_ lad d,Ax.memF x,bV_,eX_]) ?_ ?_
   ·refine ao_ ((a6,.cells #[.slice (Mdl.noa m) (List.length (Mdl.no m)) (Mdl.noc m),.slice (Mdl.tya m) (List.length (Mdl.ty m)) (Mdl.tyc m),.slice (Mdl.lia m) (List.length (Mdl.li m)) (Mdl.lic m),.slice (Mdl.dia m) (List.length (Mdl.di m)) (Mdl.dic m),.slice (Mdl.raa m) (List.length (Mdl.ra m)) (Mdl.rac m),.slice (Mdl.roa m) (List.length (Mdl.ro m)) (Mdl.roc m)] 28 (0,0))::((c2,.cells (Ax.cells x).toArray 42 (0,0))::[])) zk ?_
    refine G_ 10 [1,2,3,5,6,7] zk zs ?_;refine z_ rfl (O_ rfl) rfl ?_;refine z_ rfl (O_ rfl) rfl ?_;refine z_ rfl (aD_ (dm_ (i:=i) (j:=List.length d) (kl:=.i64) (kh:=.i64) Q_ ar_ rfl rfl rfl zr_ (by have:=P.1;omega)) (show _=Value.slice (sad lad lcap i 16) (List.length (List.drop i d)) (lcap - i) by rw[List.length_drop])) rfl ?_;refine z_ rfl (O_ rfl) rfl ?_;refine z_ rfl (O_ rfl) rfl ?_;refine z_ rfl (aD_ (dm_ (i:=0) (j:=i) (kl:=.i64) (kh:=.i64) Q_ ar_ rfl rfl rfl zr_ (by have:=P.1;omega)) (show _=Value.slice (sad lad lcap 0 16) (List.length (List.take i d)) (lcap - 0) by rw[List.length_take,Nat.min_eq_left zr_];rfl)) rfl ?_;refine aZ_ ?_;refine ct_ 0 13 rfl rfl zk ?_ ?_
    ·refine ey_ Q_ ar_ rfl fun a1=>?_
     refine u_ d_ ?_;refine M_ ?_;refine aq_ rfl ?_;refine w_ zs ?_;refine ct_ 4 13 rfl rfl zk ?_ ?_
     ·refine aL_ (news:=List.flatMap Ax.cells (List.drop i d)) cU_ (db_ a1 42 16) rfl rfl (fun q=>by have:=a5 (gu_ q);omega) zaJ_ t_ zF_ (fun v _ h=>by exact (bz_.rest Ax.cells_len h.2.2.2.1.1 P.1 i)) (fun u Y=>ak_ Ax.cells_one Y) zs_ zt_ rfl fun Q R b5=>?_
      refine u_ List.perm_append_comm ?_;have N:aB_ 42 16 Q (List.length (([]:List Ax)++(List.drop i d))) (List.flatMap Ax.cells (([]:List Ax)++(List.drop i d))) R:=by rw[List.length_append,List.flatMap_append];exact b5
      refine M_ ?_;refine aq_ rfl ?_;refine w_ zs ?_;refine ct_ 8 13 rfl rfl zk ?_ ?_
      ·refine aL_ (news:=List.flatMap Ax.cells (List.take i d)) cU_ N rfl rfl (fun q=>by have:=a5 (gu_ q);omega) zal_ (c_ B_) zF_ (fun v _ h=>by exact (bz_.slice Ax.cells_len h.2.2.2.1.1 P.1 0 i)) (fun u Y=>ak_ Ax.cells_one Y) zs_ zt_ rfl fun H F b6=>?_
       refine u_ List.perm_append_comm ?_;have G:=zsa b6;refine M_ ?_;refine aq_ rfl ?_;refine w_ zs ?_;refine ct_ 9 13 rfl rfl zk ?_ ?_
       ·have E:aB_ 42 16 H (List.length (gv_ i d)) (List.flatMap Ax.cells (gv_ i d)) F:=by have q:=G;have e:[]++List.drop i d++List.take i d=gv_ i d:=rfl;first|exact q|(rw[e]at q;exact q)
        refine aN_ E (c_ B_) fun a4 b9 b2 c1 b8 c0=>?_;subst b2;refine dG_ (Γ':=cu_ a4 (gv_ i d)::[V_ a4 (List.flatMap Ax.cells (gv_ i d)),er_ m,V_ (some ⟨Z,0,none⟩) (List.flatMap AL.cells [(AL.mk d lad lcap),(AL.mk [x] (some ⟨I,0,none⟩) 1)]),V_ (some ⟨I,0,none⟩) (List.flatMap Ax.cells [x]),cu_ lad d,Ax.memF x,bV_,eX_]) (fun v _ h=>⟨⟨h.1,fun y O=>h.2.2.2.2.1.2 y ((eD_ y).1 O)⟩,h⟩) ?_;refine i_ (fM_ (gv_ i d) a4 b9 (fun y O=>a0 y ((eD_ y).1 O)) zbb_) rfl l_ zf rfl fun⟨⟨b3,M⟩,A,B⟩=>?_;dsimp only;try dsimp only at A B
        refine M_ ?_;refine aq_ rfl ?_;refine w_ zs ?_;refine G_ 3 [10,11,12] zk zs ?_;refine z_ rfl (O_ rfl) rfl ?_;refine z_ rfl (aG_ rfl rfl) rfl ?_;refine z_ rfl (aG_ rfl rfl) rfl ?_;refine aZ_ ?_;refine n_ 13 rfl zk ?_;refine D_ aS_ rfl fun S=>?_;refine M_ ?_;refine aq_ rfl ?_;refine w_ zs ?_;exact ke_
       refine D_ aS_ rfl fun S=>?_;exact is_
      refine D_ aS_ rfl fun S=>?_;refine M_ ?_;refine aq_ rfl ?_;refine w_ (fun _ a b=>⟨Vw.sat.sub (a.perm (f_ (c_ d_) (c_ d_))),b⟩) ?_;refine n_ 8 rfl zk ?_;refine aL_ (news:=List.flatMap Ax.cells (List.take i d)) cU_ N rfl rfl (fun q=>by have:=a5 (gu_ q);omega) zal_ (c_ (c_ B_)) zF_ (fun v _ h=>by exact (bz_.slice Ax.cells_len h.2.2.2.1.1 P.1 0 i)) (fun u Y=>ak_ Ax.cells_one Y) zs_ zt_ rfl fun H F K=>?_;refine u_ List.perm_append_comm ?_;have G:=zsa K;exact is_
     refine D_ aS_ rfl fun S=>?_;refine M_ ?_;refine aq_ rfl ?_;refine w_ zs ?_;refine n_ 4 rfl zk ?_;refine aL_ (news:=List.flatMap Ax.cells (List.drop i d)) cU_ (db_ a1 42 16) rfl rfl (fun q=>by have:=a5 (gu_ q);omega) zaJ_ (c_ t_) zF_ (fun v _ h=>by exact (bz_.rest Ax.cells_len h.2.2.2.1.1 P.1 i)) (fun u Y=>ak_ Ax.cells_one Y) zs_ zt_ rfl fun Q R K=>?_;refine u_ List.perm_append_comm ?_;have N:aB_ 42 16 Q (List.length (([]:List Ax)++(List.drop i d))) (List.flatMap Ax.cells (([]:List Ax)++(List.drop i d))) R:=by rw[List.length_append,List.flatMap_append];exact K
     refine M_ ?_;refine aq_ rfl ?_;refine w_ (fun _ a b=>⟨Vw.sat.sub (a.perm (f_ (c_ d_) (c_ d_))),b⟩) ?_;refine n_ 8 rfl zk ?_;refine aL_ (news:=List.flatMap Ax.cells (List.take i d)) cU_ N rfl rfl (fun q=>by have:=a5 (gu_ q);omega) zal_ (c_ (c_ B_)) zF_ (fun v _ h=>by exact (bz_.slice Ax.cells_len h.2.2.2.1.1 P.1 0 i)) (fun u Y=>ak_ Ax.cells_one Y) zs_ zt_ rfl fun H F J=>?_;refine u_ List.perm_append_comm ?_;have G:=zsa J;exact is_
    refine D_ aS_ rfl fun a1=>?_;refine M_ ?_;refine aq_ rfl ?_;refine w_ zs ?_;refine n_ 0 rfl zk ?_;refine ey_ Q_ ar_ rfl fun S=>?_;refine u_ d_ ?_;refine M_ ?_;refine aq_ rfl ?_;refine w_ zs ?_;refine n_ 4 rfl zk ?_;refine aL_ (news:=List.flatMap Ax.cells (List.drop i d)) cU_ (db_ S 42 16) rfl rfl (fun q=>by have:=a5 (gu_ q);omega) zaJ_ t_ zF_ (fun v _ h=>by exact (bz_.rest Ax.cells_len h.2.2.2.1.1 P.1 i)) (fun u Y=>ak_ Ax.cells_one Y) zs_ zt_ rfl fun Q R K=>?_;refine u_ List.perm_append_comm ?_;have N:aB_ 42 16 Q (List.length (([]:List Ax)++(List.drop i d))) (List.flatMap Ax.cells (([]:List Ax)++(List.drop i d))) R:=by rw[List.length_append,List.flatMap_append];exact K
    refine M_ ?_;refine aq_ rfl ?_;refine w_ (fun _ a b=>⟨Vw.sat.sub (a.perm (f_ (c_ d_) (c_ d_))),b⟩) ?_;refine n_ 8 rfl zk ?_;refine aL_ (news:=List.flatMap Ax.cells (List.take i d)) cU_ N rfl rfl (fun q=>by have:=a5 (gu_ q);omega) zal_ (c_ (c_ B_)) zF_ (fun v _ h=>by exact (bz_.slice Ax.cells_len h.2.2.2.1.1 P.1 0 i)) (fun u Y=>ak_ Ax.cells_one Y) zs_ zt_ rfl fun H F J=>?_;refine u_ List.perm_append_comm ?_;have G:=zsa J;refine M_ ?_;refine aq_ rfl ?_;refine w_ (fun _ a b=>⟨Vw.sat.sub (a.perm (f_ (c_ d_) (c_ d_))),b⟩) ?_;refine n_ 9 rfl zk ?_;have E:aB_ 42 16 H (List.length (gv_ i d)) (List.flatMap Ax.cells (gv_ i d)) F:=by have q:=G;have e:[]++List.drop i d++List.take i d=gv_ i d:=rfl;first|exact q|(rw[e]at q;exact q)
    refine aN_ E (c_ (c_ B_)) fun a4 b9 b2 c1 b8 c0=>?_;subst b2;refine dG_ (Γ':=cu_ a4 (gv_ i d)::[V_ a4 (List.flatMap Ax.cells (gv_ i d)),er_ m,V_ (some ⟨Z,0,none⟩) (List.flatMap AL.cells [(AL.mk d lad lcap),(AL.mk [x] (some ⟨I,0,none⟩) 1)]),V_ (some ⟨I,0,none⟩) (List.flatMap Ax.cells [x]),cu_ lad d,Ax.memF x,bV_,eX_]) (fun v _ h=>⟨⟨h.1,fun y O=>h.2.2.2.2.1.2 y ((eD_ y).1 O)⟩,h⟩) ?_;refine i_ (fM_ (gv_ i d) a4 b9 (fun y O=>a0 y ((eD_ y).1 O)) zbb_) rfl l_ zf rfl fun⟨⟨b3,M⟩,A,B⟩=>?_;dsimp only;try dsimp only at A B
    refine M_ ?_;refine aq_ rfl ?_;refine w_ zs ?_;refine G_ 2 [10,11,12] zk zs ?_;refine z_ rfl (O_ rfl) rfl ?_;refine z_ rfl (aG_ rfl rfl) rfl ?_;refine z_ rfl (aG_ rfl rfl) rfl ?_;refine aZ_ ?_;refine n_ 14 rfl zk ?_;refine x_ 0 bb_ rfl rfl rfl rfl rfl rfl ?_;refine M_ ?_;refine aq_ rfl ?_;refine w_ zs ?_;refine G_ 0 [15] zk zs ?_;refine z_ rfl (an_ rfl) rfl ?_;refine aZ_ ?_;refine eI_ zk ?_;refine fL_ rfl ?_;exact bZ_ ⟨(a1,b3,M),A,B⟩ zl (f_ (c_ (c_ d_)) (f_ (c_ d_) d_)) zf
   rintro ⟨⟨e1,b3,M⟩,A,B⟩;dsimp only at A B ⊢;refine bC_ [(0,.slice lad (List.length d) lcap),(4,zp_ c2 0),(6,.bool false),(7,zp_ a6 0),(10,zp_ e1 0),(11,.int .i64 M)] zl ?_;refine al_ rfl ?_;refine as_ ?_;refine ad_ ?_;refine e_ (O_ rfl) rfl ?_;refine C_ (cf_ rfl rfl) rfl fun e6 K=>?_;refine e_ (O_ rfl) rfl ?_;cases e6
   ·replace K:=ee_ K
    obtain⟨g4,b0⟩:=A.bok zB_;have b4:=b0.len zbb_;have d4:=b0.eq hB (fun a q=>(eD_ a).1 q) (fun a q=>(eD_ a).2 q);refine aQ_ rfl rfl ?_;refine e_ (bs_ 2 eF_ bb_ rfl rfl rfl) rfl ?_;refine aQ_ rfl rfl ?_;refine e_ (bs_ 1 eF_ bb_ rfl rfl rfl) rfl ?_;refine aQ_ rfl rfl ?_;refine i_ (xI_ b3 m b4 b7 d4.no d4.ty d4.li d4.di d4.ra d4.ro) rfl l_ zf rfl fun _=>?_;refine aQ_ rfl rfl ?_;refine e_ (aJ_ rfl) rfl ?_;refine e_ (hy_ rfl rfl) rfl ?_;refine M_ ?_;refine al_ rfl ?_;refine bX_ rfl ?_;refine cR_ ?_;refine fL_ rfl ?_;exact bZ_ () zl zp zf
   replace K:=ed_ K;exact absurd (wY_ f7 A (fun a q=>(eD_ a).2 q) (fun a q=>(eD_ a).1 q) a0 zr_ zbb_) K
  rintro _;refine al_ rfl ?_;refine as_ ?_;refine fh_ (ι:={y:Nat×Mdl×Int // oE_ (d++[x]) y.2.1 y.2.2∧y.2.1.ok}) (fun y=>[(6,.bool false),(7,zp_ a6 0),(12,zp_ y.1.1 0),(13,.int .i64 y.1.2.2)]) (fun y=>((c2,.cells (Ax.cells x).toArray 42 (0,0))::((a6,.cells #[.slice (Mdl.noa m) (List.length (Mdl.no m)) (Mdl.noc m),.slice (Mdl.tya m) (List.length (Mdl.ty m)) (Mdl.tyc m),.slice (Mdl.lia m) (List.length (Mdl.li m)) (Mdl.lic m),.slice (Mdl.dia m) (List.length (Mdl.di m)) (Mdl.dic m),.slice (Mdl.raa m) (List.length (Mdl.ra m)) (Mdl.rac m),.slice (Mdl.roa m) (List.length (Mdl.ro m)) (Mdl.roc m)] 28 (0,0))::((y.1.1,.cells #[.slice (Mdl.noa y.1.2.1) (List.length (Mdl.no y.1.2.1)) (Mdl.noc y.1.2.1),.slice (Mdl.tya y.1.2.1) (List.length (Mdl.ty y.1.2.1)) (Mdl.tyc y.1.2.1),.slice (Mdl.lia y.1.2.1) (List.length (Mdl.li y.1.2.1)) (Mdl.lic y.1.2.1),.slice (Mdl.dia y.1.2.1) (List.length (Mdl.di y.1.2.1)) (Mdl.dic y.1.2.1),.slice (Mdl.raa y.1.2.1) (List.length (Mdl.ra y.1.2.1)) (Mdl.rac y.1.2.1),.slice (Mdl.roa y.1.2.1) (List.length (Mdl.ro y.1.2.1)) (Mdl.roc y.1.2.1)] 28 (0,0))::[])))) (fun y=>[er_ y.1.2.1,er_ m,V_ (some ⟨Z,0,none⟩) (List.flatMap AL.cells [(AL.mk d lad lcap),(AL.mk [x] (some ⟨I,0,none⟩) 1)]),V_ (some ⟨I,0,none⟩) (List.flatMap Ax.cells [x]),cu_ lad d,Ax.memF x,bV_,eX_]) ?_ ?_
  ·refine ao_ ((a6,.cells #[.slice (Mdl.noa m) (List.length (Mdl.no m)) (Mdl.noc m),.slice (Mdl.tya m) (List.length (Mdl.ty m)) (Mdl.tyc m),.slice (Mdl.lia m) (List.length (Mdl.li m)) (Mdl.lic m),.slice (Mdl.dia m) (List.length (Mdl.di m)) (Mdl.dic m),.slice (Mdl.raa m) (List.length (Mdl.ra m)) (Mdl.rac m),.slice (Mdl.roa m) (List.length (Mdl.ro m)) (Mdl.roc m)] 28 (0,0))::((c2,.cells (Ax.cells x).toArray 42 (0,0))::[])) zk ?_
   refine G_ 11 [1,3] zk zs ?_;refine z_ rfl (O_ rfl) rfl ?_;refine z_ rfl (bs_ 1 iQ_ ar_ rfl rfl rfl) rfl ?_;refine aZ_ ?_;refine oq_ [0,4,10] zk zC_ ?_;intro i hi;simp only[List.mem_cons,List.not_mem_nil,or_false]at hi;rcases hi with rfl|rfl|rfl
   ·refine⟨_,rfl,?_⟩
    refine ey_ Q_ ar_ rfl fun a1=>?_;refine u_ d_ ?_;refine M_ ?_;refine aq_ rfl ?_;refine w_ zs ?_;refine oq_ [2,4,10] zk zC_ ?_;intro i hi;simp only[List.mem_cons,List.not_mem_nil,or_false]at hi;rcases hi with rfl|rfl|rfl
    ·refine⟨_,rfl,?_⟩
     refine aL_ (news:=List.flatMap Ax.cells d) cU_ (db_ a1 42 16) rfl rfl a5 P.1 t_ zF_ (fun v _ h=>by exact h.2.2.2.1.1) (fun u Y=>ak_ Ax.cells_one Y) zs_ zt_ rfl fun Q R K=>?_;refine u_ List.perm_append_comm ?_;have N:aB_ 42 16 Q (List.length (([]:List Ax)++d)) (List.flatMap Ax.cells (([]:List Ax)++d)) R:=by rw[List.length_append,List.flatMap_append];exact K
     refine M_ ?_;refine aq_ rfl ?_;refine w_ zs ?_;refine ct_ 4 10 rfl rfl zk ?_ ?_
     ·refine R_ Q_ ar_ bc_ rfl rfl rfl rfl rfl rfl fun S=>?_
      refine bu_ (List.flatMap Ax.cells [x]) d_ rfl ?_;exact lW_
     refine D_ aS_ rfl fun S=>?_;exact kd_
    ·refine⟨_,rfl,?_⟩
     refine R_ Q_ ar_ bc_ rfl rfl rfl rfl rfl rfl fun S=>?_;refine bu_ (List.flatMap Ax.cells [x]) d_ rfl ?_;refine M_ ?_;refine aq_ rfl ?_;refine w_ zs ?_;refine ct_ 2 10 rfl rfl zk ?_ ?_
     ·refine aL_ (news:=List.flatMap Ax.cells d) cU_ (db_ a1 42 16) rfl rfl a5 P.1 t_ zF_ (fun v _ h=>by exact h.2.2.2.2.1.1) (fun u Y=>ak_ Ax.cells_one Y) zs_ zt_ rfl fun Q R K=>?_
      refine u_ List.perm_append_comm ?_;have N:aB_ 42 16 Q (List.length (([]:List Ax)++d)) (List.flatMap Ax.cells (([]:List Ax)++d)) R:=by rw[List.length_append,List.flatMap_append];exact K
      exact lW_
     refine D_ aS_ rfl fun U=>?_;refine M_ ?_;refine aq_ rfl ?_;refine w_ zs ?_;refine n_ 2 rfl zk ?_;refine aL_ (news:=List.flatMap Ax.cells d) cU_ (db_ a1 42 16) rfl rfl a5 P.1 zp zF_ (fun v _ h=>by exact h.2.2.2.2.1.1) (fun u Y=>ak_ Ax.cells_one Y) zs_ zt_ rfl fun Q R K=>?_;refine u_ List.perm_append_comm ?_;have N:aB_ 42 16 Q (List.length (([]:List Ax)++d)) (List.flatMap Ax.cells (([]:List Ax)++d)) R:=by rw[List.length_append,List.flatMap_append];exact K
     exact lR_
    refine⟨_,rfl,?_⟩;refine D_ aS_ rfl fun S=>?_;refine M_ ?_;refine aq_ rfl ?_;refine w_ zs ?_;refine ct_ 2 4 rfl rfl zk ?_ ?_
    ·refine aL_ (news:=List.flatMap Ax.cells d) cU_ (db_ a1 42 16) rfl rfl a5 P.1 zp zF_ (fun v _ h=>by exact h.2.2.2.1.1) (fun u Y=>ak_ Ax.cells_one Y) zs_ zt_ rfl fun Q R K=>?_
     refine u_ List.perm_append_comm ?_;have N:aB_ 42 16 Q (List.length (([]:List Ax)++d)) (List.flatMap Ax.cells (([]:List Ax)++d)) R:=by rw[List.length_append,List.flatMap_append];exact K
     exact kd_
    refine R_ Q_ ar_ bc_ rfl rfl rfl rfl rfl rfl fun U=>?_;refine bu_ (List.flatMap Ax.cells [x]) d_ rfl ?_;refine M_ ?_;refine aq_ rfl ?_;refine w_ zs ?_;refine n_ 2 rfl zk ?_;refine aL_ (news:=List.flatMap Ax.cells d) cU_ (db_ a1 42 16) rfl rfl a5 P.1 zp zF_ (fun v _ h=>by exact h.2.2.2.2.1.1) (fun u Y=>ak_ Ax.cells_one Y) zs_ zt_ rfl fun Q R K=>?_;refine u_ List.perm_append_comm ?_;have N:aB_ 42 16 Q (List.length (([]:List Ax)++d)) (List.flatMap Ax.cells (([]:List Ax)++d)) R:=by rw[List.length_append,List.flatMap_append];exact K
    exact lY_
   ·refine⟨_,rfl,?_⟩
    refine R_ Q_ ar_ bc_ rfl rfl rfl rfl rfl rfl fun a1=>?_;refine bu_ (List.flatMap Ax.cells [x]) d_ rfl ?_;refine M_ ?_;refine aq_ rfl ?_;refine w_ zs ?_;refine ct_ 0 10 rfl rfl zk ?_ ?_
    ·refine ey_ Q_ ar_ rfl fun S=>?_
     refine u_ d_ ?_;refine M_ ?_;refine aq_ rfl ?_;refine w_ zs ?_;refine ct_ 2 10 rfl rfl zk ?_ ?_
     ·refine aL_ (news:=List.flatMap Ax.cells d) cU_ (db_ S 42 16) rfl rfl a5 P.1 t_ zF_ (fun v _ h=>by exact h.2.2.2.2.1.1) (fun u Y=>ak_ Ax.cells_one Y) zs_ zt_ rfl fun Q R K=>?_
      refine u_ List.perm_append_comm ?_;have N:aB_ 42 16 Q (List.length (([]:List Ax)++d)) (List.flatMap Ax.cells (([]:List Ax)++d)) R:=by rw[List.length_append,List.flatMap_append];exact K
      refine M_ ?_;refine aq_ rfl ?_;refine w_ zs ?_;refine ct_ 5 10 rfl rfl zk ?_ ?_
      ·refine aL_ (news:=List.flatMap Ax.cells [x]) cU_ N rfl rfl (fun q=>by cases q) zC_ zp zS_ zf (fun u Y=>ak_ Ax.cells_one Y) zs_ zt_ rfl fun H F J=>?_
       refine u_ List.perm_append_comm ?_;have G:=zsa J;refine M_ ?_;refine aq_ rfl ?_;refine w_ zs ?_;refine ct_ 6 10 rfl rfl zk ?_ ?_
       ·have E:aB_ 42 16 H (List.length (d++[x])) (List.flatMap Ax.cells (d++[x])) F:=by have q:=G;exact q
        refine aN_ E (c_ B_) fun C V L W X T=>?_;subst L;refine dG_ (Γ':=cu_ C (d++[x])::[V_ C (List.flatMap Ax.cells (d++[x])),V_ (some ⟨a1,0,none⟩) (List.flatMap Ax.cells [x]),er_ m,V_ (some ⟨Z,0,none⟩) (List.flatMap AL.cells [(AL.mk d lad lcap),(AL.mk [x] (some ⟨I,0,none⟩) 1)]),V_ (some ⟨I,0,none⟩) (List.flatMap Ax.cells [x]),cu_ lad d,Ax.memF x,bV_,eX_]) (fun v _ h=>⟨⟨h.1,fun y O=>(List.mem_append.1 O).elim (h.2.2.2.2.2.1.2 y) fun q=>by rw[List.mem_singleton.1 q];exact h.2.2.2.2.2.2.1⟩,h⟩) ?_;exact kh_
       refine D_ aS_ rfl fun U=>?_;exact lX_
      refine D_ aS_ rfl fun U=>?_;exact ki_
     refine D_ aS_ rfl fun U=>?_;refine M_ ?_;refine aq_ rfl ?_;refine w_ zs ?_;refine n_ 2 rfl zk ?_;refine aL_ (news:=List.flatMap Ax.cells d) cU_ (db_ S 42 16) rfl rfl a5 P.1 zp zF_ (fun v _ h=>by exact h.2.2.2.2.1.1) (fun u Y=>ak_ Ax.cells_one Y) zs_ zt_ rfl fun Q R K=>?_;refine u_ List.perm_append_comm ?_;have N:aB_ 42 16 Q (List.length (([]:List Ax)++d)) (List.flatMap Ax.cells (([]:List Ax)++d)) R:=by rw[List.length_append,List.flatMap_append];exact K
     exact ki_
    refine D_ aS_ rfl fun S=>?_;refine M_ ?_;refine aq_ rfl ?_;refine w_ zs ?_;refine n_ 0 rfl zk ?_;refine ey_ Q_ ar_ rfl fun U=>?_;refine u_ d_ ?_;refine M_ ?_;refine aq_ rfl ?_;refine w_ zs ?_;refine n_ 2 rfl zk ?_;refine aL_ (news:=List.flatMap Ax.cells d) cU_ (db_ U 42 16) rfl rfl a5 P.1 t_ zF_ (fun v _ h=>by exact h.2.2.2.2.1.1) (fun u Y=>ak_ Ax.cells_one Y) zs_ zt_ rfl fun Q R K=>?_;refine u_ List.perm_append_comm ?_;have N:aB_ 42 16 Q (List.length (([]:List Ax)++d)) (List.flatMap Ax.cells (([]:List Ax)++d)) R:=by rw[List.length_append,List.flatMap_append];exact K
    refine M_ ?_;refine aq_ rfl ?_;refine w_ (fun _ a b=>⟨Vw.sat.sub (a.perm (f_ (c_ d_) (c_ d_))),b.2⟩) ?_;refine n_ 5 rfl zk ?_;refine aL_ (news:=List.flatMap Ax.cells [x]) cU_ N rfl rfl (fun q=>by cases q) zC_ zp zS_ zf (fun u Y=>ak_ Ax.cells_one Y) zs_ zt_ rfl fun H F J=>?_;refine u_ List.perm_append_comm ?_;have G:=zsa J;refine M_ ?_;refine aq_ rfl ?_;refine w_ (fun _ a b=>⟨Vw.sat.sub (a.perm (f_ (c_ d_) (c_ d_))),b.2⟩) ?_;refine n_ 6 rfl zk ?_;have E:aB_ 42 16 H (List.length (d++[x])) (List.flatMap Ax.cells (d++[x])) F:=by have q:=G;exact q
    refine aN_ E (c_ (c_ B_)) fun C V L W X T=>?_;subst L;refine dG_ (Γ':=cu_ C (d++[x])::[V_ C (List.flatMap Ax.cells (d++[x])),V_ (some ⟨a1,0,none⟩) (List.flatMap Ax.cells [x]),er_ m,V_ (some ⟨Z,0,none⟩) (List.flatMap AL.cells [(AL.mk d lad lcap),(AL.mk [x] (some ⟨I,0,none⟩) 1)]),V_ (some ⟨I,0,none⟩) (List.flatMap Ax.cells [x]),cu_ lad d,Ax.memF x,bV_,eX_]) (fun v _ h=>⟨⟨h.1,fun y O=>(List.mem_append.1 O).elim (h.2.2.2.2.2.1.2 y) fun q=>by rw[List.mem_singleton.1 q];exact h.2.2.2.2.2.2.1⟩,h⟩) ?_;exact lS_
   refine⟨_,rfl,?_⟩;refine D_ aS_ rfl fun a1=>?_;refine M_ ?_;refine aq_ rfl ?_;refine w_ zs ?_;refine ct_ 0 4 rfl rfl zk ?_ ?_
   ·refine ey_ Q_ ar_ rfl fun S=>?_
    refine u_ d_ ?_;refine M_ ?_;refine aq_ rfl ?_;refine w_ zs ?_;refine ct_ 2 4 rfl rfl zk ?_ ?_
    ·refine aL_ (news:=List.flatMap Ax.cells d) cU_ (db_ S 42 16) rfl rfl a5 P.1 t_ zF_ (fun v _ h=>by exact h.2.2.2.1.1) (fun u Y=>ak_ Ax.cells_one Y) zs_ zt_ rfl fun Q R K=>?_
     refine u_ List.perm_append_comm ?_;have N:aB_ 42 16 Q (List.length (([]:List Ax)++d)) (List.flatMap Ax.cells (([]:List Ax)++d)) R:=by rw[List.length_append,List.flatMap_append];exact K
     refine M_ ?_;refine aq_ rfl ?_;refine w_ (fun _ a b=>⟨Vw.sat.sub (a.perm (f_ (c_ d_) (c_ d_))),b⟩) ?_;refine n_ 4 rfl zk ?_;refine R_ Q_ ar_ bc_ rfl rfl rfl rfl rfl rfl fun U=>?_;refine bu_ (List.flatMap Ax.cells [x]) d_ rfl ?_;exact lV_
    refine R_ Q_ ar_ bc_ rfl rfl rfl rfl rfl rfl fun U=>?_;refine bu_ (List.flatMap Ax.cells [x]) d_ rfl ?_;refine M_ ?_;refine aq_ rfl ?_;refine w_ zs ?_;refine n_ 2 rfl zk ?_;refine aL_ (news:=List.flatMap Ax.cells d) cU_ (db_ S 42 16) rfl rfl a5 P.1 t_ zF_ (fun v _ h=>by exact h.2.2.2.2.1.1) (fun u Y=>ak_ Ax.cells_one Y) zs_ zt_ rfl fun Q R K=>?_;refine u_ List.perm_append_comm ?_;have N:aB_ 42 16 Q (List.length (([]:List Ax)++d)) (List.flatMap Ax.cells (([]:List Ax)++d)) R:=by rw[List.length_append,List.flatMap_append];exact K
    exact lV_
   refine R_ Q_ ar_ bc_ rfl rfl rfl rfl rfl rfl fun S=>?_;refine bu_ (List.flatMap Ax.cells [x]) d_ rfl ?_;refine M_ ?_;refine aq_ rfl ?_;refine w_ zs ?_;refine n_ 0 rfl zk ?_;refine ey_ Q_ ar_ rfl fun U=>?_;refine u_ d_ ?_;refine M_ ?_;refine aq_ rfl ?_;refine w_ zs ?_;refine n_ 2 rfl zk ?_;refine aL_ (news:=List.flatMap Ax.cells d) cU_ (db_ U 42 16) rfl rfl a5 P.1 t_ zF_ (fun v _ h=>by exact h.2.2.2.2.1.1) (fun u Y=>ak_ Ax.cells_one Y) zs_ zt_ rfl fun Q R K=>?_;refine u_ List.perm_append_comm ?_;have N:aB_ 42 16 Q (List.length (([]:List Ax)++d)) (List.flatMap Ax.cells (([]:List Ax)++d)) R:=by rw[List.length_append,List.flatMap_append];exact K
   refine M_ ?_;refine aq_ rfl ?_;refine w_ (fun _ a b=>⟨Vw.sat.sub (a.perm (f_ (c_ d_) (c_ d_))),b.2⟩) ?_;refine n_ 5 rfl zk ?_;refine aL_ (news:=List.flatMap Ax.cells [x]) cU_ N rfl rfl (fun q=>by cases q) zC_ zp zS_ zf (fun u Y=>ak_ Ax.cells_one Y) zs_ zt_ rfl fun H F J=>?_;refine u_ List.perm_append_comm ?_;have G:=zsa J;refine M_ ?_;refine aq_ rfl ?_;refine w_ (fun _ a b=>⟨Vw.sat.sub (a.perm (f_ (c_ d_) (c_ d_))),b.2⟩) ?_;refine n_ 6 rfl zk ?_;have E:aB_ 42 16 H (List.length (d++[x])) (List.flatMap Ax.cells (d++[x])) F:=by have q:=G;exact q
   refine aN_ E (c_ (c_ B_)) fun C V L W X T=>?_;subst L;refine dG_ (Γ':=cu_ C (d++[x])::[V_ C (List.flatMap Ax.cells (d++[x])),V_ (some ⟨S,0,none⟩) (List.flatMap Ax.cells [x]),er_ m,V_ (some ⟨Z,0,none⟩) (List.flatMap AL.cells [(AL.mk d lad lcap),(AL.mk [x] (some ⟨I,0,none⟩) 1)]),V_ (some ⟨I,0,none⟩) (List.flatMap Ax.cells [x]),cu_ lad d,Ax.memF x,bV_,eX_]) (fun v _ h=>⟨⟨h.1,fun y O=>(List.mem_append.1 O).elim (h.2.2.2.2.2.1.2 y) fun q=>by rw[List.mem_singleton.1 q];exact h.2.2.2.2.2.2.1⟩,h⟩) ?_;exact lT_
  rintro ⟨⟨a2,k,M⟩,A,B⟩;dsimp only at A B ⊢;refine bC_ [(6,.bool false),(7,zp_ a6 0),(12,zp_ a2 0),(13,.int .i64 M)] zl ?_;refine al_ rfl ?_;refine as_ ?_;refine as_ ?_;refine ad_ ?_;refine e_ (O_ rfl) rfl ?_;refine C_ (cf_ rfl rfl) rfl fun e6 K=>?_;refine M_ ?_;refine al_ rfl ?_;cases e6
  ·replace K:=ee_ K
   obtain⟨g4,b0⟩:=A.bok zB_;have b4:=b0.len zK_;have f6:=hB.le b0 (fun a q=>List.mem_append_left _ q);refine bX_ rfl ?_;refine cR_ ?_;refine al_ rfl ?_;refine as_ ?_;refine as_ ?_;refine ad_ ?_;refine e_ (bh_ aj_ rfl rfl rfl bI_) rfl ?_;refine e_ (aC_ 1 gE_ rfl rfl rfl) rfl ?_;refine e_ (cA_ m_ rfl) rfl ?_;refine e_ (O_ rfl) rfl ?_;refine M_ ?_;refine al_ rfl ?_;refine dP_ ?_;refine P_ (ι:={y:Nat // y≤List.length (Mdl.no m)}) (fun y=>[(6,.bool false),(7,zp_ a6 0),(12,zp_ a2 0),(85,.slice (Mdl.noa m) (List.length (Mdl.no m)) (Mdl.noc m)),(86,.int .i64 (List.length (Mdl.no m):Int)),(87,.int .i64 (y.1:Int))]) (fun y=>((a6,.cells #[.slice (Mdl.noa m) (List.length (Mdl.no m)) (Mdl.noc m),.slice (Mdl.tya m) (List.length (Mdl.ty m)) (Mdl.tyc m),.slice (Mdl.lia m) (List.length (Mdl.li m)) (Mdl.lic m),.slice (Mdl.dia m) (List.length (Mdl.di m)) (Mdl.dic m),.slice (Mdl.raa m) (List.length (Mdl.ra m)) (Mdl.rac m),.slice (Mdl.roa m) (List.length (Mdl.ro m)) (Mdl.roc m)] 28 (0,0))::((a2,.cells #[.slice (Mdl.noa k) (List.length (Mdl.no k)) (Mdl.noc k),.slice (Mdl.tya k) (List.length (Mdl.ty k)) (Mdl.tyc k),.slice (Mdl.lia k) (List.length (Mdl.li k)) (Mdl.lic k),.slice (Mdl.dia k) (List.length (Mdl.di k)) (Mdl.dic k),.slice (Mdl.raa k) (List.length (Mdl.ra k)) (Mdl.rac k),.slice (Mdl.roa k) (List.length (Mdl.ro k)) (Mdl.roc k)] 28 (0,0))::[]))) (fun y=>[er_ k,er_ m,V_ (some ⟨Z,0,none⟩) (List.flatMap AL.cells [(AL.mk d lad lcap),(AL.mk [x] (some ⟨I,0,none⟩) 1)]),V_ (some ⟨I,0,none⟩) (List.flatMap Ax.cells [x]),cu_ lad d,Ax.memF x,bV_,eX_]) (fun y=>List.length (Mdl.no m) - y.1) ⟨(0:Nat),by simp⟩ zl zp zh ?_;rintro ⟨p,f8⟩;dsimp only at f8 ⊢;refine as_ ?_;refine ad_ ?_;refine C_ (cv_ rfl rfl) rfl fun g3 J=>?_;refine M_ ?_;refine al_ rfl ?_;refine as_ ?_;cases g3
   ·replace J:=zdf J
    refine bX_ rfl ?_;refine hh_ rfl ?_;refine al_ rfl ?_;refine as_ ?_;refine fh_ (ι:={y:Nat×Nat // True}) (fun y=>[(6,.bool false),(7,zp_ a6 0),(12,zp_ a2 0),(85,.slice (Mdl.noa m) (List.length (Mdl.no m)) (Mdl.noc m)),(86,.int .i64 (List.length (Mdl.no m):Int)),(87,.int .i64 (p:Int)),(16,.slice (some ⟨y.1.1,0,none⟩) (List.length (Mdl.fls m)) 5),(17,.slice (some ⟨y.1.2,0,none⟩) (List.length (Mdl.fls k)) 5)]) (fun y=>((a6,.cells #[.slice (Mdl.noa m) (List.length (Mdl.no m)) (Mdl.noc m),.slice (Mdl.tya m) (List.length (Mdl.ty m)) (Mdl.tyc m),.slice (Mdl.lia m) (List.length (Mdl.li m)) (Mdl.lic m),.slice (Mdl.dia m) (List.length (Mdl.di m)) (Mdl.dic m),.slice (Mdl.raa m) (List.length (Mdl.ra m)) (Mdl.rac m),.slice (Mdl.roa m) (List.length (Mdl.ro m)) (Mdl.roc m)] 28 (0,0))::((a2,.cells #[.slice (Mdl.noa k) (List.length (Mdl.no k)) (Mdl.noc k),.slice (Mdl.tya k) (List.length (Mdl.ty k)) (Mdl.tyc k),.slice (Mdl.lia k) (List.length (Mdl.li k)) (Mdl.lic k),.slice (Mdl.dia k) (List.length (Mdl.di k)) (Mdl.dic k),.slice (Mdl.raa k) (List.length (Mdl.ra k)) (Mdl.rac k),.slice (Mdl.roa k) (List.length (Mdl.ro k)) (Mdl.roc k)] 28 (0,0))::[]))) (fun y=>[V_ (some ⟨y.1.1,0,none⟩) (List.flatMap FL.cells (Mdl.fls m)),V_ (some ⟨y.1.2,0,none⟩) (List.flatMap FL.cells (Mdl.fls k)),er_ k,er_ m,V_ (some ⟨Z,0,none⟩) (List.flatMap AL.cells [(AL.mk d lad lcap),(AL.mk [x] (some ⟨I,0,none⟩) 1)]),V_ (some ⟨I,0,none⟩) (List.flatMap Ax.cells [x]),cu_ lad d,Ax.memF x,bV_,eX_]) ?_ ?_
    ·refine jg_ zk ?_
     refine G_ 4 [0,1,2,3,4,5,6,7,8,9,11,12,13,14,15,16,17,18,19,20] zk zs ?_;refine z_ rfl (bh_ aj_ rfl rfl rfl aH_) rfl ?_;refine z_ rfl (aC_ 0 cV_ rfl rfl rfl) rfl ?_;refine z_ rfl (bh_ aj_ rfl rfl rfl aH_) rfl ?_;refine z_ rfl (aC_ 0 cV_ rfl rfl rfl) rfl ?_;refine z_ rfl (bh_ aj_ rfl rfl rfl aH_) rfl ?_;refine z_ rfl (aC_ 0 cV_ rfl rfl rfl) rfl ?_;refine z_ rfl (bh_ aj_ rfl rfl rfl aH_) rfl ?_;refine z_ rfl (aC_ 0 cV_ rfl rfl rfl) rfl ?_;refine z_ rfl (bh_ aj_ rfl rfl rfl aH_) rfl ?_;refine z_ rfl (aC_ 0 cV_ rfl rfl rfl) rfl ?_;refine z_ rfl (bh_ aj_ rfl rfl rfl aH_) rfl ?_;refine z_ rfl (aC_ 1 cV_ rfl rfl rfl) rfl ?_;refine z_ rfl (bh_ aj_ rfl rfl rfl aH_) rfl ?_;refine z_ rfl (aC_ 1 cV_ rfl rfl rfl) rfl ?_;refine z_ rfl (bh_ aj_ rfl rfl rfl aH_) rfl ?_;refine z_ rfl (aC_ 1 cV_ rfl rfl rfl) rfl ?_;refine z_ rfl (bh_ aj_ rfl rfl rfl aH_) rfl ?_;refine z_ rfl (aC_ 1 cV_ rfl rfl rfl) rfl ?_;refine z_ rfl (bh_ aj_ rfl rfl rfl aH_) rfl ?_;refine z_ rfl (aC_ 1 cV_ rfl rfl rfl) rfl ?_;refine aZ_ ?_;refine ct_ 10 21 rfl rfl zk ?_ ?_
     ·refine R_ bk_ aH_ ci_ rfl rfl rfl rfl rfl rfl fun a1=>?_
      refine bu_ (List.flatMap FL.cells (Mdl.fls m)) d_ rfl ?_;refine M_ ?_;refine aq_ rfl ?_;refine w_ zs ?_;refine G_ 2 [22] zk zs ?_;refine z_ rfl (an_ rfl) rfl ?_;refine aZ_ ?_;refine n_ 21 rfl zk ?_;refine R_ bk_ aH_ ci_ rfl rfl rfl rfl rfl rfl fun S=>?_;refine bu_ (List.flatMap FL.cells (Mdl.fls k)) d_ rfl ?_;refine M_ ?_;refine aq_ rfl ?_;refine w_ zs ?_;refine G_ 0 [23] zk zs ?_;refine z_ rfl (an_ rfl) rfl ?_;refine aZ_ ?_;refine eI_ zk ?_;refine fL_ rfl ?_;exact bZ_ ⟨(a1,S),trivial⟩ zl zp zf
     refine R_ bk_ aH_ ci_ rfl rfl rfl rfl rfl rfl fun a1=>?_;refine bu_ (List.flatMap FL.cells (Mdl.fls k)) d_ rfl ?_;refine M_ ?_;refine aq_ rfl ?_;refine w_ zs ?_;refine n_ 10 rfl zk ?_;refine R_ bk_ aH_ ci_ rfl rfl rfl rfl rfl rfl fun S=>?_;refine bu_ (List.flatMap FL.cells (Mdl.fls m)) d_ rfl ?_;refine M_ ?_;refine aq_ rfl ?_;refine w_ zs ?_;refine G_ 0 [22,23] zk zs ?_;refine z_ rfl (an_ rfl) rfl ?_;refine z_ rfl (an_ rfl) rfl ?_;refine aZ_ ?_;refine eI_ zk ?_;refine fL_ rfl ?_;exact bZ_ ⟨(S,a1),trivial⟩ zl zp zf
    rintro ⟨⟨a8,a7⟩,_⟩;dsimp only;refine bC_ [(6,.bool false),(7,zp_ a6 0),(12,zp_ a2 0),(85,.slice (Mdl.noa m) (List.length (Mdl.no m)) (Mdl.noc m)),(86,.int .i64 (List.length (Mdl.no m):Int)),(87,.int .i64 (p:Int)),(16,.slice (some ⟨a8,0,none⟩) (List.length (Mdl.fls m)) 5),(17,.slice (some ⟨a7,0,none⟩) (List.length (Mdl.fls k)) 5)] zl ?_;refine al_ rfl ?_;refine as_ ?_;refine as_ ?_;refine ad_ ?_;refine e_ (O_ rfl) rfl ?_;refine e_ (cA_ bk_ rfl) rfl ?_;refine e_ (O_ rfl) rfl ?_;refine M_ ?_;refine al_ rfl ?_;refine dP_ ?_;have h3:(Mdl.fls m).length=5:=rfl;have g7:=fls_at f6 ⟨b0.asm.ty.1,b0.asm.li.1,b0.asm.di.1,b0.asm.ra.1,b0.inc.1⟩ ⟨b4.2.1,b4.2.2.1,b4.2.2.2.1,b4.2.2.2.2.1,b4.2.2.2.2.2⟩ ⟨b7.2.1,b7.2.2.1,b7.2.2.2.1,b7.2.2.2.2.1,b7.2.2.2.2.2⟩;refine P_ (ι:={y:Nat // y≤List.length (Mdl.fls m)}) (fun y=>[(6,.bool false),(7,zp_ a6 0),(12,zp_ a2 0),(85,.slice (Mdl.noa m) (List.length (Mdl.no m)) (Mdl.noc m)),(86,.int .i64 (List.length (Mdl.no m):Int)),(87,.int .i64 (p:Int)),(16,.slice (some ⟨a8,0,none⟩) (List.length (Mdl.fls m)) 5),(17,.slice (some ⟨a7,0,none⟩) (List.length (Mdl.fls k)) 5),(120,.int .i64 (List.length (Mdl.fls m):Int)),(121,.int .i64 (y.1:Int))]) (fun y=>([])) (fun y=>[V_ (some ⟨a8,0,none⟩) (List.flatMap FL.cells (Mdl.fls m)),V_ (some ⟨a7,0,none⟩) (List.flatMap FL.cells (Mdl.fls k)),er_ k,er_ m,V_ (some ⟨Z,0,none⟩) (List.flatMap AL.cells [(AL.mk d lad lcap),(AL.mk [x] (some ⟨I,0,none⟩) 1)]),V_ (some ⟨I,0,none⟩) (List.flatMap Ax.cells [x]),cu_ lad d,Ax.memF x,bV_,eX_]) (fun y=>List.length (Mdl.fls m) - y.1) ⟨(0:Nat),by simp⟩ zl l_ zh ?_;rintro ⟨q,f9⟩;dsimp only at f9 ⊢;refine as_ ?_;refine ad_ ?_;refine C_ (cv_ rfl rfl) rfl fun e8 a9=>?_;refine M_ ?_;refine al_ rfl ?_;refine as_ ?_;cases e8
    ·replace a9:=zdf a9
     refine bX_ rfl ?_;refine hh_ rfl ?_;refine al_ rfl ?_;exact kg_
    replace a9:=zdt a9;have e0:q<List.length (Mdl.fls m):=by omega
    obtain⟨b1,d2⟩:∃ d8,(Mdl.fls m)[q]? = some d8:=⟨_,List.getElem?_eq_getElem e0⟩;have d9:b1∈(Mdl.fls m):=List.mem_of_getElem? d2;have e7:q<List.length (Mdl.fls k):=(by have h_3:(Mdl.fls m).length=5:=rfl;have h_4:(Mdl.fls k).length=5:=rfl;omega);obtain⟨d5,d3⟩:∃ d8,(Mdl.fls k)[q]? = some d8:=⟨_,List.getElem?_eq_getElem e7⟩;have e9:d5∈(Mdl.fls k):=List.mem_of_getElem? d3;obtain⟨f3,f4,h1,h2⟩:=g7 q b1 d5 d2 d3;refine bE_ rfl ?_;refine cR_ ?_;refine al_ rfl ?_;refine as_ ?_;refine dP_ ?_;refine as_ ?_;refine ad_ ?_;refine e_ (O_ rfl) rfl ?_;refine e_ (an_ rfl) rfl ?_;refine M_ ?_;refine al_ rfl ?_;refine as_ ?_;refine ad_ ?_;refine e_ (O_ rfl) rfl ?_;refine e_ (O_ rfl) rfl ?_;refine e_ (U_ bk_ aH_ rfl rfl (fun v _ h=>aE_ (n:=1) FL.cells_len zx_ (by exact h.1) d2) zr_ zA_) rfl ?_;refine e_ (bt_ (ad:=(some ⟨a8,0,none⟩)) cV_ rfl zf (p_ FL.cells_len d2 0 _ rfl)) rfl ?_;refine e_ (cA_ A_ rfl) rfl ?_;refine e_ (O_ rfl) rfl ?_;refine M_ ?_;refine al_ rfl ?_;refine dP_ ?_;refine P_ (ι:={y:Nat // y≤List.length (FL.l b1)}) (fun y=>[(6,.bool false),(7,zp_ a6 0),(12,zp_ a2 0),(85,.slice (Mdl.noa m) (List.length (Mdl.no m)) (Mdl.noc m)),(86,.int .i64 (List.length (Mdl.no m):Int)),(87,.int .i64 (p:Int)),(16,.slice (some ⟨a8,0,none⟩) (List.length (Mdl.fls m)) 5),(17,.slice (some ⟨a7,0,none⟩) (List.length (Mdl.fls k)) 5),(120,.int .i64 (List.length (Mdl.fls m):Int)),(121,.int .i64 (q:Int)),(18,.int .i64 (q:Int)),(127,.slice (FL.ad b1) (List.length (FL.l b1)) (FL.cap b1)),(128,.int .i64 (List.length (FL.l b1):Int)),(129,.int .i64 (y.1:Int))]) (fun y=>([])) (fun y=>[V_ (some ⟨a8,0,none⟩) (List.flatMap FL.cells (Mdl.fls m)),V_ (some ⟨a7,0,none⟩) (List.flatMap FL.cells (Mdl.fls k)),er_ k,er_ m,V_ (some ⟨Z,0,none⟩) (List.flatMap AL.cells [(AL.mk d lad lcap),(AL.mk [x] (some ⟨I,0,none⟩) 1)]),V_ (some ⟨I,0,none⟩) (List.flatMap Ax.cells [x]),cu_ lad d,Ax.memF x,bV_,eX_]) (fun y=>List.length (FL.l b1) - y.1) ⟨(0:Nat),by simp⟩ zl l_ zh ?_;rintro ⟨w,g0⟩;dsimp only at g0 ⊢;refine as_ ?_;refine ad_ ?_;refine C_ (cv_ rfl rfl) rfl fun g2 d1=>?_;refine M_ ?_;refine al_ rfl ?_;refine as_ ?_;cases g2
    ·replace d1:=zdf d1
     refine bX_ rfl ?_;refine hh_ rfl ?_;refine al_ rfl ?_;refine ad_ ?_;refine e_ (bj_ rfl rfl rfl (ce_ zr_ zr_)) rfl ?_;refine e_ (O_ rfl) rfl ?_;refine M_ ?_;refine aq_ rfl ?_;exact y_ ⟨q+1,e0⟩ zu_ zl l_ zh
    replace d1:=zdt d1;have d6:w<List.length (FL.l b1):=by omega
    obtain⟨e3,d7⟩:∃ d8,(FL.l b1)[w]? = some d8:=⟨_,List.getElem?_eq_getElem d6⟩;have f0:e3∈(FL.l b1):=List.mem_of_getElem? d7;refine bE_ rfl ?_;refine cR_ ?_;refine al_ rfl ?_;refine as_ ?_;refine dP_ ?_;refine as_ ?_;refine ad_ ?_;refine e_ (U_ A_ E_ rfl rfl (fun v _ h=>aE_ (n:=6) Fc.cells_len zx_ (by exact ((Mdl.flsF h.2.2.2.1) b1 d9)) d7) zr_ zA_) rfl ?_;refine e_ (au_ (ad:=(FL.ad b1)) (us:=Fc.cells e3) bH_ E_ rfl (fun v _ h=>by exact ((Mdl.flsF h.2.2.2.1) b1 d9)) (Fc.cells_len _) (p_ Fc.cells_len d7)) rfl ?_;refine D_ ae_ rfl fun a1=>?_;refine x_ 0 E_ rfl rfl rfl rfl rfl rfl ?_;refine M_ ?_;refine al_ rfl ?_;refine as_ ?_;refine jg_ zk ?_;refine G_ 2 [0,1,2,3,4] zk zs ?_;refine z_ rfl (O_ rfl) rfl ?_;refine z_ rfl (O_ rfl) rfl ?_;refine z_ rfl (U_ bk_ aH_ rfl rfl (fun v _ h=>aE_ (n:=1) FL.cells_len zx_ (by exact h.2.1) d3) zr_ zA_) rfl ?_;refine z_ rfl (bt_ (ad:=(some ⟨a7,0,none⟩)) cV_ rfl zf (p_ FL.cells_len d3 0 _ rfl)) rfl ?_;refine z_ rfl (bs_ 0 bH_ E_ rfl rfl rfl) rfl ?_;refine aZ_ ?_;refine n_ 5 rfl zk ?_;refine T_ (has_c (FL.l d5) (FL.ad d5) (FL.cap d5) e3 zr_ f4) rfl l_ (fun v _ h=>by exact⟨((Mdl.flsF h.2.2.1) d5 e9),trivial⟩) rfl fun g6 d0=>?_;refine M_ ?_;refine aq_ rfl ?_;refine w_ zs ?_;refine G_ 0 [6] zk zs ?_;refine z_ rfl (aJ_ rfl) rfl ?_;refine aZ_ ?_;refine eI_ zk ?_;refine al_ rfl ?_;cases g6
    ·replace d0:=zdf d0
     exact absurd (f3 e3 f0) d0
    replace d0:=zdt d0;refine bX_ rfl ?_;refine cR_ ?_;refine al_ rfl ?_;refine ad_ ?_;refine e_ (bj_ rfl rfl rfl (ce_ zr_ zr_)) rfl ?_;refine e_ (O_ rfl) rfl ?_;refine M_ ?_;refine aq_ rfl ?_;exact y_ ⟨w+1,d6⟩ zu_ zl l_ zh
   replace J:=zdt J;obtain⟨e5,g1,e4,f1⟩:=zge (show p<List.length (Mdl.no m) by omega);refine bE_ rfl ?_;refine cR_ ?_;refine al_ rfl ?_;refine as_ ?_;refine dP_ ?_;refine as_ ?_;refine ad_ ?_;refine e_ (U_ m_ H_ rfl rfl (fun v _ h=>aE_ (n:=1) aw_ zx_ (by exact h.2.1.1) e4) zr_ zA_) rfl ?_;refine e_ (bt_ (ad:=(Mdl.noa m)) ab_ rfl (fun v _ h=>by exact h.2.1.1) (p_ aw_ e4 0 _ rfl)) rfl ?_;refine e_ (an_ rfl) rfl ?_;refine M_ ?_;refine al_ rfl ?_;refine as_ ?_;refine ad_ ?_;refine e_ (bh_ aj_ rfl rfl rfl bI_) rfl ?_;refine e_ (aC_ 1 gE_ rfl rfl rfl) rfl ?_;refine e_ (O_ rfl) rfl ?_;refine T_ (wb_ (Mdl.no k) (Mdl.noa k) (Mdl.noc k) g1 zr_) rfl l_ (fun v _ h=>by exact⟨h.1.1,trivial⟩) rfl fun e8 a9=>?_;refine e_ (aJ_ rfl) rfl ?_;refine M_ ?_;refine al_ rfl ?_;cases e8
   ·replace a9:=zdf a9
    exact absurd (f6.no g1 f1) a9
   replace a9:=zdt a9;refine bX_ rfl ?_;refine cR_ ?_;refine al_ rfl ?_;refine ad_ ?_;refine e_ (bj_ rfl rfl rfl (ce_ zr_ zr_)) rfl ?_;refine e_ (O_ rfl) rfl ?_;refine M_ ?_;refine aq_ rfl ?_;exact y_ ⟨p+1,e5⟩ zu_ zl zp zh
  replace K:=ed_ K;exact gd_
 replace b5:=ed_ b5;exact gd_
end Go.Proofs.YtpbnmnfdgckaiaaGreatDoor
namespace Go.Proofs.YtpbnmnfdgckaiaaGreatDoor
open Go Go.Sx Go.Proofs
attribute [local irreducible] Code.wp wpList wpAnyH
open Go.Vs Go.ChangeShapes Go.WideShapes Go.ChangeAt Go.RowKit
theorem own:ownKnob Tryz.prog.godebug=none:=by kernel_rfl
def gS_ : List (String × DataW Unit) := [("math/bits.deBruijn32tab", Rows.laid_math_bits_deBruijn32tab), ("math/bits.deBruijn64tab", Rows.laid_math_bits_deBruijn64tab), ("internal/strconv.uint64pow10", Rows.laid_internal_strconv_uint64pow10), ("unicode/utf8.acceptRanges", Rows.laid_unicode_utf8_acceptRanges), ("veilstone/terms.needs", Rows.laid_veilstone_terms_needs), ("veilstone/terms.uses", Rows.laid_veilstone_terms_uses), ("veilstone/normal.uses", Rows.laid_veilstone_normal_uses), ("unicode/utf8.first", Rows.laid_unicode_utf8_first)]
theorem wh_:Kids Tryz.prog (·<Tryz.prog.types.size):=kids_rows zw_ zw_
theorem full:∀ t e,t<Tryz.prog.types.size→Tryz.prog.underlying t=some (.slice e)→0<Tryz.prog.cellsOf e:=slices_full_of _ zw_
theorem nN_:Tryz.prog.types.size=322:=by kernel_rfl
theorem tysX:Tys Tryz.prog 3 4 9 25 40 38 42 22 174 63 where
  i:=s_
  b:=Tryz.underlying4
  s:=aT_
  ss:=iy_
  c:=⟨_,Tryz.underlying40,rfl⟩
  cs:=Tryz.underlying38
  a:=⟨_,Tryz.underlying42,rfl⟩
  axs:=Tryz.underlying22
  p:=⟨_,fx_,rfl⟩
  ps:=Tryz.underlying63
  ci:=by kernel_rfl
  cb:=by kernel_rfl
  cs1:=by kernel_rfl
  css:=by kernel_rfl
  cc:=by kernel_rfl
  ccs:=by kernel_rfl
  ca:=by kernel_rfl
  cp:=by kernel_rfl
  bs:=by kernel_rfl
  bc:=by kernel_rfl
  ba:=by kernel_rfl
  bp:=by kernel_rfl
theorem mu_ {W:World} (h:laidMetH Tryz.prog gS_ W):∃ T fz,W.heap[1]? = some (.cells (fA_ (H:=Unit) Rows.laid_veilstone_terms_needs).toArray T fz):=by
  rw[MakeChecks.laidMetH_plain _ _ _ zk]at h;exact kp_ wh_ (name := "veilstone/terms.needs") h (by simp [gS_]) (g := 1) (t := 201) zk zk (by rw [nN_]; decide) (m := 4) zk
theorem nh_ {W:World} (h:laidMetH Tryz.prog gS_ W):∃ T fz,W.heap[0]? = some (.cells (fA_ (H:=Unit) Rows.laid_veilstone_terms_uses).toArray T fz):=by
  rw[MakeChecks.laidMetH_plain _ _ _ zk]at h;exact kp_ wh_ (name := "veilstone/terms.uses") h (by simp [gS_]) (g := 0) (t := 96) zk zk (by rw [nN_]; decide) (m := 4) zk
theorem mv_ {W:World} (h:laidMetH Tryz.prog gS_ W):∃ T fz,W.heap[2]? = some (.cells (fA_ (H:=Unit) Rows.laid_veilstone_normal_uses).toArray T fz):=by
  rw[MakeChecks.laidMetH_plain _ _ _ zk]at h;exact kp_ wh_ (name := "veilstone/normal.uses") h (by simp [gS_]) (g := 2) (t := 205) zk zk (by rw [nN_]; decide) (m := 4) zk
theorem he_ {W:World} (h:laidMetH Tryz.prog gS_ W):∃ T fz,W.heap[6]? = some (.cells (fA_ (H:=Unit) Rows.laid_internal_strconv_uint64pow10).toArray T fz):=by
  rw[MakeChecks.laidMetH_plain _ _ _ zk]at h;exact kp_ wh_ (name := "internal/strconv.uint64pow10") h (by simp [gS_]) (g := 6) (t := 305) zk zk (by rw [nN_]; decide) (m := 4) zk
theorem pE_ {W:World} {g:Nat} {l:List Value} {d:List Value} (h:∃ T fz,W.heap[g]? = some (.cells l.toArray T fz)) (e:l=d):bz_ (vw W) (some ⟨g,0,none⟩) d:=by
  obtain⟨T,fz,h⟩:=h;subst e;exact .inr ⟨g,0,_,T,fz,rfl,(Array.getElem?_eq_some_iff.1 h).1,h,fun j x k=>by rw[Nat.zero_add];simpa using k⟩
theorem xr_ {W:World} (h:laidMetH Tryz.prog gS_ W):bV_.p (vw W):=by
  refine⟨pE_ (mu_ h) zk,pE_ (nh_ h) zk,trivial,?_⟩;obtain⟨T,fz,d⟩:=he_ h;refine⟨trivial,(Array.getElem?_eq_some_iff.1 d).1,T,fz,?_⟩;rw[show (Lib.pow10Tab.map fun z=>Value.int .u64 z)=fA_ (H:=Unit) Rows.laid_internal_strconv_uint64pow10 by kernel_rfl];exact d
theorem xs_ {W:World} (h:laidMetH Tryz.prog gS_ W):eX_.p (vw W):=pE_ (mv_ h) zw_
end Go.Proofs.YtpbnmnfdgckaiaaGreatDoor
namespace Go.Proofs.YtpbnmnfdgckaiaaGreatDoor
open Go Go.Sx Go.Proofs
attribute [local irreducible] Code.wp wpList wpAnyH
open Go.Vs Go.ChangeShapes Go.WideShapes Go.ChangeAt Go.RowKit
theorem vA_ {H:Type} {enc:TypeId×Value→H} {P:Program} {W:World} {y A:TypeId} (B:P.underlying y=some (.slice A)) {n:Nat} {ad:Option Addr} {len cap:Nat} {x:DataW H×List MemPlace} (h:DataW.trod enc P W 0 (fun _=>true) true n y [.slice ad len cap]=some x):ad=none→cap=0:=by
 intro e;subst e;rcases DataW.trod_slice B h with⟨q,_⟩|⟨a,l,c,k,rest,m,C,q,_⟩
 ·cases q;rfl
 cases q
section
variable {H:Type} {enc:TypeId×Value→H} {P:Program} {W:World} {tI tB tS tSs tC tCs tA tAs tP tPs:TypeId} (X:Tys P tI tB tS tSs tC tCs tA tAs tP tPs) {base:Nat} {v:Value} {d:DataW H} {ps:List MemPlace}
include X
theorem yV_ (k:Value.okWide P W .any base tAs v) (h:DataW.Trod enc P W 0 (fun _=>true) true tAs v d ps) (E:wok (d.weights P tAs)) :
    ∃ (l:List Ax) (ad:Option Addr) (cap:Nat),v=.slice ad l.length cap∧(cu_ ad l).p (vw W)∧(∀ y∈l,y.ok)∧l.length≤cap∧cap≤2199023255488∧(ad=none→cap=0):=by
  obtain⟨a,len,cap,rfl⟩:=okWide_slice X.axs k;obtain⟨n,C⟩:=h;obtain⟨l,ad,m,e,A,B,q,x⟩:=axs_of X C E;have z:=vA_ X.axs (e▸C);simp only[Value.cells,List.cons.injEq,and_true]at e;exact⟨l,ad,m,e,A,B,q,x,z⟩
end
end Go.Proofs.YtpbnmnfdgckaiaaGreatDoor
