/-
  Lemmas for the law CanonTells (no condition).
-/
import Derived.Test.YtbffkokbdeppaaaGreatDoorQCanonTells15
import Derived.Test.YtbffkokbdeppaaaGreatDoorRows
import Derived.Shelf.SlSortCmp.NoneTotal
import Derived.Test.YtbffkokbdeppaaaGreatDoorProg
set_option linter.unusedVariables false
set_option linter.unusedSimpArgs false
set_option linter.unusedSectionVars false
set_option maxHeartbeats 1000000
namespace Go.Proofs.YtbffkokbdeppaaaGreatDoor
open Go Go.Sx Go.Proofs Tryz
attribute [local irreducible] Code.wp wpList wpAnyH
open Go.Vs Go.Shelf Go.RowKit
structure Mdl where
  no:List Str
  noa:Ao
  noc:Nat
  ty:List Fc
  tya:Ao
  tyc:Nat
  li:List Fc
  lia:Ao
  lic:Nat
  di:List Fc
  dia:Ao
  dic:Nat
  ra:List Fc
  raa:Ao
  rac:Nat
  ro:List Fc
  roa:Ao
  roc:Nat
def Mdl.cells (m:Mdl):List Value:=[.slice m.noa m.no.length m.noc,.slice m.tya m.ty.length m.tyc,.slice m.lia m.li.length m.lic,.slice m.dia m.di.length m.dic,.slice m.raa m.ra.length m.rac,.slice m.roa m.ro.length m.roc]
def Mdl.val (m:Mdl):Value:=.agg #[.slice m.noa m.no.length m.noc,.slice m.tya m.ty.length m.tyc,.slice m.lia m.li.length m.lic,.slice m.dia m.di.length m.dic,.slice m.raa m.ra.length m.rac,.slice m.roa m.ro.length m.roc]
def pm_ (m:Mdl):Fct where
  p v:=bG_ v m.noa (m.no.flatMap al_)/\bG_ v m.tya (m.ty.flatMap Fc.cells)/\bG_ v m.lia (m.li.flatMap Fc.cells)/\bG_ v m.dia (m.di.flatMap Fc.cells)/\bG_ v m.raa (m.ra.flatMap Fc.cells)/\bG_ v m.roa (m.ro.flatMap Fc.cells)
  mono:=λv v' h hp=>⟨(ac_ m.noa (m.no.flatMap al_)).mono v v' h hp.1,(ac_ m.tya (m.ty.flatMap Fc.cells)).mono v v' h hp.2.1,(ac_ m.lia (m.li.flatMap Fc.cells)).mono v v' h hp.2.2.1,(ac_ m.dia (m.di.flatMap Fc.cells)).mono v v' h hp.2.2.2.1,(ac_ m.raa (m.ra.flatMap Fc.cells)).mono v v' h hp.2.2.2.2.1,(ac_ m.roa (m.ro.flatMap Fc.cells)).mono v v' h hp.2.2.2.2.2⟩
structure Mdl.ok (m:Mdl):Prop where
  no:m.no.length<=9223372036854775807
  ty:m.ty.length<=9223372036854775807
  li:m.li.length<=9223372036854775807
  di:m.di.length<=9223372036854775807
  ra:m.ra.length<=9223372036854775807
  ro:m.ro.length<=9223372036854775807
def Mdl.nil:Mdl:=⟨[],none,0,[],none,0,[],none,0,[],none,0,[],none,0,[],none,0⟩
theorem Mdl.nil_ok:Mdl.nil.ok:=⟨by decide,by decide,by decide,by decide,by decide,by decide⟩
def tC_ (ls:List Ax) (m:Mdl) (e:Int):Prop :=
  (e=0/\(∀ x∈ls,x.check=0)/\¬ rK_ (cX_ ls)/\∃ c,dF_ (bL_ 0 ls) 1073741824 c 0/\AsmR (bL_ 0 ls) c m.no m.ty m.li m.di m.ra/\Cn_ ls m.ro)\/
  (e≠0/\m=Mdl.nil/\((∃ x∈ls,x.check≠0)\/rK_ (cX_ ls)\/((∀ x∈ls,x.check=0)/\∃ c,dF_ (bL_ 0 ls) 1073741824 c e)))
theorem rlR_e {l:List Ax} {e:Int} (h:RlR l e) (d:e≠0):rK_ (cX_ l):=by
 rcases h with⟨h,_⟩|⟨_,h⟩
 .exact absurd h d
 exact h
theorem Cs_ {l:List Ax} {e:Int} (h:RlR l e) (d:e=0):¬ rK_ (cX_ l):=by
 rcases h with⟨_,h⟩|⟨h,_⟩
 .exact h
 omega
theorem yy_ (l:List Ax) (ad:Ao) (cap:Nat) (e:l.length<=12) (d:∀ x∈l,x.ok) (m:∀ x∈l,x.check=0) :
    Tri prog 66 #[.slice ad l.length cap] [] [cG_ ad l,bN_] (λy:{y:Ao×Nat // (bL_ 0 l).length<=y.2/\y.2<=maxLen/\(y.1=none->y.2=0)}=>.tuple #[.slice y.1.1 (bL_ 0 l).length y.1.2,iv_ 0]) (λ_=>[]) (λy=>[ac_ y.1.1 ((bL_ 0 l).flatMap Pc.cells)]):=by
  have h:=pQ_ l ad cap zaa_ d;rw[oi_ e m]at h;exact h
theorem Cd_ (p:List Pc):SrS (atS p):=pe_ p
theorem tM_:gp_ prog 52 [(0,1),(1,1),(2,1),(3,1),(4,1),(5,1)] [.slice none 0 0,.slice none 0 0,.slice none 0 0,.slice none 0 0,.slice none 0 0,.slice none 0 0]:=⟨_,jX_,dx_,λw=>by simp[bP_,cq_]⟩
theorem rF_ (d:List Ax) (lad:Ao) (lcap:Nat) (E:∀ x∈d,x.ok) (h12:d.length<=12):Tri prog 24 #[.slice lad d.length lcap] [] [cG_ lad d,bN_,hx_] (λy:{y:Mdl×Int // tC_ d y.1 y.2/\y.1.ok}=>.tuple #[y.1.1.val,iv_ y.1.2]) (λ_=>[]) (λy=>[pm_ y.1.1]):=by
 refine i_ func24 rfl rfl ntmps24 rfl λv_1=>?_;refine Zz 2 ?_;refine x_ jX_ rfl λa0=>Zz 12 ?_
 refine H_ (ι:={y:Nat // y<=List.length d/\(∀ z∈List.take y d,Ax.check z=0)}) (λy=>[(0,.slice lad d.length lcap),(2,zp_ a0 0),(9,.slice lad d.length lcap),(10,iv_ (List.length d:Int)),(11,iv_ y.1)]) (λy=>((a0,.cells #[.slice none 0 0,.slice none 0 0,.slice none 0 0,.slice none 0 0,.slice none 0 0,.slice none 0 0] 52 (0,0))::[])) (λy=>[cG_ lad d,bN_,hx_]) (λy=>d.length - y.1) ⟨(0:Nat),by simp,zaj_⟩ zl d_ zh ?_;rintro ⟨i,a4,F⟩;dsimp only at a4 F ⊢;refine Zi 2 (λa2=>?_) λa2=>?_
 .have Q:∀ x∈d,Ax.check x=0:=λx hx=>F x (by rw[yab_ zaa_];exact hx)
  refine Zz 10 ?_;refine f_ (pM_ d lad lcap E Q zaa_) rfl g_ zf rfl λ⟨⟨gv,V⟩,T⟩=>?_;dsimp only;dsimp only at T;refine Zi 9 (λH=>?_) λH=>?_
  .have a3:V=0:=by assumption
   refine Zz 8 ?_;refine f_ (yy_ d lad lcap h12 E Q) rfl g_ zf rfl λ⟨⟨X,I⟩,hpc⟩=>?_;dsimp only;dsimp only at hpc;have hfl:=kX_ 0 d Q;refine Zz 11 ?_;refine e_ (ao_ (cg_ rfl rfl) (show _=Value.bool false from yae_ Value.bool zae_)) rfl (Zz 8 ?_);refine f_ (CC_ (bL_ 0 d) X I 1073741824 (λz hz=>(kY_ d 0 zaa_ E Q z hz).2.2.1) zaa_) rfl g_ zf rfl λ⟨⟨C,S⟩,e⟩=>?_;dsimp only;have e:dF_ (bL_ 0 d) 1073741824 C S:=e;have hAl:=dF_.len e;refine Zz 3 ?_;refine x_ iy_ rfl λb_2=>n_ 0 bn_ rfl rfl rfl rfl rfl rfl (Zi 7 (λa1=>?_) λa1=>?_)
   .have J:dF_ (bL_ 0 d) 1073741824 C 0:=by have q:S=0:=zal_;subst q;exact e
    refine Zz 8 ?_;refine f_ (incl_c d lad lcap E Q zaa_) rfl g_ zf rfl λ⟨⟨ro,roa,roc⟩,Z,R⟩=>?_;dsimp only;dsimp only at Z R;refine Zz 11 ?_;refine e_ (ao_ (cg_ rfl rfl) (show _=Value.bool false from yae_ Value.bool zae_)) rfl (Zz 9 ?_);refine f_ (uP_ (bL_ 0 d) X I C e.ok zaa_ zaa_ zaa_ (by rw[J.good.2.2.2.2.1];exact Cd_ _)) rfl g_ zf rfl λ⟨⟨⟨no,noa,noc⟩,⟨ty,tya,tyc⟩,⟨li,lia,lic⟩,⟨di,dia,dic⟩,⟨ra,raa,rac⟩⟩,W,P,M,O,N,K⟩=>?_;dsimp only;dsimp only at W P M O N K;refine n_ 1 bO_ rfl rfl rfl rfl rfl rfl (Zz 6 ?_);refine n_ 1 cq_ rfl rfl rfl rfl rfl rfl (Zz 5 ?_);refine n_ 1 bO_ rfl rfl rfl rfl rfl rfl (Zz 4 ?_);exact de_ ⟨((Mdl.mk no noa noc ty tya tyc li lia lic di dia dic ra raa rac ro roa roc),0),.inl ⟨rfl,Q,Cs_ T a3,C,J,W,Z⟩,⟨ybg_ P.1 P.2.1,ybg_ M.1 M.2.1,ybg_ O.1 O.2.1,ybg_ N.1 N.2.1,ybg_ K.1 K.2.1,ybg_ R.1 R.2.1⟩⟩ (λU v B m=>bI_ (us:=Mdl.cells (Mdl.mk no noa noc ty tya tyc li lia lic di dia dic ra raa rac ro roa roc)) 1 results24 gs_ bO_ rfl rfl rfl rfl U v B m) g_ (λv _ h=>by exact⟨⟨h.1,h.2.1,h.2.2.1,h.2.2.2.1,h.2.2.2.2.1,h.2.2.2.2.2.1⟩,trivial⟩)
   refine Zz 5 ?_;refine e_ (C_ tM_ rfl rfl) rfl (Zz 1 ?_);refine n_ 1 bO_ rfl rfl rfl rfl rfl rfl (Zz 4 ?_);exact de_ ⟨(Mdl.nil,S),.inr ⟨by assumption,rfl,.inr (.inr ⟨Q,C,e⟩)⟩,Mdl.nil_ok⟩ (λU v B m=>bI_ (us:=Mdl.cells Mdl.nil) 1 results24 gs_ bO_ rfl rfl rfl rfl U v B m) g_ (λv _ h=>by exact⟨⟨.inl rfl,.inl rfl,.inl rfl,.inl rfl,.inl rfl,.inl rfl⟩,trivial⟩)
  refine Zz 5 ?_;refine e_ (C_ tM_ rfl rfl) rfl (Zz 1 ?_);refine n_ 0 bO_ rfl rfl rfl rfl rfl rfl (Zz 4 ?_);exact de_ ⟨(Mdl.nil,V),.inr ⟨by assumption,rfl,.inr (.inl (rlR_e T zal_))⟩,Mdl.nil_ok⟩ (λU v B m=>bI_ (us:=Mdl.cells Mdl.nil) 0 results24 gs_ bO_ rfl rfl rfl rfl U v B m) g_ (λv _ h=>by exact⟨⟨.inl rfl,.inl rfl,.inl rfl,.inl rfl,.inl rfl,.inl rfl⟩,trivial⟩)
 obtain⟨L,G,Y,A⟩:=zge (show i<d.length by omega);refine Zz 12 ?_;refine x_ aJ_ rfl λb_2=>n_ 0 L_ rfl rfl rfl rfl rfl rfl (Zz 5 ?_)
 refine f_ (eS_ G (E G A)) rfl g_ (λv _ h=>by exact⟨(h.1.2 G A),h.2.1,trivial⟩) rfl λ_=>Zi 6 (λH=>?_) λH=>?_
 .refine Zz 10 ?_
  exact u_ ⟨i+1,L,(λz hz=>by rw[tk1 Y,yah_,yai_]at hz;exact hz.elim (F z) λq=>by rw[q];assumption)⟩ zab_ zl (c_ d_) zh
 refine Zz 5 ?_;refine e_ (C_ tM_ rfl rfl) rfl (Zz 1 ?_);refine n_ 1 bO_ rfl rfl rfl rfl rfl rfl (Zz 4 ?_);exact de_ ⟨(Mdl.nil,(Ax.check G)),.inr ⟨by assumption,rfl,.inl ⟨G,A,by assumption⟩⟩,Mdl.nil_ok⟩ (λU v B m=>bI_ (us:=Mdl.cells Mdl.nil) 1 results24 gs_ bO_ rfl rfl rfl rfl U v B m) g_ (λv _ h=>by exact⟨⟨.inl rfl,.inl rfl,.inl rfl,.inl rfl,.inl rfl,.inl rfl⟩,trivial⟩)
end Go.Proofs.YtbffkokbdeppaaaGreatDoor
namespace Go.Proofs.YtbffkokbdeppaaaGreatDoor
open Go Go.Sx Go.Proofs Tryz
attribute [local irreducible] Code.wp wpList wpAnyH
open Go.Vs Go.Shelf Go.RowKit
theorem zh_ (l:List Fc) (ad:Ao) (cap:Nat) (f:Fc) (hl:l.length<=9223372036854775807):Tri prog 159 #[.slice ad l.length cap,Fc.val f] [] [ac_ ad (l.flatMap Fc.cells)] (λr:{r:Int // decide (0<=r)=decide (f∈l)}=>iv_ r.1) (λ_=>[]) (λ_=>[]):=by
 refine i_ func159 rfl rfl ntmps159 rfl λF=>?_;refine Zz 2 ?_;refine P_ rfl rfl λv=>Zz 12 ?_
 refine H_ (ι:={y:Nat // y<=List.length l/\f ∉ List.take y l}) (λy=>[(0,.slice ad l.length cap),(3,zp_ v 0),(4,iv_ 0),(7,iv_ (List.length l:Int)),(8,iv_ y.1)]) (λy=>((v,.cells #[iv_ f.kind,str f.a,str f.b,str f.r,iv_ f.lo,iv_ f.hi] 104 (0,0))::[])) (λy=>[ac_ ad (l.flatMap Fc.cells)]) (λy=>l.length - y.1) ⟨(0:Nat),by simp,zaj_⟩ zl d_ zh ?_;rintro ⟨i,A,B⟩;dsimp only at A B ⊢;refine Zi 2 (λx=>?_) λx=>?_
 .refine Zz 12 ?_
  exact ab_ results159 ⟨-1,by rw[yab_ zaa_]at B;rw[yaS_ B];rfl⟩ rfl g_ zt
 obtain⟨h,C,m,e⟩:=zge (show i<l.length by omega);refine Zz 16 ?_;refine D_ 0 [0,1,2,3,4,5] zk zs (Zz 5 ?_);refine es_ rfl (cx_ (p:=f) (q:=C) rfl rfl) rfl λE d=>Zz 3 ?_
 cases E
 .replace d:=zdf d
  refine Zz 8 ?_;exact u_ ⟨i+1,h,(by rw[tk1 m,yah_,yai_];exact λq=>q.elim B d)⟩ zab_ zl d_ zh
 replace d:=zdt d;refine Zz 8 ?_;exact ab_ results159 ⟨(i:Int),by rw[yaC_ (p:=f∈l) (by rw[d];exact e)];exact yaC_ zaa_⟩ rfl g_ zt
theorem iV_ (l:List Fc) (ad:Ao) (cap:Nat) (f:Fc) (hl:l.length<=9223372036854775807):Tri prog 72 #[.slice ad l.length cap,Fc.val f] [] [ac_ ad (l.flatMap Fc.cells)] (λ_:Unit=>.bool (decide (f∈l))) (λ_=>[]) (λ_=>[]):=by
  refine i_ func72 rfl rfl ntmps72 rfl λh=>?_;refine Zz 2 ?_;refine P_ rfl rfl λm=>Zz 7 ?_
  refine f_ (zh_ l ad cap f hl) rfl g_ zf rfl λ⟨ix,d⟩=>?_;dsimp only;try dsimp only at d
  refine E_ (eJ_ rfl rfl) rfl λq e=>Zz 4 ?_
  exact ab_ results72 () (s_ rfl (d.symm.trans e).symm) g_ zt
def uB_ (m:Mdl) (r t:Str):Bool:=(r==t)||decide (X_ r t∈m.ro)
def pk_ (m:Mdl) (a r b:Str) (f:Fc):Bool:=decide (f=ae_ a f.r b)&&uB_ m f.r r
def wj_ (m:Mdl) (a r b:Str):Bool:=if nls a=false/\nls b=false then decide (ae_ a r b∈m.li) else m.di.any (pk_ m a r b)
theorem tW_ {m:Mdl} {a r b:Str} {f:Fc} (h:f=ae_ a f.r b) (d:uB_ m f.r r=true):pk_ m a r b f=true:=by unfold pk_;rw[yaC_ h,d];rfl
theorem ym_ {m:Mdl} {a r b:Str} {f:Fc} (h:¬ f=ae_ a f.r b):pk_ m a r b f=false:=by unfold pk_;rw[yaS_ h];rfl
theorem yl_ {m:Mdl} {a r b:Str} {f:Fc} (d:uB_ m f.r r=false):pk_ m a r b f=false:=by unfold pk_;rw[d,Bool.and_false]
theorem jG_ {α:Type} {l:List α} {p:α->Bool} {i:Nat} {x:α} (h:(l.take i).any p=false) (e:l[i]? = some x) (d:p x=false):(l.take (i+1)).any p=false:=by rw[tk1 e,yci_,h];simp[d]
theorem tx_ {α:Type} {l:List α} {p:α->Bool} {i:Nat} (h:(l.take i).any p=false) (hi:l.length<=i):l.any p=false:=by rwa [yab_ hi]at h
theorem pg_ {α:Type} {l:List α} {p:α->Bool} {x:α} (e:x∈l) (d:p x=true):l.any p=true:=ybT_.2 ⟨x,e,d⟩
theorem yn_ {m:Mdl} {a r b:Str} (d:nls a=false) (e:nls b=false):wj_ m a r b=decide (ae_ a r b∈m.li):=yao_ ⟨d,e⟩
theorem oa_ {m:Mdl} {a r b:Str} (h:¬ (nls a=false/\nls b=false)):wj_ m a r b=m.di.any (pk_ m a r b):=yag_ h
theorem hS_ (m:Mdl) (d:m.ok) (n t:Str):Tri prog 27 #[Mdl.val m,str n,str t] [] [pm_ m] (λ_:Unit=>.bool (decide (X_ n t∈m.ty))) (λ_=>[]) (λ_=>[]):=by
  refine i_ func27 rfl rfl ntmps27 rfl λy=>?_;refine Zz 2 ?_;refine P_ rfl rfl λq=>Zz 9 ?_
  refine e_ (C_ dt_ rfl rfl) rfl (S_ (iV_ (Mdl.ty m) (Mdl.tya m) (Mdl.tyc m) (Fc.mk 1 n t [] 0 0) d.ty) rfl g_ (λv _ h=>by exact⟨h.1.2.1,trivial⟩) rfl λx e=>Zz 4 ?_);exact ab_ results27 () (s_ rfl e.symm) g_ zt
theorem mS_ (m:Mdl) (q:m.ok) (r t:Str):Tri prog 73 #[Mdl.val m,str r,str t] [] [pm_ m] (λ_:Unit=>.bool (uB_ m r t)) (λ_=>[]) (λ_=>[]):=by
 refine i_ func73 rfl rfl ntmps73 rfl λx=>?_;refine Zz 2 ?_;refine P_ rfl rfl λy=>Zi 7 (λd=>?_) λd=>?_
 .refine Zz 10 ?_
  refine e_ (C_ dt_ rfl rfl) rfl (ay_ rfl rfl (S_ (iV_ (Mdl.ro m) (Mdl.roa m) (Mdl.roc m) (Fc.mk 1 r t [] 0 0) q.ro) rfl g_ (λv _ h=>by exact⟨h.1.2.2.2.2.2,trivial⟩) rfl λA e=>Zz 5 ?_));exact ab_ results73 () (s_ rfl (by unfold uB_;rw[beq_eq_false_iff_ne.2 d,Bool.false_or];exact e.symm)) g_ zt
 refine Zz 12 ?_;exact ab_ results73 () (s_ rfl (by unfold uB_;rw[ycB_.2 d];rfl)) g_ zt
theorem qQ_ (m:Mdl) (I:m.ok) (a r b:Str):Tri prog 29 #[Mdl.val m,str a,str r,str b] [] [pm_ m] (λ_:Unit=>.bool (wj_ m a r b)) (λ_=>[]) (λ_=>[]):=by
 refine i_ func29 rfl rfl ntmps29 rfl λQ=>?_;have R:=I.di;refine Zz 2 ?_;refine P_ rfl rfl λH=>Zz 7 ?_
 refine S_ (bW_ a) rfl g_ zt rfl λP E=>e_ (as_ rfl) rfl (Zz 1 ?_)
 cases P
 .refine Zz 3 ?_
  refine S_ (bW_ b) rfl g_ zt rfl λM B=>ay_ rfl rfl (e_ (as_ rfl) rfl (Zz 3 ?_))
  cases M
  .refine Zz 8 ?_
   refine e_ (C_ dt_ rfl rfl) rfl (S_ (iV_ (Mdl.li m) (Mdl.lia m) (Mdl.lic m) (Fc.mk 2 a b r 0 0) I.li) rfl g_ (λv _ h=>by exact⟨h.1.2.2.1,trivial⟩) rfl λJ d=>Zz 4 ?_);exact ab_ yr_ () (s_ rfl (by rw[yn_ E B];exact d.symm)) g_ zt
  refine Zz 13 ?_;refine H_ (ι:={y:Nat // y<=List.length (Mdl.di m)/\(List.any (List.take y (Mdl.di m)) (pk_ m a r b))=false}) (λy=>[(1,str a),(2,str r),(3,str b),(4,zp_ H 0),(8,.bool false),(27,.slice (Mdl.dia m) (Mdl.di m).length (Mdl.dic m)),(28,iv_ (List.length (Mdl.di m):Int)),(29,iv_ y.1)]) (λy=>((H,.cells #[.slice (Mdl.noa m) (Mdl.no m).length (Mdl.noc m),.slice (Mdl.tya m) (Mdl.ty m).length (Mdl.tyc m),.slice (Mdl.lia m) (Mdl.li m).length (Mdl.lic m),.slice (Mdl.dia m) (Mdl.di m).length (Mdl.dic m),.slice (Mdl.raa m) (Mdl.ra m).length (Mdl.rac m),.slice (Mdl.roa m) (Mdl.ro m).length (Mdl.roc m)] 52 (0,0))::[])) (λy=>[pm_ m]) (λy=>List.length (Mdl.di m) - y.1) ⟨(0:Nat),by simp,zaj_⟩ zl d_ zh ?_;rintro ⟨i,G,K⟩;dsimp only at G K ⊢;refine Zi 2 (λd=>?_) λd=>?_
  .refine Zz 12 ?_
   exact ab_ yr_ () (s_ rfl (by rw[oa_ (λq=>by rw[q.2]at B;cases B),tx_ K zaa_])) g_ zt
  obtain⟨A,C,e,F⟩:=zge (show i<List.length (Mdl.di m) by omega);refine Zz 10 ?_;refine e_ (Z_ I_ y_ rfl rfl (λv _ h=>aA_ (n:=6) Fc.cells_len zae_ (by exact h.1.2.2.2.1) e) zaa_ zai_) rfl ?_;refine e_ (am_ (ad:=(Mdl.dia m)) (us:=Fc.cells C) bv_ y_ rfl (λv _ h=>by exact h.1.2.2.2.1) (Fc.cells_len _) (w_ Fc.cells_len e)) rfl (x_ R_ rfl λO=>n_ 0 y_ rfl rfl rfl rfl rfl rfl (Zz 9 ?_));refine e_ (C_ dt_ rfl rfl) rfl (E_ (cx_ (p:=C) (q:=(Fc.mk 2 a b C.r 0 0)) rfl rfl) rfl λJ x=>Zz 1 ?_);cases J
  .replace x:=zdf x
   refine Zz 16 ?_;exact u_ ⟨i+1,A,(jG_ K e (ym_ x))⟩ zab_ zl (c_ d_) zh
  replace x:=zdt x;refine Zz 9 ?_;refine S_ (mS_ m I C.r r) rfl g_ zf rfl λN L=>Zz 3 ?_
  cases N
  .refine Zz 8 ?_
   exact u_ ⟨i+1,A,(jG_ K e (yl_ L))⟩ zab_ zl (c_ d_) zh
  refine Zz 7 ?_;exact ab_ yr_ () (s_ rfl (by rw[oa_ (λq=>by rw[q.2]at B;cases B),pg_ F (tW_ x L)])) g_ zt
 refine Zz 19 ?_;refine H_ (ι:={y:Nat // y<=List.length (Mdl.di m)/\(List.any (List.take y (Mdl.di m)) (pk_ m a r b))=false}) (λy=>[(1,str a),(2,str r),(3,str b),(4,zp_ H 0),(8,.bool false),(27,.slice (Mdl.dia m) (Mdl.di m).length (Mdl.dic m)),(28,iv_ (List.length (Mdl.di m):Int)),(29,iv_ y.1)]) (λy=>((H,.cells #[.slice (Mdl.noa m) (Mdl.no m).length (Mdl.noc m),.slice (Mdl.tya m) (Mdl.ty m).length (Mdl.tyc m),.slice (Mdl.lia m) (Mdl.li m).length (Mdl.lic m),.slice (Mdl.dia m) (Mdl.di m).length (Mdl.dic m),.slice (Mdl.raa m) (Mdl.ra m).length (Mdl.rac m),.slice (Mdl.roa m) (Mdl.ro m).length (Mdl.roc m)] 52 (0,0))::[])) (λy=>[pm_ m]) (λy=>List.length (Mdl.di m) - y.1) ⟨(0:Nat),by simp,zaj_⟩ zl d_ zh ?_;rintro ⟨i,G,K⟩;dsimp only at G K ⊢;refine Zi 2 (λB=>?_) λB=>?_
 .refine Zz 12 ?_
  exact ab_ yr_ () (s_ rfl (by rw[oa_ (λq=>by rw[q.1]at E;cases E),tx_ K zaa_])) g_ zt
 obtain⟨A,C,e,F⟩:=zge (show i<List.length (Mdl.di m) by omega);refine Zz 10 ?_;refine e_ (Z_ I_ y_ rfl rfl (λv _ h=>aA_ (n:=6) Fc.cells_len zae_ (by exact h.1.2.2.2.1) e) zaa_ zai_) rfl ?_;refine e_ (am_ (ad:=(Mdl.dia m)) (us:=Fc.cells C) bv_ y_ rfl (λv _ h=>by exact h.1.2.2.2.1) (Fc.cells_len _) (w_ Fc.cells_len e)) rfl (x_ R_ rfl λO=>n_ 0 y_ rfl rfl rfl rfl rfl rfl (Zz 9 ?_));refine e_ (C_ dt_ rfl rfl) rfl (E_ (cx_ (p:=C) (q:=(Fc.mk 2 a b C.r 0 0)) rfl rfl) rfl λM d=>Zz 1 ?_);cases M
 .replace d:=zdf d
  refine Zz 16 ?_;exact u_ ⟨i+1,A,(jG_ K e (ym_ d))⟩ zab_ zl (c_ d_) zh
 replace d:=zdt d;refine Zz 9 ?_;refine S_ (mS_ m I C.r r) rfl g_ zf rfl λJ x=>Zz 3 ?_
 cases J
 .refine Zz 8 ?_
  exact u_ ⟨i+1,A,(jG_ K e (yl_ x))⟩ zab_ zl (c_ d_) zh
 refine Zz 7 ?_;exact ab_ yr_ () (s_ rfl (by rw[oa_ (λq=>by rw[q.1]at E;cases E),pg_ F (tW_ d x)])) g_ zt
theorem Bt_ (l:List Fc) (ad:Ao) (cap:Nat) (hl:l.length<=9223372036854775807):Tri prog 215 #[.slice ad l.length cap] [] [ac_ ad (l.flatMap Fc.cells)] (λb:{b:Bool // b=true↔Srt l}=>.bool b.1) (λ_=>[]) (λ_=>[]):=by
 refine i_ func215 rfl rfl ntmps215 rfl λK=>?_;refine Zz 14 ?_;refine H_ (ι:={y:Nat // y<=List.length l/\(l.take y).Pairwise Fc.lt}) (λy=>[(0,.slice ad l.length cap),(2,.bool false),(5,.slice ad l.length cap),(6,iv_ (List.length l:Int)),(7,iv_ y.1)]) (λy=>([])) (λy=>[ac_ ad (l.flatMap Fc.cells)]) (λy=>l.length - y.1) ⟨(0:Nat),by simp,zaj_⟩ zl g_ zh ?_;rintro ⟨i,F,G⟩;dsimp only at F G ⊢;refine Zi 2 (λC=>?_) λC=>?_
 .have hS:l.length<=i->Srt l:=λq=>by rw[yab_ q]at G;exact G
  refine Zz 12 ?_;exact ab_ results215 ⟨true,λ_=>hS zaa_,λ_=>rfl⟩ rfl g_ zt
 have d:i<l.length:=by omega
 obtain⟨I,e⟩:∃ m,l[i]? = some m:=⟨_,yaa_ d⟩;refine Zz 13 ?_;refine x_ R_ rfl λL=>Zz 1 ?_
 refine n_ 0 y_ rfl rfl rfl rfl rfl rfl (Zz 4 ?_);refine D_ 9 [0,1,2] zk zs (Zi 1 (λE=>?_) λE=>?_)
 .refine Zz 2 ?_
  refine D_ 0 [3,4,5,6,7,8,9,10,11] zk zs (Zz 20 ?_);exact u_ ⟨i+1,d,(by rw[show i=0 by omega];exact pw_one l)⟩ zab_ zl g_ zh
 have v:(Int.toNat ((i:Int) - 1))<l.length:=by omega
 obtain⟨A,x⟩:∃ m,l[(Int.toNat ((i:Int) - 1))]? = some m:=⟨_,yaa_ v⟩;have h:l[i - 1]? = some A:=by rw[show i - 1=Int.toNat ((i:Int) - 1) by omega];exact x
 refine Zz 2 ?_;refine D_ 3 [3,4,5,6,7,8] zk zs (Zz 7 ?_);refine p_ 9 rfl zk (ay_ rfl rfl (f_ (zL_ A I) rfl g_ zt rfl λ_=>Zz 3 ?_));refine D_ 0 [10,11] zk zs ?_;refine Zi 0 (λB=>?_) λB=>?_
 .refine Zz 12 ?_
  exact u_ ⟨i+1,d,(by have q:=AS_ (lt:=Fc.lt) (λJ H=>Fc.lt_trans J H) (k:=i - 1) (by rw[show i - 1+1=i by omega];exact G) h zbz_ (BS_ zaa_);rw[show i - 1+2=i+1 by omega]at q;exact q)⟩ zab_ zl g_ zh
 refine Zz 11 ?_;exact ab_ results215 ⟨false,λq=>zbS_,λq=>absurd q (pw_not (k:=i - 1) h zbz_ (vK_.1 zaa_))⟩ rfl g_ zt
end Go.Proofs.YtbffkokbdeppaaaGreatDoor
namespace Go.Proofs.YtbffkokbdeppaaaGreatDoor
open Go Go.Sx Go.Proofs Tryz
attribute [local irreducible] Code.wp wpList wpAnyH
open Go.Vs Go.Shelf Go.RowKit
def gamF (Γ:List Fct):Fct where
  p v:=af_ Γ v
  mono:=λv v' h hp=>av_ h hp
def ud_ (p s:Str):Prop:=¬ ((nls p=nls s/\s<=p)\/(nls p=true/\nls s=false))
def pt_ (l:List Str):Prop:=(∀ s∈l,s≠[])/\∀ (i:Nat) p s,l[i]? = some p->l[i+1]? = some s->ud_ p s
def se_ (f:Fc):Bool:=(decide (f=X_ f.a f.b)&&(f.a != []))&&(f.b != [])
def mY_ (K:List Str) (f:Fc):Bool:=((decide (f=ae_ f.a f.r f.b)&&decide (f.a∈K))&&decide (f.b∈K))&&(f.r != [])
def so_ (K:List Str) (f:Fc):Bool:=((((decide (f=an_ f.a f.r f.lo f.hi)&&decide (f.a∈K))&&(f.r != []))&&decide (-1099511627776<=f.lo))&&decide (f.lo<=f.hi))&&decide (f.hi<=1099511627776)
def rZ_ (K:List Str) (f:Fc):Bool:=se_ f&&decide (f.a∈K)
def sN_ (K:List Str) (f:Fc):Bool:=(mY_ K f&&!nls f.a)&&!nls f.b
structure MdV (m:Mdl):Prop where
  no:pt_ m.no
  ty:(∀ f∈m.ty,rZ_ m.no f=true)/\Srt m.ty
  li:(∀ f∈m.li,sN_ m.no f=true)/\Srt m.li
  di:(∀ f∈m.di,mY_ m.no f=true)/\Srt m.di
  ra:(∀ f∈m.ra,so_ m.no f=true)/\Srt m.ra
  ro:(∀ f∈m.ro,se_ f=true)/\Srt m.ro
theorem rw_ {K L:List Str} (h:∀ n,n∈K↔n∈L) (s:Str):decide (s∈K)=decide (s∈L):=ybm_.2 (h s)
theorem qU_ {K L:List Str} (h:∀ n,n∈K↔n∈L) (f:Fc):mY_ K f=mY_ L f:=by unfold mY_;rw[rw_ h,rw_ h]
theorem vg_ {K L:List Str} (h:∀ n,n∈K↔n∈L) (f:Fc):so_ K f=so_ L f:=by unfold so_;rw[rw_ h]
theorem va_ {K L:List Str} (h:∀ n,n∈K↔n∈L) (f:Fc):rZ_ K f=rZ_ L f:=by unfold rZ_;rw[rw_ h]
theorem vu_ {K L:List Str} (h:∀ n,n∈K↔n∈L) (f:Fc):sN_ K f=sN_ L f:=by unfold sN_;rw[qU_ h]
theorem Bh_ {m:Mdl} {K:List Str} (h:∀ n,n∈K↔n∈m.no) {C v A B y x:Bool} (F:C=true↔pt_ m.no) (I:v=true↔(∀ f∈m.ty,rZ_ K f=true)/\Srt m.ty) (E:A=true↔(∀ f∈m.li,sN_ K f=true)/\Srt m.li) (G:B=true↔(∀ f∈m.di,mY_ K f=true)/\Srt m.di)
    (H:y=true↔(∀ f∈m.ra,so_ K f=true)/\Srt m.ra) (J:x=true↔(∀ f∈m.ro,se_ f=true)/\Srt m.ro):MdV m↔C=true/\v=true/\A=true/\B=true/\y=true/\x=true:=by
  rw[F,I,E,G,H,J];simp only[va_ h,vu_ h,qU_ h,vg_ h];exact⟨λq=>⟨q.no,q.ty,q.li,q.di,q.ra,q.ro⟩,λ⟨a,b,c,d,e,f⟩=>⟨a,b,c,d,e,f⟩⟩
theorem pU_ {l:List Str} {i:Nat} {s:Str} (h:pt_ (l.take i)) (v:l[i]? = some s) (A:s≠[]) (y:∀ p,0<i->l[i - 1]? = some p->ud_ p s):pt_ (l.take (i+1)):=by
 refine⟨λz d=>?_,λj p z m d=>?_⟩
 .rw[tk1 v,yah_,yai_]at d
  exact d.elim (h.1 z) λq=>by rw[q];exact A
 have x:=(yac_.1 d).1;rw[yaD_]at x;rw[yaK_]at m d
 split at d
 .rename_i q
  rw[yao_ zaa_]at m
  by_cases e:j+1=i
  .subst e
   rw[v]at d;obtain rfl:=ybl_ d;exact y p zaa_ zaA_
  exact h.2 j p z (by rw[yaK_,yao_ zaa_];exact m) (by rw[yaK_,yao_ zaa_];exact d)
 simp at d
theorem nodV_0 {l:List Str} (h:pt_ l) {i:Nat} {s:Str} (d:l[i]? = some s):s≠[]:=h.1 s (yad_ d)
theorem nodV_1 {l:List Str} (h:pt_ l) {i:Nat} {p s:Str} (e:l[i]? = some s) (hi:0<i) (d:l[i - 1]? = some p):ud_ p s:=h.2 (i - 1) p s d zbz_
theorem oR_ {g:FuncId} {cv:List Value} {Gc:List Fct} (V:Fc->Bool) (l:List Fc) (ad:Ao) (cap:Nat) (hl:l.length<=9223372036854775807) (I:∀ x∈l,Tri prog g (Fc.val x::cv).toArray [] Gc (λ_:Unit=>.bool (V x)) (λ_=>[]) (λ_=>[])):Tri prog 139 #[.slice ad l.length cap,.func (.func g) #[] cv.toArray] [] [ac_ ad (l.flatMap Fc.cells),gamF Gc] (λb:{b:Bool // b=true↔(∀ x∈l,V x=true)/\Srt l}=>.bool b.1) (λ_=>[]) (λ_=>[]):=by
 refine i_ func139 rfl rfl ntmps139 rfl λJ=>?_;refine Zz 14 ?_;refine H_ (ι:={y:Nat // y<=List.length l/\(∀ x∈List.take y l,V x=true)}) (λy=>[(0,.slice ad l.length cap),(1,.func (.func g) #[] cv.toArray),(4,.bool false),(7,.slice ad l.length cap),(8,iv_ (List.length l:Int)),(9,iv_ y.1)]) (λy=>([])) (λy=>[ac_ ad (l.flatMap Fc.cells),gamF Gc]) (λy=>l.length - y.1) ⟨(0:Nat),by simp,zaj_⟩ zl g_ zh ?_;rintro ⟨i,m,G⟩;dsimp only at m G ⊢;refine Zi 2 (λC=>?_) λC=>?_
 .refine Zz 9 ?_
  refine f_ (Bt_ l ad cap hl) rfl g_ zf rfl λ⟨ib,E⟩=>?_;dsimp only;refine Zz 4 ?_;exact ab_ results139 ⟨ib,E.trans ⟨λq=>⟨λx K=>G x (by rw[yab_ zaa_];exact K),q⟩,λq=>q.2⟩⟩ rfl g_ zt
 obtain⟨h,A,v,d⟩:=zge (show i<l.length by omega);refine Zz 12 ?_;refine x_ R_ rfl λL=>n_ 0 y_ rfl rfl rfl rfl rfl rfl (Zz 6 ?_)
 refine bh_ (first:=[]) (cap:=cv) (I A d) rfl rfl g_ zf rfl λF e=>e_ (as_ rfl) rfl (Zz 2 ?_)
 cases F
 .refine Zz 7 ?_
  exact ab_ results139 ⟨false,λq=>zbS_,λq=>by have B:=q.1 A d;rw[e]at B;cases B⟩ rfl g_ zt
 refine Zz 8 ?_;exact u_ ⟨i+1,h,(λz H=>by rw[tk1 v,yah_,yai_]at H;exact H.elim (G z) λq=>by rw[q];exact e)⟩ zab_ zl g_ zh
theorem ivv_ {G:Prop} (h:G:=by
 exact ab_ results133 ⟨false,λq=>zbS_,λq=>absurd (nodV_1 q d zaa_ h) (by unfold ud_;simp_all)⟩ rfl g_ zt):G:=h
theorem gB_ {G:Prop} (h:G:=by
 exact u_ ⟨i+1,e,(pU_ B d m λp _ x=>by rw[h]at x;obtain rfl:=ybl_ x;unfold ud_;simp_all)⟩ zab_ zl g_ zh):G:=h
theorem Bc_ (l:List Str) (ad:Ao) (cap:Nat) (hl:l.length<=9223372036854775807):Tri prog 133 #[.slice ad l.length cap] [] [ac_ ad (l.flatMap al_)] (λb:{b:Bool // b=true↔pt_ l}=>.bool b.1) (λ_=>[]) (λ_=>[]):=by
 refine i_ func133 rfl rfl ntmps133 rfl λV=>?_;refine Zz 14 ?_;refine H_ (ι:={y:Nat // y<=List.length l/\pt_ (l.take y)}) (λy=>[(0,.slice ad l.length cap),(2,.bool false),(6,.slice ad l.length cap),(7,iv_ (List.length l:Int)),(8,iv_ y.1)]) (λy=>([])) (λy=>[ac_ ad (l.flatMap al_)]) (λy=>l.length - y.1) ⟨(0:Nat),by simp,⟨by simp,by simp⟩⟩ zl g_ zh ?_;rintro ⟨i,K,B⟩;dsimp only at K B ⊢;refine Zi 2 (λM=>?_) λM=>?_
 .refine Zz 12 ?_
  exact ab_ results133 ⟨true,λ_=>by rw[yab_ zaa_]at B;exact B,λ_=>rfl⟩ rfl g_ zt
 have e:i<l.length:=by omega
 obtain⟨H,d⟩:∃ C,l[i]? = some C:=⟨_,yaa_ e⟩;refine Zi 21 (λm=>?_) λm=>?_
 .refine Zi 9 (λL=>?_) λL=>?_
  .have E:(Int.toNat ((i:Int) - 1))<l.length:=by omega
   obtain⟨A,I⟩:∃ C,l[(Int.toNat ((i:Int) - 1))]? = some C:=⟨_,yaa_ E⟩;have h:l[i - 1]? = some A:=by rw[show i - 1=Int.toNat ((i:Int) - 1) by omega];exact I
   refine Zz 18 ?_;refine S_ (bW_ A) rfl g_ zt rfl λU R=>Zz 1 ?_
   refine S_ (bW_ H) rfl g_ zt rfl λT Q=>E_ (kz_ gq_ rfl rfl) rfl λN S=>Zz 1 ?_
   cases N
   .refine Zz 8 ?_
    refine S_ (bW_ A) rfl g_ zt rfl λG v=>Zz 2 ?_
    cases G
    .refine Zz 16 ?_
     exact gB_
    refine Zz 3 ?_;refine S_ (bW_ H) rfl g_ zt rfl λF J=>ay_ rfl rfl (e_ (as_ rfl) rfl (Zz 5 ?_))
    cases F
    .refine Zz 7 ?_
     exact ivv_
    refine Zz 8 ?_;exact gB_
   refine Zz 5 ?_;refine E_ (xu_ rfl rfl) rfl λG v=>Zz 2 ?_
   cases G
   .replace v:=zdf v
    refine Zz 3 ?_;refine S_ (bW_ A) rfl g_ zt rfl λF J=>Zz 2 ?_
    cases F
    .refine Zz 16 ?_
     exact gB_
    refine Zz 3 ?_;refine S_ (bW_ H) rfl g_ zt rfl λO P=>ay_ rfl rfl (e_ (as_ rfl) rfl (Zz 5 ?_))
    cases O
    .refine Zz 7 ?_
     exact ivv_
    refine Zz 8 ?_;exact gB_
   replace v:=zdt v;refine Zz 17 ?_;exact ivv_
  refine Zz 10 ?_;exact u_ ⟨i+1,e,(pU_ B d m λp q=>by omega)⟩ zab_ zl g_ zh
 refine Zz 9 ?_;exact ab_ results133 ⟨false,λq=>zbS_,λq=>absurd m (nodV_0 q d)⟩ rfl g_ zt
theorem zR_ (f:Fc):Tri prog 134 #[Fc.val f] [] [] (λ_:Unit=>.bool (se_ f)) (λ_=>[]) (λ_=>[]):=by
 refine i_ func134 rfl rfl ntmps134 rfl λE=>?_;refine Zz 2 ?_;refine P_ rfl rfl λy=>Zz 10 ?_
 refine e_ (C_ dt_ rfl rfl) rfl (E_ (cx_ (p:=f) (q:=(Fc.mk 1 f.a f.b [] 0 0)) rfl rfl) rfl λB e=>Zz 1 ?_);refine aq_ 4 ((decide (f=(Fc.mk 1 f.a f.b [] 0 0)))&&(f.a != [])) (λr=>[(1,zp_ y 0),(2,.bool false),(14,.bool r)]) ?_ λx m=>?_
 .cases B
  .have d:=e
   replace e:=zdf e;refine Zz 6 ?_;exact met ⟨rfl,rfl,(s_ rfl (jaf d)),trivial⟩
  have d:=e;replace e:=zdt e;refine Zz 5 ?_;refine E_ (cJ_ rfl rfl) rfl λA h=>Zz 3 ?_
  exact met ⟨rfl,rfl,(s_ rfl (jat d h)),trivial⟩
 refine Zz 1 ?_;refine aq_ 4 ((((decide (f=(Fc.mk 1 f.a f.b [] 0 0)))&&(f.a != [])))&&(f.b != [])) (λr=>[(2,.bool false),(19,.bool r)]) ?_ λA h=>?_
 .cases x
  .have d:=m
   refine Zz 6 ?_;exact met ⟨rfl,(s_ rfl (jaf d)),trivial⟩
  have d:=m;refine Zz 5 ?_;refine E_ (cJ_ rfl rfl) rfl λC v=>Zz 3 ?_
  exact met ⟨rfl,(s_ rfl (jat d v)),trivial⟩
 refine Zz 4 ?_;exact ab_ results134 () (s_ rfl (by rw[<-h];rfl)) g_ zt
theorem zQ_ (f:Fc) (F:Nat) (E:Nat) (es:Array MapEntry) (c:Nat) (K:List Str) (hE:SetE str es K):Tri prog 135 #[Fc.val f,zp_ F 0] [] [ch_ F (.cells #[.map (some E)] 151 (0,0)),ch_ E (.map es c)] (λ_:Unit=>.bool (mY_ K f)) (λ_=>[]) (λ_=>[]):=by
 refine i_ func135 rfl rfl ntmps135 rfl λJ=>?_;refine Zz 2 ?_;refine P_ rfl rfl λB=>Zz 12 ?_
 refine e_ (C_ dt_ rfl rfl) rfl (E_ (cx_ (p:=f) (q:=(Fc.mk 2 f.a f.b f.r 0 0)) rfl rfl) rfl λI e=>Zz 1 ?_);refine aq_ 5 ((decide (f=(Fc.mk 2 f.a f.b f.r 0 0)))&&(decide (f.a∈K))) (λr=>[(1,zp_ F 0),(2,zp_ B 0),(3,.bool false),(18,.bool r)]) ?_ λH y=>?_
 .cases I
  .have d:=e
   replace e:=zdf e;refine Zz 7 ?_;exact met ⟨rfl,rfl,rfl,(s_ rfl (jaf d)),trivial⟩
  have d:=e;replace e:=zdt e;refine Zz 7 ?_;refine E_ (ao_ (bH_ (k:=f.a) (q:=K) bD_ Q_ aG_ rfl rfl hE (λv _ h=>(by exact h.2.1:(ch_ E (.map es c)).p v).2)) (show _=Value.bool (decide (f.a∈K)) from yae_ Value.bool (ybm_.2 ycU_))) rfl λC m=>Zz 3 ?_
  exact met ⟨rfl,rfl,rfl,(s_ rfl (jat d m)),trivial⟩
 refine Zz 1 ?_;refine aq_ 5 ((((decide (f=(Fc.mk 2 f.a f.b f.r 0 0)))&&(decide (f.a∈K))))&&(decide (f.b∈K))) (λr=>[(2,zp_ B 0),(3,.bool false),(24,.bool r)]) ?_ λC m=>?_
 .cases H
  .have d:=y
   refine Zz 7 ?_;exact met ⟨rfl,rfl,(s_ rfl (jaf d)),trivial⟩
  have d:=y;refine Zz 7 ?_;refine E_ (ao_ (bH_ (k:=f.b) (q:=K) bD_ Q_ aG_ rfl rfl hE (λv _ h=>(by exact h.2.1:(ch_ E (.map es c)).p v).2)) (show _=Value.bool (decide (f.b∈K)) from yae_ Value.bool (ybm_.2 ycU_))) rfl λG x=>Zz 3 ?_
  exact met ⟨rfl,rfl,(s_ rfl (jat d x)),trivial⟩
 refine Zz 1 ?_;refine aq_ 4 ((((((decide (f=(Fc.mk 2 f.a f.b f.r 0 0)))&&(decide (f.a∈K))))&&(decide (f.b∈K))))&&(f.r != [])) (λr=>[(3,.bool false),(29,.bool r)]) ?_ λG x=>?_
 .cases C
  .have d:=m
   refine Zz 6 ?_;exact met ⟨rfl,(s_ rfl (jaf d)),trivial⟩
  have d:=m;refine Zz 5 ?_;refine E_ (cJ_ rfl rfl) rfl λL A=>Zz 3 ?_
  exact met ⟨rfl,(s_ rfl (jat d A)),trivial⟩
 refine Zz 4 ?_;exact ab_ results135 () (s_ rfl (by rw[<-x];rfl)) g_ zt
theorem chk3_c (f:Fc) (fb B:Nat) (y:Nat) (es:Array MapEntry) (c:Nat) (K:List Str) (hE:SetE str es K):Tri prog 136 #[Fc.val f,zp_ fb 0,zp_ B 0] [] [ch_ fb (.cells #[.func (.func 134) #[] #[]] 189 (0,0)),ch_ B (.cells #[.map (some y)] 151 (0,0)),ch_ y (.map es c)] (λ_:Unit=>.bool (rZ_ K f)) (λ_=>[]) (λ_=>[]):=by
 refine i_ func136 rfl rfl ntmps136 rfl λC=>?_;refine Zz 2 ?_;refine P_ rfl rfl λF=>Zz 7 ?_
 refine bh_ (zR_ f) rfl rfl g_ zt rfl λA e=>Zz 1 ?_
 refine aq_ 5 ((se_ f)&&(decide (f.a∈K))) (λr=>[(4,.bool false),(13,.bool r)]) ?_ λE x=>?_
 .cases A
  .have d:=e
   refine Zz 7 ?_;exact met ⟨rfl,(s_ rfl (jaf d)),trivial⟩
  have d:=e;refine Zz 7 ?_;refine E_ (ao_ (bH_ (k:=f.a) (q:=K) bD_ Q_ aG_ rfl rfl hE (λv _ h=>(by exact h.2.2.1:(ch_ y (.map es c)).p v).2)) (show _=Value.bool (decide (f.a∈K)) from yae_ Value.bool (ybm_.2 ycU_))) rfl λG m=>Zz 3 ?_
  exact met ⟨rfl,(s_ rfl (jat d m)),trivial⟩
 refine Zz 4 ?_;exact ab_ results136 () (s_ rfl (by rw[<-x];rfl)) g_ zt
theorem chk4_c (f:Fc) (E v:Nat) (x:Nat) (es:Array MapEntry) (c:Nat) (K:List Str) (hE:SetE str es K):Tri prog 137 #[Fc.val f,zp_ E 0] [] [ch_ E (.cells #[.func (.func 135) #[] #[zp_ v 0]] 189 (0,0)),ch_ v (.cells #[.map (some x)] 151 (0,0)),ch_ x (.map es c)] (λ_:Unit=>.bool (sN_ K f)) (λ_=>[]) (λ_=>[]):=by
 refine i_ func137 rfl rfl ntmps137 rfl λG=>?_;refine Zz 2 ?_;refine P_ rfl rfl λA=>Zz 7 ?_
 refine bh_ (zQ_ f v x es c K hE) rfl rfl g_ zf rfl λC h=>Zz 1 ?_
 refine aq_ 5 ((mY_ K f)&&(!(nls f.a))) (λr=>[(2,zp_ A 0),(3,.bool false),(12,.bool r)]) ?_ λy m=>?_
 .cases C
  .have d:=h
   refine Zz 7 ?_;exact met ⟨rfl,rfl,(s_ rfl (jaf d)),trivial⟩
  have d:=h;refine Zz 5 ?_;refine S_ (bW_ f.a) rfl g_ zt rfl λB e=>ay_ rfl rfl (e_ (as_ rfl) rfl (Zz 3 ?_))
  exact met ⟨rfl,rfl,(s_ rfl (jat d (jn e))),trivial⟩
 refine Zz 1 ?_;refine aq_ 5 ((((mY_ K f)&&(!(nls f.a))))&&(!(nls f.b))) (λr=>[(3,.bool false),(18,.bool r)]) ?_ λB e=>?_
 .cases y
  .have d:=m
   refine Zz 7 ?_;exact met ⟨rfl,(s_ rfl (jaf d)),trivial⟩
  have d:=m;refine Zz 5 ?_;refine S_ (bW_ f.b) rfl g_ zt rfl λF q=>ay_ rfl rfl (e_ (as_ rfl) rfl (Zz 3 ?_))
  exact met ⟨rfl,(s_ rfl (jat d (jn q))),trivial⟩
 refine Zz 4 ?_;exact ab_ results137 () (s_ rfl zbs_) g_ zt
theorem gA_ {G:Prop} (h:G:=by
 exact met ⟨rfl,rfl,(s_ rfl (jaf d)),trivial⟩):G:=h
theorem chk5_c (f:Fc) (N:Nat) (I:Nat) (es:Array MapEntry) (c:Nat) (K:List Str) (hE:SetE str es K):Tri prog 138 #[Fc.val f,zp_ N 0] [] [ch_ N (.cells #[.map (some I)] 151 (0,0)),ch_ I (.map es c)] (λ_:Unit=>.bool (so_ K f)) (λ_=>[]) (λ_=>[]):=by
 refine i_ func138 rfl rfl ntmps138 rfl λO=>?_;refine Zz 2 ?_;refine P_ rfl rfl λB=>Zz 14 ?_
 refine e_ (C_ dt_ rfl rfl) rfl (E_ (cx_ (p:=f) (q:=(Fc.mk 3 f.a [] f.r f.lo f.hi)) rfl rfl) rfl λL e=>Zz 1 ?_);refine aq_ 5 ((decide (f=(Fc.mk 3 f.a [] f.r f.lo f.hi)))&&(decide (f.a∈K))) (λr=>[(2,zp_ B 0),(3,.bool false),(20,.bool r)]) ?_ λJ C=>?_
 .cases L
  .have d:=e
   replace e:=zdf e;refine Zz 7 ?_;exact gA_
  have d:=e;replace e:=zdt e;refine Zz 7 ?_;refine E_ (ao_ (bH_ (k:=f.a) (q:=K) bD_ Q_ aG_ rfl rfl hE (λv _ h=>(by exact h.2.1:(ch_ I (.map es c)).p v).2)) (show _=Value.bool (decide (f.a∈K)) from yae_ Value.bool (ybm_.2 ycU_))) rfl λH y=>Zz 3 ?_
  exact met ⟨rfl,rfl,(s_ rfl (jat d y)),trivial⟩
 refine Zz 1 ?_;refine aq_ 4 ((((decide (f=(Fc.mk 3 f.a [] f.r f.lo f.hi)))&&(decide (f.a∈K))))&&(f.r != [])) (λr=>[(2,zp_ B 0),(3,.bool false),(25,.bool r)]) ?_ λH y=>?_
 .cases J
  .have d:=C
   refine Zz 6 ?_;exact gA_
  have d:=C;refine Zz 5 ?_;refine E_ (cJ_ rfl rfl) rfl λE x=>Zz 3 ?_
  exact met ⟨rfl,rfl,(s_ rfl (jat d x)),trivial⟩
 refine Zz 1 ?_;refine aq_ 4 ((((((decide (f=(Fc.mk 3 f.a [] f.r f.lo f.hi)))&&(decide (f.a∈K))))&&(f.r != [])))&&(decide ((-1099511627776)<=f.lo))) (λr=>[(2,zp_ B 0),(3,.bool false),(30,.bool r)]) ?_ λE x=>?_
 .cases H
  .have d:=y
   refine Zz 6 ?_;exact gA_
  have d:=y;refine Zz 5 ?_;refine E_ (dg_ rfl rfl) rfl λG m=>Zz 3 ?_
  exact met ⟨rfl,rfl,(s_ rfl (jat d m)),trivial⟩
 refine Zz 1 ?_;refine aq_ 6 ((((((((decide (f=(Fc.mk 3 f.a [] f.r f.lo f.hi)))&&(decide (f.a∈K))))&&(f.r != [])))&&(decide ((-1099511627776)<=f.lo))))&&(decide (f.lo<=f.hi))) (λr=>[(2,zp_ B 0),(3,.bool false),(37,.bool r)]) ?_ λG m=>?_
 .cases E
  .have d:=x
   refine Zz 8 ?_;exact gA_
  have d:=x;refine Zz 9 ?_;refine E_ (dg_ rfl rfl) rfl λM A=>Zz 3 ?_
  exact met ⟨rfl,rfl,(s_ rfl (jat d A)),trivial⟩
 refine Zz 1 ?_;refine aq_ 4 ((((((((((decide (f=(Fc.mk 3 f.a [] f.r f.lo f.hi)))&&(decide (f.a∈K))))&&(f.r != [])))&&(decide ((-1099511627776)<=f.lo))))&&(decide (f.lo<=f.hi))))&&(decide (f.hi<=1099511627776))) (λr=>[(3,.bool false),(42,.bool r)]) ?_ λM A=>?_
 .cases G
  .have d:=m
   refine Zz 6 ?_;exact met ⟨rfl,(s_ rfl (jaf d)),trivial⟩
  have d:=m;refine Zz 5 ?_;refine E_ (dg_ rfl rfl) rfl λP F=>Zz 3 ?_
  exact met ⟨rfl,(s_ rfl (jat d F)),trivial⟩
 refine Zz 4 ?_;exact ab_ results138 () (s_ rfl (by rw[<-A];rfl)) g_ zt
theorem zS_ (m:Mdl) (E:m.ok):Tri prog 62 #[Mdl.val m] [] [pm_ m] (λe:{e:Int // (e=0\/e=1)/\(e=0↔MdV m)}=>iv_ e.1) (λ_=>[]) (λ_=>[]):=by
 refine i_ func62 rfl rfl ntmps62 rfl λv_1=>?_;have hdl:=E.no;refine Zz 2 ?_;refine P_ rfl rfl λV=>Zz 8 ?_
 refine f_ (Bc_ (Mdl.no m) (Mdl.noa m) (Mdl.noc m) E.no) rfl g_ (λv _ h=>by exact⟨h.1.1,trivial⟩) rfl λ⟨bn,X⟩=>?_;dsimp only;refine e_ (as_ rfl) rfl (Zz 2 ?_);cases bn
 .refine Zz 7 ?_
  exact ab_ iJ_ ⟨1,.inr rfl,λq=>absurd q zae_,λq=>absurd q (λq=>by have:=X.2 q.no;cases this)⟩ rfl g_ zt
 refine Zz 5 ?_;refine bf_ rfl λd=>x_ dA_ rfl λA=>n_ 0 sizeOf151 rfl rfl rfl rfl rfl rfl (Zz 12 ?_)
 refine H_ (ι:={y:Nat×StM // y.1<=List.length (Mdl.no m)/\(∀ n,n∈y.2.ks↔n∈List.take y.1 (Mdl.no m))}) (λy=>[(1,zp_ V 0),(2,iv_ 0),(3,zp_ A 0),(18,.slice (Mdl.noa m) (Mdl.no m).length (Mdl.noc m)),(19,iv_ (List.length (Mdl.no m):Int)),(20,iv_ y.1.1)]) (λy=>((A,.cells #[.map (some d)] 151 (0,0))::((d,.map y.1.2.es y.1.2.c)::((V,.cells #[.slice (Mdl.noa m) (Mdl.no m).length (Mdl.noc m),.slice (Mdl.tya m) (Mdl.ty m).length (Mdl.tyc m),.slice (Mdl.lia m) (Mdl.li m).length (Mdl.lic m),.slice (Mdl.dia m) (Mdl.di m).length (Mdl.dic m),.slice (Mdl.raa m) (Mdl.ra m).length (Mdl.rac m),.slice (Mdl.roa m) (Mdl.ro m).length (Mdl.roc m)] 52 (0,0))::[])))) (λy=>[pm_ m]) (λy=>List.length (Mdl.no m) - y.1.1) ⟨((0:Nat),StM.nil),by simp,(by intro n;simp[StM.nil])⟩ zl zp zh ?_;rintro ⟨⟨i,s⟩,S,O⟩;dsimp only at S O ⊢;refine Zi 2 (λY=>?_) λY=>?_
 .refine Zz 7 ?_
  rw[yab_ zaa_]at O;refine eO_ (ch_ d (.map s.es s.c)) (bc_ (c_ d_)) (λ_ C B _=>⟨C,B⟩) ?_;refine eO_ (ch_ A (.cells #[.map (some d)] 151 (0,0))) (bc_ d_) (λ_ C B _=>⟨C,B⟩) ?_;refine aP_ (x_ zeroValue189 rfl λL=>n_ 0 sizeOf189 rfl rfl rfl rfl rfl rfl (Zz 4 ?_));refine e_ (aY_ rfl rfl) rfl (x_ zeroValue189 rfl λN=>n_ 0 sizeOf189 rfl rfl rfl rfl rfl rfl (Zz 3 ?_));refine eO_ (ch_ L (.cells #[.func (.func 134) #[] #[]] 189 (0,0))) (bc_ (c_ d_)) (λ_ C B _=>⟨C,B⟩) ?_;refine eO_ (ch_ N (.cells #[.func (.func 135) #[] #[zp_ A 0]] 189 (0,0))) (bc_ d_) (λ_ C B _=>⟨C,B⟩) ?_;refine aP_ (e_ (aY_ rfl rfl) rfl (Zz 5 ?_));refine e_ (aY_ rfl rfl) rfl (Zz 5 ?_);refine e_ (aY_ rfl rfl) rfl (Zz 8 ?_);refine f_ (oR_ (cv:=[zp_ L 0,zp_ A 0]) (Gc:=[ch_ L (.cells #[.func (.func 134) #[] #[]] 189 (0,0)),ch_ A (.cells #[.map (some d)] 151 (0,0)),ch_ d (.map s.es s.c)]) (rZ_ s.ks) (Mdl.ty m) (Mdl.tya m) (Mdl.tyc m) E.ty λx _=>by exact chk3_c x L A d s.es s.c s.ks s.hE) rfl g_ (λv _ h=>by exact⟨h.2.2.2.2.1.2.1,⟨h.2.1,h.2.2.1,h.2.2.2.1,trivial⟩,trivial⟩) rfl λ⟨W,K⟩=>?_;dsimp only;refine Zz 1 ?_;cases W
  .refine Zz 30 ?_
   refine e_ (as_ rfl) rfl (Zz 9 ?_);exact ab_ iJ_ ⟨1,.inr rfl,λq=>absurd q zae_,λq=>absurd q (λq=>by have:=K.2 ⟨λf M=>(va_ O f).trans (q.ty.1 f M),q.ty.2⟩;cases this)⟩ rfl g_ zt
  refine Zz 7 ?_;refine f_ (oR_ (cv:=[zp_ N 0]) (Gc:=[ch_ N (.cells #[.func (.func 135) #[] #[zp_ A 0]] 189 (0,0)),ch_ A (.cells #[.map (some d)] 151 (0,0)),ch_ d (.map s.es s.c)]) (sN_ s.ks) (Mdl.li m) (Mdl.lia m) (Mdl.lic m) E.li λx _=>by exact chk4_c x N A d s.es s.c s.ks s.hE) rfl g_ (λv _ h=>by exact⟨h.2.2.2.2.1.2.2.1,⟨h.1,h.2.2.1,h.2.2.2.1,trivial⟩,trivial⟩) rfl λ⟨R,H⟩=>?_;dsimp only;refine Zz 2 ?_;cases R
  .refine Zz 24 ?_
   refine e_ (as_ rfl) rfl (Zz 9 ?_);exact ab_ iJ_ ⟨1,.inr rfl,λq=>absurd q zae_,λq=>absurd q (λq=>by have:=H.2 ⟨λf M=>(vu_ O f).trans (q.li.1 f M),q.li.2⟩;cases this)⟩ rfl g_ zt
  refine Zz 7 ?_;refine f_ (oR_ (cv:=[zp_ A 0]) (Gc:=[ch_ A (.cells #[.map (some d)] 151 (0,0)),ch_ d (.map s.es s.c)]) (mY_ s.ks) (Mdl.di m) (Mdl.dia m) (Mdl.dic m) E.di λx _=>by exact zQ_ x A d s.es s.c s.ks s.hE) rfl g_ (λv _ h=>by exact⟨h.2.2.2.2.1.2.2.2.1,⟨h.2.2.1,h.2.2.2.1,trivial⟩,trivial⟩) rfl λ⟨U,F⟩=>?_;dsimp only;refine Zz 2 ?_;cases U
  .refine Zz 18 ?_
   refine e_ (as_ rfl) rfl (Zz 9 ?_);exact ab_ iJ_ ⟨1,.inr rfl,λq=>absurd q zae_,λq=>absurd q (λq=>by have:=F.2 ⟨λf M=>(qU_ O f).trans (q.di.1 f M),q.di.2⟩;cases this)⟩ rfl g_ zt
  refine Zz 7 ?_;refine f_ (oR_ (cv:=[zp_ A 0]) (Gc:=[ch_ A (.cells #[.map (some d)] 151 (0,0)),ch_ d (.map s.es s.c)]) (so_ s.ks) (Mdl.ra m) (Mdl.raa m) (Mdl.rac m) E.ra λx _=>by exact chk5_c x A d s.es s.c s.ks s.hE) rfl g_ (λv _ h=>by exact⟨h.2.2.2.2.1.2.2.2.2.1,⟨h.2.2.1,h.2.2.2.1,trivial⟩,trivial⟩) rfl λ⟨P,J⟩=>?_;dsimp only;refine Zz 2 ?_;cases P
  .refine Zz 12 ?_
   refine e_ (as_ rfl) rfl (Zz 9 ?_);exact ab_ iJ_ ⟨1,.inr rfl,λq=>absurd q zae_,λq=>absurd q (λq=>by have:=J.2 ⟨λf M=>(vg_ O f).trans (q.ra.1 f M),q.ra.2⟩;cases this)⟩ rfl g_ zt
  refine Zz 7 ?_;refine f_ (oR_ (cv:=[]) (Gc:=[]) (se_) (Mdl.ro m) (Mdl.roa m) (Mdl.roc m) E.ro λx _=>by exact zR_ x) rfl g_ (λv _ h=>by exact⟨h.2.2.2.2.1.2.2.2.2.2,trivial,trivial⟩) rfl λ⟨Q,I⟩=>?_;dsimp only;refine Zz 8 ?_;refine e_ (as_ rfl) rfl (Zz 2 ?_);cases Q
  .refine Zz 7 ?_
   exact ab_ iJ_ ⟨1,.inr rfl,λq=>absurd q zae_,λq=>absurd q (λq=>by have:=I.2 ⟨λf M=>q.ro.1 f M,q.ro.2⟩;cases this)⟩ rfl g_ zt
  refine Zz 9 ?_;exact ab_ iJ_ ⟨0,.inl rfl,λ_=>(Bh_ O X K H F J I).2 ⟨rfl,rfl,rfl,rfl,rfl,rfl⟩,λ_=>rfl⟩ rfl g_ zt
 have G:i<List.length (Mdl.no m):=by omega
 obtain⟨a0,T⟩:∃ Z,(Mdl.no m)[i]? = some Z:=⟨_,yaa_ G⟩;refine Zz 18 ?_;refine dN_ 1 s bD_ (.inr rfl) Q_ rfl rfl rfl rfl (Zz 7 ?_);exact u_ ⟨(i+1,(StM.add s a0)),G,(by intro n;rw[StM.mem,O n,tk1 T];simp)⟩ zab_ zl zp zh
end Go.Proofs.YtbffkokbdeppaaaGreatDoor
namespace Go.Proofs.YtbffkokbdeppaaaGreatDoor
open Go Go.Sx Go.Proofs Tryz
attribute [local irreducible] Code.wp wpList wpAnyH
open Go.Vs Go.Shelf Go.RowKit
structure Bok (ls:List Ax) (m:Mdl) (c:Cl):Prop where
  chk:∀ x∈ls,x.check=0
  nc:¬ rK_ (cX_ ls)
  pc:cs_ (bL_ 0 ls)=0
  at':c.atoms=atS (bL_ 0 ls)
  fs:gM_ (bL_ 0 ls) (atS (bL_ 0 ls)) 65536 (some c.facts)
  asm:AsmR (bL_ 0 ls) c m.no m.ty m.li m.di m.ra
  inc:Cn_ ls m.ro
theorem tC_.bok {ls:List Ax} {m:Mdl} {e:Int} (h:tC_ ls m e) (A:e=0):∃ c,Bok ls m c:=by
 rcases h with⟨_,C,v,c,x,B,E⟩|⟨h,_⟩
 .obtain⟨q,_,_,_,y,d⟩:=x.good
  exact⟨c,C,v,q,y,d,B,E⟩
 exact absurd A h
theorem jz_ {p:List Pc} (v:cs_ p=0) {y:Fc} (h:Der p (atS p) y):(y.kind=1->y=X_ y.a y.b/\y.a∈atS p/\y.b∈atS p)/\(y.kind=2->y=ae_ y.a y.r y.b/\y.a∈atS p/\y.b∈atS p/\y.r≠[])/\(y.kind=3->y=an_ y.a y.r y.lo y.hi/\y.a∈atS p/\y.r≠[]/\-1099511627776<=y.lo/\y.lo<=y.hi/\y.hi<=1099511627776):=by
 have d:=der_ok (eH_ v) h;have e:=h.form λx A=>jf_ (eH_ v x A)
 rcases e with⟨a,b,rfl⟩|⟨a,r,b,rfl,_⟩|⟨a,r,lo,hi,rfl,_⟩
 .have:=fo1.1 d
  exact⟨λ_=>⟨rfl,this.1,this.2⟩,λq=>absurd q (by simp[X_]),λq=>absurd q (by simp[X_])⟩
 .have:=fo2.1 d
  exact⟨λq=>absurd q zbC_,λ_=>⟨rfl,this.1,this.2.1,this.2.2⟩,λq=>absurd q zbC_⟩
 have:=fo3.1 d;exact⟨λq=>absurd q (by simp[an_]),λq=>absurd q (by simp[an_]),λ_=>⟨rfl,this.1,this.2.1,this.2.2.1,this.2.2.2.1,this.2.2.2.2⟩⟩
theorem le_ {p:List Pc} {F:List Fc} (B:∀ y,y∈F↔Der p (atS p) y) (C:cs_ p=0) {s:Str} {z:Fc}:(s,z)∈dr_ p F↔∃ y∈p,y.kind=3/\Der p (atS p) (X_ s y.a)/\z=ae_ s y.r y.c:=by
 rw[ti_];constructor
 .rintro ⟨f,E,y,A,e,q,v,rfl,rfl⟩
  have d:=(B f).1 E;have x:=((jz_ C d).1 e).1;refine⟨y,A,q,?_,rfl⟩;rw[v,<-x];exact d
 rintro ⟨y,A,e,d,rfl⟩;exact⟨X_ s y.a,(B _).2 d,y,A,rfl,e,rfl,rfl,rfl⟩
theorem kQ_ {D:List (Str×Fc)} {s t:Str}:t∈nxD D s↔∃ z,(s,z)∈D/\z.b=t:=by
  unfold nxD;rw[yap_];exact⟨λ⟨z,h,e⟩=>⟨z,cb_.1 h,e⟩,λ⟨z,h,e⟩=>⟨z,cb_.2 h,e⟩⟩
theorem RchS.mono {nx d:Str->List Str} {I e:List Str} (v:∀ s t,t∈nx s->t∈d s) (q:∀ s∈I,s∈e) {t:Str} (h:RchS nx I t):RchS d e t:=by
  induction h with
  | zero h=>exact .zero (q _ h)
  | step _ ht ih=>exact .step ih (v _ _ ht)
theorem hK_ {l:List Str} {s:Str}:s∈ei_ l↔s∈l/\nls s=false:=by unfold ei_;rw[yaX_,ybp_]
section
variable {ls:List Ax} {m:Mdl} {c:Cl} (h:Bok ls m c)
include h
theorem Bok.der (y:Fc):y∈c.facts↔Der (bL_ 0 ls) (atS (bL_ 0 ls)) y:=h.fs.2.1 y
theorem Bok.rch (s:Str):s∈m.no↔RchS (nxD (dr_ (bL_ 0 ls) c.facts)) (ei_ (atS (bL_ 0 ls))) s:=by rw[<-h.at'];exact h.asm.nd.mem s
theorem Bok.next {s:Str} {z:Fc} (d:s∈m.no) (e:(s,z)∈dr_ (bL_ 0 ls) c.facts):z.b∈m.no:=(h.rch _).2 (.step ((h.rch _).1 d) (kQ_.2 ⟨z,e,rfl⟩))
theorem Bok.no_at {s:Str} (x:s∈m.no):s∈atS (bL_ 0 ls):=by
  have d:=(h.rch s).1 x;cases d with
  | zero q=>exact (hK_.1 q).1
  | step _ q =>
    obtain⟨z,A,rfl⟩:=kQ_.1 q;obtain⟨y,v,e,_,rfl⟩:=(le_ h.der h.pc).1 A;exact vN_ v (.inr (.inr rfl)) (kL_ (eH_ h.pc y v) zbJ_)
theorem Bok.ind {s:Str} (d:s∈atS (bL_ 0 ls)) (e:nls s=false):s∈m.no:=(h.rch s).2 (.zero (hK_.2 ⟨d,e⟩))
theorem Bok.ty (z:Fc):z∈m.ty↔Der (bL_ 0 ls) (atS (bL_ 0 ls)) z/\z.kind=1/\z.a∈m.no:=by rw[h.asm.ty.2,h.der]
theorem Bok.li (z:Fc):z∈m.li↔Der (bL_ 0 ls) (atS (bL_ 0 ls)) z/\z.kind=2/\nls z.a=false/\nls z.b=false:=by rw[h.asm.li.2,h.der]
theorem Bok.ra (z:Fc):z∈m.ra↔Der (bL_ 0 ls) (atS (bL_ 0 ls)) z/\z.kind=3/\z.a∈m.no:=by rw[h.asm.ra.2,h.der]
theorem Bok.di (z:Fc):z∈m.di↔∃ s∈m.no,∃ y∈bL_ 0 ls,y.kind=3/\Der (bL_ 0 ls) (atS (bL_ 0 ls)) (X_ s y.a)/\z=ae_ s y.r y.c:=by
  rw[h.asm.di.2];exact⟨λ⟨s,d,q⟩=>⟨s,d,(le_ h.der h.pc).1 q⟩,λ⟨s,d,q⟩=>⟨s,d,(le_ h.der h.pc).2 q⟩⟩
theorem Bok.nls_N {N:List Str} (x:∀ s,(s∈ei_ (atS (bL_ 0 ls))\/s∈N)↔RchS (nxD (dr_ (bL_ 0 ls) c.facts)) (ei_ (atS (bL_ 0 ls))) s) (e:∀ s∈N,s ∉ ei_ (atS (bL_ 0 ls))):∀ s∈N,nls s=true:=λs d=>by
 have v:=h.no_at ((h.rch s).2 ((x s).1 (.inr d)))
 by_cases q:nls s=true
 .exact q
 exact absurd (hK_.2 ⟨v,by simpa using q⟩) (e s d)
theorem Bok.nodup:m.no.Nodup:=vo_ h.asm.nd (by rw[h.at'];exact ((pe_ _).sublist ydu_).imp fun {a b} q e=>by subst e;exact ybM_ _ q)
end
theorem Be_ {l:List Str} (x:∀ s∈l,s≠[]) (h:l.Pairwise ud_):pt_ l:=⟨x,λi p s d y=>by
  obtain⟨v,e⟩:=yac_.1 d;obtain⟨q,A⟩:=yac_.1 y;have:=yaP_.1 h i (i+1) v q zaa_;rwa [e,A]at this⟩
theorem vp_ {p s:Str} (h:nls p=nls s) (hl:p<s):ud_ p s:=λq=>by
 rcases q with⟨_,q⟩|⟨d,e⟩
 .exact absurd hl (ycc_.2 q)
 rw[h,e]at d;cases d
theorem Bok.nodV {ls:List Ax} {m:Mdl} {c:Cl} (h:Bok ls m c):pt_ m.no:=by
 refine Be_ (λs F=>uO_ (h.no_at F)) ?_;obtain⟨N,C,e,x,A⟩:=h.asm.nd;rw[h.at']at e x A;have E:=h.nls_N A x;rw[e,ycN_];refine⟨?_,?_,λa v b d=>?_⟩
 .refine ycR_ (fun {a b} v d q=>vp_ ?_ q) ((pe_ _).sublist ydu_)
  rw[(hK_.1 v).2,(hK_.1 d).2]
 .refine ycR_ (fun {a b} v d q=>vp_ ?_ q) (gX_ C)
  rw[ybc_]at v d;rw[E a v,E b d]
 rw[ybc_]at d;have y:=(hK_.1 v).2;have B:=E b d;rintro (⟨q,_⟩|⟨q,_⟩)
 .rw[y,B]at q;cases q
 rw[y]at q;cases q
theorem abv_ne {l:List Ax} (y:∀ x∈l,x.check=0) {r t:Str} (A:r≠[]) (h:RchS (lat (ih_ l)) [r] t):t≠[]:=by
 cases h with
 | zero h=>rw[yai_.1 h];exact A
 | step _ ht =>
   have q:=cb_.1 ht;unfold ih_ at q;obtain⟨x,B,d⟩:=yas_.1 q
   split at d
   . rename_i v
     simp only[yai_,ybV_]at d;rw[d.2];have:=(Ax.good_of (y x B)).role (.inr (.inl v));intro e;rw[e]at this;revert this;decide
   . simp at d
theorem Bok.mdV {ls:List Ax} {m:Mdl} {c:Cl} (h:Bok ls m c):MdV m where
  no:=h.nodV
  ty:=⟨λf d=>by
    obtain⟨v,e,q⟩:=(h.ty f).1 d;obtain⟨x,B,A⟩:=(jz_ h.pc v).1 e;have E:=uO_ B;have F:=uO_ A;unfold rZ_ se_;rw[yaC_ x,yaC_ q,ydr_.2 E,ydr_.2 F];rfl,h.asm.ty.1⟩
  li:=⟨λf d=>by
    obtain⟨v,e,q,J⟩:=(h.li f).1 d;obtain⟨x,B,A,C⟩:=(jz_ h.pc v).2.1 e;unfold sN_ mY_;rw[yaC_ x,yaC_ (h.ind B q),yaC_ (h.ind A J),ydr_.2 C,q,J];rfl,h.asm.li.1⟩
  di:=⟨λf d=>by
    obtain⟨s,H,y,G,I,K,rfl⟩:=(h.di f).1 d;have N:=h.next H ((le_ h.der h.pc).2 ⟨y,G,I,K,rfl⟩);have M:(ae_ s y.r y.c).r≠[]:=(jf_ (eH_ h.pc y G)).rok.1 (by simp[I]);unfold mY_;rw[yaC_ (p:=ae_ s y.r y.c=ae_ (ae_ s y.r y.c).a (ae_ s y.r y.c).r (ae_ s y.r y.c).b) rfl,yaC_ (p:=(ae_ s y.r y.c).a∈m.no) H,yaC_ (p:=(ae_ s y.r y.c).b∈m.no) N,ydr_.2 M];rfl,h.asm.di.1⟩
  ra:=⟨λf d=>by
    obtain⟨v,e,q⟩:=(h.ra f).1 d;obtain⟨x,B,A,C,O,L⟩:=(jz_ h.pc v).2.2 e;unfold so_;rw[yaC_ x,yaC_ q,ydr_.2 A,yaC_ C,yaC_ O,yaC_ L];rfl,h.asm.ra.1⟩
  ro:=⟨λf d=>by
    obtain⟨r,t,⟨v,e⟩,q,rfl⟩:=(h.inc.2 f).1 d;have F:(X_ r t).b≠[]:=abv_ne h.chk e q;have E:(X_ r t).a≠[]:=e;unfold se_;rw[yaC_ (p:=X_ r t=X_ (X_ r t).a (X_ r t).b) rfl,ydr_.2 E,ydr_.2 F];rfl,h.inc.1⟩
def Clsd (di:List Fc) (K:List Str):Prop:=∀ f∈di,f.a∈K->f.b∈K
theorem Bok.all {ls:List Ax} {m:Mdl} {c:Cl} (h:Bok ls m c) {K:List Str} (F:K.Nodup) (E:∀ x∈K,x∈m.no) (hi:∀ x∈m.no,nls x=false->x∈K) (C:Clsd m.di K\/m.no.length<=K.length):(∀ x∈m.no,x∈K)/\K.length=m.no.length:=by
 have A:∀ x∈m.no,x∈K:=by
   rcases C with C|C
   . intro x B
     have B:=(h.rch x).1 B
     induction B with
     | zero q=>exact hi _ ((h.rch _).2 (.zero q)) (hK_.1 q).2
     | @step s t hs' ht ih =>
       obtain⟨z,v,rfl⟩:=kQ_.1 ht;have d:=(h.rch s).2 hs';have G:z∈m.di:=(h.asm.di.2 z).2 ⟨s,d,v⟩;have H:z.a=s:=by obtain⟨y,_,_,_,e⟩:=(le_ h.der h.pc).1 v;rw[e];rfl
       exact C z G (by rw[H];exact ih d)
   . intro x B
     apply Classical.byContradiction
     intro q
     have:=da_ (l:=x::K) (m:=m.no) (ybG_.2 ⟨q,F⟩) λz v=>by
       rcases yan_.1 v with rfl|v
       . exact B
       . exact E z v
     simp only[yal_]at this;omega
 exact⟨A,Nat.le_antisymm (da_ F E) (da_ h.nodup A)⟩
section
variable {R:List Str} {f:Int}
end
section
variable {ls:List Ax} {m:Mdl} {c:Cl} (h:Bok ls m c)
include h
theorem Bok.plain {r:Str} (d:r∈vcL 6 ls) (e:r≠[]):aV_ r=true:=kN_ (rU_ h.chk d e)
end
end Go.Proofs.YtbffkokbdeppaaaGreatDoor
namespace Go.Proofs.YtbffkokbdeppaaaGreatDoor
open Go Go.Sx Go.Proofs Tryz
attribute [local irreducible] Code.wp wpList wpAnyH
open Go.Vs Go.Shelf Go.RowKit
def L22 (ad:Ao):List Ax:=[Ax.mk 1 false (Con.mk 3 [65] 0 0 none 0 []) (Con.mk 6 [114] 0 0 ad 1 [(Con.mk 3 [66] 0 0 none 0 [])]) none 0 [] [] [] [],Ax.mk 8 false (Con.mk 0 [] 0 0 none 0 []) (Con.mk 3 [65] 0 0 none 0 []) none 0 [] [] [97] []]
def P22:List Pc:=[⟨3,[60,115,111,109,101,32,114,32,66,62],[],[66],[114],[],[],0,0,0⟩,⟨1,[65],[],[60,115,111,109,101,32,114,32,66,62],[],[],[],0,0,0⟩,⟨1,[123,97,125],[],[65],[],[],[],0,0,1⟩]
theorem Cm_ (ad:Ao):∀ x∈L22 ad,x.check=0:=λx d=>by
  unfold L22 at d;simp only[yan_,yaM_,ybW_]at d;rcases d with rfl|rfl<;>kernel_rfl
theorem L22_ok (ad:Ao):∀ x∈L22 ad,x.ok:=λx d=>by
  unfold L22 at d;simp only[yan_,yaM_,ybW_]at d;rcases d with rfl|rfl<;>(constructor<;>simp[Con.ok,Con.ok.oks])
theorem ph_ (ad:Ao):bL_ 0 (L22 ad)=P22:=by kernel_rfl
theorem xr_ (ad:Ao):cX_ (L22 ad)=[]:=by kernel_rfl
theorem tq_:¬ rK_ []:=λ⟨n,f,c,d,_,e,_⟩=>by have:=e 0 d;cases this
def A22:List Str:=[[33],[42],[60,115,111,109,101,32,114,32,66,62],[65],[66],[123,97,125]]
theorem vP_:atS P22=A22:=hC_ qI_ ybU_ (pe_ P22) zae_ λx=>by
 rw[hW_,fq_];simp only[cO_,lO_,P22,A22,yaG_,ydE_,yah_,yan_,yaM_,ybW_];simp
 constructor
 .intro h
  simp only[or_assoc]at h;rcases h with rfl|rfl|rfl|rfl|rfl|rfl|rfl|rfl<;>simp
 rintro (rfl|rfl|rfl|rfl|rfl|rfl)<;>simp
theorem zU_:atS []=[[33],[42]]:=hC_ qI_ ybU_ (pe_ []) zae_ λx=>by
  rw[hW_,fq_];simp[cO_,or_comm]
def F22:List Fc:=oY_ P22 A22 6
theorem vU_:cs_ P22=0:=by decide +kernel
theorem Ac_:gM_ P22 A22 65536 (some F22):=tp_ (qv_ vU_) 6 65536 zbo_ zbo_
theorem F0_is:gM_ [] [[33],[42]] 65536 (some (oY_ [] [[33],[42]] 3)):=tp_ (λx d=>by simp at d) 3 65536 zbo_ zbo_
theorem Cp_ {s t:Str} (h:t∈nxD (dr_ P22 F22) s):s∈[[60,115,111,109,101,32,114,32,66,62],[65],[123,97,125]]/\t=[66]:=by
  have d:((dr_ P22 F22).all λe=>decide (e.1∈[[60,115,111,109,101,32,114,32,66,62],[65],[123,97,125]])&&decide (e.2.b=[66]))=true:=by decide +kernel
  obtain⟨z,m,rfl⟩:=kQ_.1 h;have:=yaW_.1 d _ m;simp only[yaq_,yaI_]at this;exact this
theorem Ad_:([123,97,125],ae_ [123,97,125] [114] [66])∈dr_ P22 F22:=by decide +kernel
theorem N22:pu_ (dr_ P22 F22) (ei_ A22) [[123,97,125],[66]]:=by
 have d:ei_ A22=[[123,97,125]]:=by decide +kernel
 refine⟨[[66]],by simp,by rw[d,bb_,List.mergeSort_singleton];rfl,by rw[d];decide,λs=>?_⟩;rw[d];constructor
 .rintro (h|h)
  .exact .zero h
  rw[yai_.1 h];exact .step (.zero (yai_.2 rfl)) (kQ_.2 ⟨_,Ad_,rfl⟩)
 intro h
 induction h with
 | zero h=>exact .inl h
 | step _ ht _=>exact .inr (yai_.2 (Cp_ ht).2)
theorem bld22 {ad:Ao} {m:Mdl} {e:Int} (h:tC_ (L22 ad) m e):e=0/\m.no=[[123,97,125],[66]]/\m.di=[ae_ [123,97,125] [114] [66]]/\X_ [123,97,125] [65]∈m.ty/\wj_ m [123,97,125] [114] [66]=true/\MdV m:=by
 have I:e=0:=by
   rcases h with⟨h,_⟩|⟨_,_,⟨x,H,h⟩|h|⟨_,c,h⟩⟩
   . exact h
   . exact absurd (Cm_ ad x H) h
   . rw[xr_]at h;exact absurd h tq_
   . rw[ph_]at h
     exact ((vR_ h vU_ zae_ zae_ (r:=some F22) (by rw[vP_];exact Ac_)).1 _ rfl).1
 subst I;obtain⟨c,h⟩:=h.bok rfl;have y:=h.fs;have v:=h.at';have d:=h.asm;have C:=h.mdV;rw[ph_,vP_]at y v;rw[ph_]at d;have E:c.facts=F22:=by have:=gM_.uniq y Ac_;exact ybl_ this
 have F:=d.nd;rw[E,v]at F;have q:=F.uniq N22
 have A:m.di=[ae_ [123,97,125] [114] [66]]:=by
   refine Srt.ext d.di.1 zaj_ λz=>?_;rw[d.di.2,q,E,yai_];constructor
   . rintro ⟨s,G,J⟩
     have B:((dr_ P22 F22).all λe=>!decide (e.1∈[[123,97,125],[66]])||decide (e.2=ae_ [123,97,125] [114] [66]))=true:=by decide +kernel
     have:=yaW_.1 B _ J;simpa [G] using this
   . rintro rfl
     exact⟨_,by simp,Ad_⟩
 refine⟨rfl,q,A,(d.ty.2 _).2 ⟨by rw[E];decide +kernel,rfl,by rw[q];simp[X_]⟩,?_,C⟩;rw[oa_ zae_];refine pg_ (x:=ae_ [123,97,125] [114] [66]) (by rw[A];simp) (tW_ rfl ?_);unfold uB_;rfl
theorem bld0 {m:Mdl} {e:Int} (h:tC_ [] m e):e=0/\m.no=[]:=by
 have C:e=0:=by
   rcases h with⟨h,_⟩|⟨_,_,⟨x,B,h⟩|h|⟨_,c,h⟩⟩
   . exact h
   . cases B
   . exact absurd h tq_
   . exact ((vR_ (p:=[]) h zbo_ zae_ zae_ (r:=some _) (by rw[zU_];exact F0_is)).1 _ rfl).1
 subst C;obtain⟨c,h⟩:=h.bok rfl;refine⟨rfl,ybP_.2 λs A=>?_⟩;have v:=(h.rch s).1 A
 have d:∀ t,¬ RchS (nxD (dr_ (bL_ 0 []) c.facts)) (ei_ (atS (bL_ 0 []))) t:=λt q=>by
   have y:ei_ (atS (bL_ 0 []))=[]:=by rw[show bL_ 0 []=[] from rfl,zU_];decide +kernel
   rw[y]at q
   induction q with
   | zero h=>cases h
   | step _ _ ih=>exact ih
 exact d s v
theorem jo_ (s:Str):Fn0 prog 28 #[str s] (Con.val (Con.mk 3 s 0 0 none 0 [])):=by
  refine i_ func28 rfl rfl ntmps28 rfl λx=>?_;refine Zz 2 ?_;refine x_ aF_ rfl λq=>Zz 5 ?_
  refine e_ (C_ kf_ rfl rfl) rfl (n_ 0 t_ rfl rfl rfl rfl rfl rfl (Zz 3 ?_));exact de_ () (λm v e d=>dy_ (us:=Con.cells (Con.mk 3 s 0 0 none 0 [])) 0 results28 ah_ t_ rfl rfl rfl m v e d) g_ (λv _ h=>trivial)
theorem yh_:Tri prog 21 #[] [] [bN_,hx_] (λ_:Unit=>.bool true) (λ_=>[]) (λ_=>[]):=by
 refine i_ func21 rfl rfl ntmps21 rfl λv_1=>?_;refine bk_ ?_;refine aP_ ?_;refine e_ (aI_ rfl) rfl ?_;refine bF_ ?_;refine bi_ rfl ?_;refine bk_ ?_;refine aP_ ?_;refine f_ (jo_ [65]) rfl g_ zt rfl λ_=>?_;refine f_ (jo_ [66]) rfl g_ zt rfl λ_=>?_;refine O_ ai_ t_ aF_ rfl rfl rfl rfl rfl rfl λV=>?_;refine bC_ (List.flatMap Con.cells [(Con.mk 3 [66] 0 0 none 0 [])]) d_ rfl ?_;refine e_ (C_ kf_ rfl rfl) rfl ?_;refine e_ (C_ strt30 rfl rfl) rfl ?_;refine f_ (jo_ [65]) rfl g_ zt rfl λ_=>?_;refine e_ (C_ strt30 rfl rfl) rfl ?_;refine O_ aS_ L_ aJ_ rfl rfl rfl rfl rfl rfl λa6=>?_;refine bC_ (List.flatMap Ax.cells [(Ax.mk 1 false (Con.mk 3 [65] 0 0 none 0 []) (Con.mk 6 [114] 0 0 (some ⟨V,0,none⟩) 1 [(Con.mk 3 [66] 0 0 none 0 [])]) none 0 [] [] [] []),(Ax.mk 8 false (Con.mk 0 [] 0 0 none 0 []) (Con.mk 3 [65] 0 0 none 0 []) none 0 [] [] [97] [])]) d_ rfl ?_;refine e_ (aI_ rfl) rfl ?_;refine bF_ ?_;refine bi_ rfl ?_;refine bk_ ?_;refine aP_ ?_;refine e_ (ar_ rfl) rfl ?_;refine f_ (rF_ [(Ax.mk 1 false (Con.mk 3 [65] 0 0 none 0 []) (Con.mk 6 [114] 0 0 (some ⟨V,0,none⟩) 1 [(Con.mk 3 [66] 0 0 none 0 [])]) none 0 [] [] [] []),(Ax.mk 8 false (Con.mk 0 [] 0 0 none 0 []) (Con.mk 3 [65] 0 0 none 0 []) none 0 [] [] [97] [])] (some ⟨a6,0,none⟩) 2 (L22_ok _) zaj_) rfl g_ (λv _ h=>by exact⟨⟨h.1,λy hy=>by simp only[yan_,yaM_,ybW_]at hy;rcases hy with rfl|rfl;exact⟨⟨.inl rfl,trivial⟩,⟨h.2.1,⟨⟨.inl rfl,trivial⟩,trivial⟩⟩,(.inl rfl)⟩;exact⟨⟨.inl rfl,trivial⟩,⟨.inl rfl,trivial⟩,(.inl rfl)⟩⟩,h.2.2.1,h.2.2.2.1,trivial⟩) rfl λ⟨⟨d,e_1⟩,P,H⟩=>?_;dsimp only;dsimp only at P H;obtain⟨rfl,A,M,a0,W,a4⟩  :=bld22 (ad:=(some ⟨V,0,none⟩)) P;refine e_ (ar_ rfl) rfl ?_;refine e_ (bU_ rfl rfl) rfl ?_;refine e_ (bU_ rfl rfl) rfl ?_;refine x_ jX_ rfl λb_3=>?_;refine n_ 0 bO_ rfl rfl rfl rfl rfl rfl ?_;refine e_ (aI_ rfl) rfl ?_;refine bF_ ?_;refine bi_ rfl ?_;refine bk_ ?_;refine aP_ ?_;refine f_ (rF_ ([]:List Ax) none 0 (λx hx=>by cases hx) zae_) rfl g_ (λv _ h=>by exact⟨⟨.inl rfl,λx hx=>by cases hx⟩,h.2.2.2.1,h.2.2.2.2.1,trivial⟩) rfl λ⟨⟨m_2,e_2⟩,O,a1⟩=>?_;dsimp only;dsimp only at O a1;obtain⟨rfl,a5⟩:=bld0 O;refine e_ (ar_ rfl) rfl ?_;refine e_ (bU_ rfl rfl) rfl ?_;refine e_ (bU_ rfl rfl) rfl ?_;refine x_ jX_ rfl λb_4=>?_;refine n_ 0 bO_ rfl rfl rfl rfl rfl rfl ?_;refine e_ (aI_ rfl) rfl ?_;refine bF_ ?_;refine bi_ rfl ?_;refine bk_ ?_;have S:0<List.length (Mdl.no d):=by rw[A];decide
 obtain⟨b5,J⟩:∃ L,(Mdl.no d)[0]? = some L:=⟨_,yaa_ S⟩;have a2:b5=[123,97,125]:=by rw[A]at J;simpa using J.symm
 have Q:1<List.length (Mdl.no d):=by rw[A];decide
 obtain⟨x_2,I⟩:∃ L,(Mdl.no d)[1]? = some L:=⟨_,yaa_ Q⟩;have a3:x_2=[66]:=by rw[A]at I;simpa using I.symm
 have T:0<List.length (Mdl.di d):=by rw[M];decide
 obtain⟨R,K⟩:∃ L,(Mdl.di d)[0]? = some L:=⟨_,yaa_ T⟩;have Z:R=ae_ [123,97,125] [114] [66]:=by rw[M]at K;simpa using K.symm
 refine pJ_ zk ?_;refine D_ 58 [0,1,2,3,4,5,6,7,8] zk zs ?_;refine M_ rfl (ar_ rfl) rfl ?_;refine M_ rfl (ao_ (bz_ rfl rfl) (show _=Value.bool true from yae_ Value.bool zae_)) rfl ?_;refine M_ rfl (ar_ rfl) rfl ?_;refine bu_ rfl rfl rfl (ci_ dx_ rfl rfl rfl bP_) rfl ?_;refine bu_ rfl rfl rfl (aX_ 1 na_ rfl rfl rfl) rfl ?_;refine bu_ rfl rfl rfl (dG_ o_ rfl) rfl ?_;refine dV_ rfl rfl rfl (bz_ rfl rfl) rfl λb0 F=>?_;refine M_ rfl (cu_ rfl rfl) rfl ?_;refine M_ rfl (ar_ rfl) rfl ?_;refine bs_ ?_;cases b0
 .replace F:=znb F
  exact absurd (by rw[A];rfl) F
 replace F:=zeb F;refine D_ 51 [9,10,11,12,13,14,15] zk zs ?_;refine bu_ rfl rfl rfl (ci_ dx_ rfl rfl rfl bP_) rfl ?_;refine bu_ rfl rfl rfl (aX_ 1 na_ rfl rfl rfl) rfl ?_;refine bu_ rfl rfl rfl (Z_ o_ G_ rfl rfl (λv _ h=>aA_ (n:=1) au_ zae_ (by exact h.2.1.1) J) zaa_ zai_) rfl ?_;refine bu_ rfl rfl rfl (bA_ (ad:=(Mdl.noa d)) ad_ rfl (λv _ h=>by exact h.2.1.1) (w_ au_ J 0 _ rfl)) rfl ?_;refine dV_ rfl rfl rfl (cW_ rfl rfl) rfl λa8 C=>?_;refine M_ rfl (cu_ rfl rfl) rfl ?_;refine M_ rfl (ar_ rfl) rfl ?_;refine bs_ ?_;cases a8
 .replace C:=znb C
  exact absurd a2 C
 replace C:=zeb C;refine D_ 44 [16,17,18,19,20,21,22] zk zs ?_;refine bu_ rfl rfl rfl (ci_ dx_ rfl rfl rfl bP_) rfl ?_;refine bu_ rfl rfl rfl (aX_ 1 na_ rfl rfl rfl) rfl ?_;refine bu_ rfl rfl rfl (Z_ o_ G_ rfl rfl (λv _ h=>aA_ (n:=1) au_ zae_ (by exact h.2.1.1) I) zaa_ zai_) rfl ?_;refine bu_ rfl rfl rfl (bA_ (ad:=(Mdl.noa d)) ad_ rfl (λv _ h=>by exact h.2.1.1) (w_ au_ I 0 _ rfl)) rfl ?_;refine dV_ rfl rfl rfl (cW_ rfl rfl) rfl λa9 E=>?_;refine M_ rfl (cu_ rfl rfl) rfl ?_;refine M_ rfl (ar_ rfl) rfl ?_;refine bs_ ?_;cases a9
 .replace E:=znb E
  exact absurd a3 E
 replace E:=zeb E;refine D_ 38 [23,24,25,26,27,28] zk zs ?_;refine bu_ rfl rfl rfl (ci_ dx_ rfl rfl rfl cq_) rfl ?_;refine bu_ rfl rfl rfl (aX_ 1 isAgg50 rfl rfl rfl) rfl ?_;refine bu_ rfl rfl rfl (dG_ I_ rfl) rfl ?_;refine dV_ rfl rfl rfl (bz_ rfl rfl) rfl λb2 B=>?_;refine M_ rfl (cu_ rfl rfl) rfl ?_;refine M_ rfl (ar_ rfl) rfl ?_;refine bs_ ?_;cases b2
 .replace B:=znb B
  exact absurd (by rw[M];rfl) B
 replace B:=zeb B;refine D_ 34 [29,30,31,32] zk zs ?_;refine bu_ rfl rfl rfl (ci_ dx_ rfl rfl rfl cq_) rfl ?_;refine bu_ rfl rfl rfl (aX_ 1 isAgg50 rfl rfl rfl) rfl ?_;refine bu_ rfl rfl rfl (Z_ I_ y_ rfl rfl (λv _ h=>aA_ (n:=6) Fc.cells_len zae_ (by exact h.2.1.2.2.2.1) K) zaa_ zai_) rfl ?_;refine bu_ rfl rfl rfl (am_ (ad:=(Mdl.dia d)) (us:=Fc.cells R) bv_ y_ rfl (λv _ h=>by exact h.2.1.2.2.2.1) (Fc.cells_len _) (w_ Fc.cells_len K)) rfl ?_;refine bs_ ?_;refine p_ 33 rfl zk ?_;refine ay_ rfl rfl ?_;refine f_ (AO_ [123,97,125] [114] [66]) rfl g_ zt rfl λ_=>?_;refine bF_ ?_;refine fS_ rfl ?_;refine V_ zs ?_;refine D_ 30 [34,35,36] zk zs ?_;refine dV_ rfl rfl rfl (cx_ (p:=R) (q:=(ae_ [123,97,125] [114] [66])) rfl rfl) rfl λa7 e=>?_;refine M_ rfl (cu_ rfl rfl) rfl ?_;refine M_ rfl (ar_ rfl) rfl ?_;refine bs_ ?_;cases a7
 .replace e:=zdf e
  exact absurd Z e
 replace e:=zdt e;refine D_ 29 [37] zk zs ?_;refine bu_ rfl rfl rfl (cQ_ 1 gs_ bO_ rfl rfl rfl) rfl ?_;refine bs_ ?_;refine p_ 38 rfl zk ?_;refine ay_ rfl rfl ?_;refine S_ (hS_ d H [123,97,125] [65]) rfl g_ zf rfl λb1 G=>?_;refine bF_ ?_;refine fS_ rfl ?_;refine V_ zs ?_;refine D_ 26 [39,40] zk zs ?_;refine M_ rfl (cu_ rfl rfl) rfl ?_;refine M_ rfl (ar_ rfl) rfl ?_;refine bs_ ?_;cases b1
 .replace G:=zdf G
  exact absurd a0 G
 replace G:=zdt G;refine D_ 25 [41] zk zs ?_;refine bu_ rfl rfl rfl (cQ_ 1 gs_ bO_ rfl rfl rfl) rfl ?_;refine bs_ ?_;refine p_ 42 rfl zk ?_;refine ay_ rfl rfl ?_;refine S_ (qQ_ d H [123,97,125] [114] [66]) rfl g_ zf rfl λr_7 N=>?_;refine bF_ ?_;refine fS_ rfl ?_;refine V_ zs ?_;refine D_ 22 [43,44] zk zs ?_;refine M_ rfl (cu_ rfl rfl) rfl ?_;refine M_ rfl (ar_ rfl) rfl ?_;refine bs_ ?_;cases r_7
 .rw[W]at N;cases N
 refine D_ 21 [45] zk zs ?_;refine bu_ rfl rfl rfl (cQ_ 1 gs_ bO_ rfl rfl rfl) rfl ?_;refine bs_ ?_;refine p_ 46 rfl zk ?_;refine ay_ rfl rfl ?_;refine f_ (zS_ d H) rfl g_ zf rfl λ⟨b3,Y⟩=>?_;dsimp only;obtain rfl:b3=0:=Y.2.2 a4;refine bF_ ?_;refine fS_ rfl ?_;refine V_ zs ?_;refine D_ 7 [47,48,49,50,51,52,53,54,55,56,57,58,59] zk zs ?_;refine bu_ rfl rfl rfl (ao_ (bz_ rfl rfl) (show _=Value.bool true from yae_ Value.bool zae_)) rfl ?_;refine M_ rfl (cu_ rfl rfl) rfl ?_;refine M_ rfl (ar_ rfl) rfl ?_;refine bu_ rfl rfl rfl (ar_ rfl) rfl ?_;refine bu_ rfl rfl rfl (ao_ (bz_ rfl rfl) (show _=Value.bool true from yae_ Value.bool zae_)) rfl ?_;refine M_ rfl (cu_ rfl rfl) rfl ?_;refine M_ rfl (ar_ rfl) rfl ?_;refine bu_ rfl rfl rfl (ci_ dx_ rfl rfl rfl bP_) rfl ?_;refine bu_ rfl rfl rfl (aX_ 0 na_ rfl rfl rfl) rfl ?_;refine bu_ rfl rfl rfl (dG_ o_ rfl) rfl ?_;refine dV_ rfl rfl rfl (bz_ rfl rfl) rfl λb6 m=>?_;refine M_ rfl (cu_ rfl rfl) rfl ?_;refine M_ rfl (ar_ rfl) rfl ?_;refine bs_ ?_;cases b6
 .replace m:=znb m
  exact absurd (by rw[a5];rfl) m
 replace m:=zeb m;refine p_ 60 rfl zk ?_;refine ay_ rfl rfl ?_;refine S_ (bW_ [65]) rfl g_ zt rfl λb4 X=>?_;refine bF_ ?_;refine fS_ rfl ?_;refine V_ zs ?_;refine D_ 4 [61,62] zk zs ?_;refine M_ rfl (cu_ rfl rfl) rfl ?_;refine M_ rfl (ar_ rfl) rfl ?_;refine bs_ ?_;cases b4
 .exact absurd X zae_
 refine p_ 63 rfl zk ?_;refine ay_ rfl rfl ?_;refine S_ (bW_ [123,97,125]) rfl g_ zt rfl λr_10 U=>?_;refine bF_ ?_;refine fS_ rfl ?_;refine V_ zs ?_;refine D_ 0 [64,65,66] zk zs ?_;refine bu_ rfl rfl rfl (as_ rfl) rfl ?_;refine M_ rfl (cu_ rfl rfl) rfl ?_;refine M_ rfl (aI_ rfl) rfl ?_;refine bs_ ?_;refine tw_ zk ?_;refine bi_ rfl ?_;refine ji_ ?_;exact ab_ results21 () (s_ rfl (by rw[<-U];decide)) g_ zt
end Go.Proofs.YtbffkokbdeppaaaGreatDoor
namespace Go.Proofs.YtbffkokbdeppaaaGreatDoor
open Go Go.Sx Go.Proofs Tryz
attribute [local irreducible] Code.wp wpList wpAnyH
open Go.Vs Go.ChangeShapes Go.WideShapes Go.ChangeAt Go.RowKit
theorem own:ownKnob Tryz.prog.godebug=none:=by kernel_rfl
def gG_ : List (String × DataW Unit) := [("math/bits.deBruijn32tab", Rows.laid_math_bits_deBruijn32tab), ("math/bits.deBruijn64tab", Rows.laid_math_bits_deBruijn64tab), ("internal/strconv.uint64pow10", Rows.laid_internal_strconv_uint64pow10), ("unicode/utf8.acceptRanges", Rows.laid_unicode_utf8_acceptRanges), ("veilstone/terms.needs", Rows.laid_veilstone_terms_needs), ("veilstone/terms.uses", Rows.laid_veilstone_terms_uses), ("veilstone/normal.uses", Rows.laid_veilstone_normal_uses), ("unicode/utf8.first", Rows.laid_unicode_utf8_first)]
theorem yQ_:Kids prog (·<Tryz.prog.types.size):=kids_rows zac_ zac_
theorem full:∀ t e,t<Tryz.prog.types.size->Tryz.prog.underlying t=some (.slice e)->0<Tryz.prog.cellsOf e:=slices_full_of _ zac_
theorem ow_:Tryz.prog.types.size=454:=by kernel_rfl
theorem Ap_:Tys prog 3 4 9 25 28 26 30 22 80 69 where
  i:=m_
  b:=gq_
  s:=aO_
  ss:=iA_
  c:=⟨_,underlying28,rfl⟩
  cs:=underlying26
  a:=⟨_,underlying30,rfl⟩
  axs:=underlying22
  p:=⟨_,fL_,rfl⟩
  ps:=underlying69
  ci:=by kernel_rfl
  cb:=by kernel_rfl
  cs1:=by kernel_rfl
  css:=by kernel_rfl
  cc:=by kernel_rfl
  ccs:=by kernel_rfl
  ca:=by kernel_rfl
  cp:=by kernel_rfl
  bs:=by kernel_rfl
  bc:=by kernel_rfl
  ba:=by kernel_rfl
  bp:=by kernel_rfl
theorem mV_ {W:World} (h:laidMetH prog gG_ W):∃ T fz,W.heap[1]? = some (.cells (fh_ (H:=Unit) Rows.laid_veilstone_terms_needs).toArray T fz):=by
  rw[MakeChecks.laidMetH_plain _ _ _ zk]at h;exact kE_ yQ_ (name := "veilstone/terms.needs") h (by simp [gG_]) (g := 1) (t := 315) zk zk (by rw [ow_]; decide) (m := 4) zk
theorem nM_ {W:World} (h:laidMetH prog gG_ W):∃ T fz,W.heap[0]? = some (.cells (fh_ (H:=Unit) Rows.laid_veilstone_terms_uses).toArray T fz):=by
  rw[MakeChecks.laidMetH_plain _ _ _ zk]at h;exact kE_ yQ_ (name := "veilstone/terms.uses") h (by simp [gG_]) (g := 0) (t := 91) zk zk (by rw [ow_]; decide) (m := 4) zk
theorem mW_ {W:World} (h:laidMetH prog gG_ W):∃ T fz,W.heap[3]? = some (.cells (fh_ (H:=Unit) Rows.laid_veilstone_normal_uses).toArray T fz):=by
  rw[MakeChecks.laidMetH_plain _ _ _ zk]at h;exact kE_ yQ_ (name := "veilstone/normal.uses") h (by simp [gG_]) (g := 3) (t := 326) zk zk (by rw [ow_]; decide) (m := 4) zk
theorem gV_ {W:World} (h:laidMetH prog gG_ W):∃ T fz,W.heap[6]? = some (.cells (fh_ (H:=Unit) Rows.laid_internal_strconv_uint64pow10).toArray T fz):=by
  rw[MakeChecks.laidMetH_plain _ _ _ zk]at h;exact kE_ yQ_ (name := "internal/strconv.uint64pow10") h (by simp [gG_]) (g := 6) (t := 437) zk zk (by rw [ow_]; decide) (m := 4) zk
theorem qP_ {W:World} {g:Nat} {l:List Value} {d:List Value} (h:∃ T fz,W.heap[g]? = some (.cells l.toArray T fz)) (e:l=d):bG_ (vw W) (some ⟨g,0,none⟩) d:=by
  obtain⟨T,fz,h⟩:=h;subst e;exact .inr ⟨g,0,_,T,fz,rfl,(yax_.1 h).1,h,λj x m=>by rw[ybw_];simpa using m⟩
theorem As_ {W:World} (h:laidMetH prog gG_ W):bN_.p (vw W):=by
  refine⟨qP_ (mV_ h) zk,qP_ (nM_ h) zk,trivial,?_⟩;obtain⟨T,fz,d⟩:=gV_ h;refine⟨trivial,(yax_.1 d).1,T,fz,?_⟩;rw[show (Lib.pow10Tab.map λz=>Value.int .u64 z)=fh_ (H:=Unit) Rows.laid_internal_strconv_uint64pow10 by kernel_rfl];exact d
theorem At_ {W:World} (h:laidMetH prog gG_ W):hx_.p (vw W):=qP_ (mW_ h) zac_
theorem der_b {p:List Pc} {B:List Str} (e:cs_ p=0) {y:Fc} (h:Der p B y):y.kind=1->y.b∈atS p\/y.b=y.a:=h.least (T:=λy=>y.kind=1->y.b∈atS p\/y.b=y.a) λz v=>by
  have d:∀ {x:Pc},x∈p->(x.kind=1\/x.kind=2\/x.kind=3\/x.kind=4\/x.kind=9)->x.c∈atS p:=fun {x} hx hk=>vN_ hx (.inr (.inr rfl)) (kL_ (eH_ e x hx) hk)
  cases v with
  | r1 h=>exact λ_=>.inr rfl
  | r2 h=>exact λ_=>.inl (rH_ p)
  | r10 hx hk h=>exact λq=>absurd q zbC_
  | r3 hx hk h=>exact λ_=>.inl (d hx zaa_)
  | r4 hx hk h h'=>exact λ_=>.inl (d hx zaa_)
  | r5 hx hk h=>exact λq=>absurd q zbC_
  | r6 hx hk h=>exact λq=>absurd q zbC_
  | r7 hx hk h h'=>exact λq=>absurd q zbC_
  | r8 hx hk h h'=>exact λ_=>.inl (d hx zaa_)
  | r9 h h'=>exact λ_=>.inl (jF_ p)
  | r11 hx hk h=>exact λq=>absurd q (by simp[an_])
  | r12 h h' hm hl=>exact λq=>absurd q (by simp[an_])
  | r13 h h' hm hl=>exact λ_=>.inl (jF_ p)
  | r14 hx hk h h1 h2=>exact λ_=>.inl (d hx zaa_)
theorem oT_ {p:List Pc} {S:List Str} {c:Cl} (q:cs_ p=0) (v:dF_ (p++kk_ S) 1073741824 c 0) :
    (∀ y∈c.facts,Der p (atS p) (qM_ (atS p) y))/\(∀ y,Der p (atS p) y->y∈c.facts)/\∀ y∈c.facts,y.kind=1->y.b∈atS p\/y.b=y.a:=by
  have e:=v.good.2.2.2.2.2.2.1;refine⟨λy d=>zw_ q (vE_ ((e y).1 d)),λy d=>(e y).2 ?_,λy d=>der_b q (vE_ ((e y).1 d))⟩;exact d.mono (λx h=>⟨x,yam_ _ h,x.frm,rfl⟩) (sub_at λx h=>⟨x,yam_ _ h,x.frm,rfl⟩)
theorem wY_ {fs:List Fc} {a r b:Str}:pq_ fs (ae_ a r b)=true↔ae_ a r b∈fs\/X_ a [33]∈fs:=by
 unfold pq_;rw[ybT_];constructor
 .rintro ⟨x,d,h⟩
  simp only[yby_,yaq_,yaI_]at h;rcases h with (h|h)|h
  .exact .inl (h▸d)
  .exact .inr (h▸d)
  exact absurd (yae_ Fc.kind h.1.1) (by simp[ae_,an_])
 rintro (h|h)
 .exact⟨_,h,by simp⟩
 exact⟨_,h,by simp[ae_]⟩
theorem BU_ (s:Str):clF (X_ (bp_ s) [33])=true:=BV_.2 ⟨rfl,.inr (by unfold hpB;simp[bp_,X_];omega)⟩
theorem nm_ (s:Str):nls (bp_ s)=false:=by simp[nls,bp_]
section
variable {X:List Ax} {m:Mdl} {c:Cl} (hB:Bok X m c) (hno:∀ f∈c.facts,clF f=false) {s:Str} (hs:bp_ s∈m.no)
include hB hno hs
theorem Cz_ {S:List Str} {d:Cl} (v:dF_ (bL_ 0 X++kk_ S) 1073741824 d 0):X_ (bp_ s) [33] ∉ d.facts:=λh=>by
  have q:=(oT_ hB.pc v).1 _ h
  have e:qM_ (atS (bL_ 0 X)) (X_ (bp_ s) [33])=X_ (bp_ s) [33]:=by
    show X_ (sig _ (bp_ s)) (sig _ [33])=_
    rw[fE_ (hB.no_at hs),fE_ (jF_ _)]
  rw[e,<-hB.der]at q;have:=hno _ q;rw[BU_]at this;cases this
theorem ct_ty {S:List Str} {d:Cl} {n:Str} (G:bp_ s≠n) (F:dF_ (bL_ 0 X++kk_ S) 1073741824 d 0):pq_ d.facts (X_ (bp_ s) n)=decide (X_ (bp_ s) n∈m.ty):=by
 obtain⟨C,B,E⟩:=oT_ hB.pc F;rw[ybx_,zx_,yaI_,hB.ty];constructor
 .rintro (h|h)
  .have A:n∈atS (bL_ 0 X):=(E _ h rfl).resolve_right λq=>G q.symm
   have v:=C _ h
   have e:qM_ (atS (bL_ 0 X)) (X_ (bp_ s) n)=X_ (bp_ s) n:=by
     show X_ (sig _ (bp_ s)) (sig _ n)=_
     rw[fE_ (hB.no_at hs),fE_ A]
   rw[e]at v;exact⟨v,rfl,hs⟩
  exact absurd h (Cz_ hB hno hs F)
 exact λh=>.inl (B _ h.1)
theorem ct_li {S:List Str} {d:Cl} {r t:Str} (E:bp_ t∈m.no) (B:dF_ (bL_ 0 X++kk_ S) 1073741824 d 0):pq_ d.facts (ae_ (bp_ s) r (bp_ t))=wj_ m (bp_ s) r (bp_ t):=by
 obtain⟨A,v,C⟩:=oT_ hB.pc B;rw[yn_ (nm_ s) (nm_ t),ybx_,wY_,yaI_,hB.li];constructor
 .rintro (h|h)
  .have q:=A _ h
   have e:qM_ (atS (bL_ 0 X)) (ae_ (bp_ s) r (bp_ t))=ae_ (bp_ s) r (bp_ t):=by
     show ae_ (sig _ (bp_ s)) r (sig _ (bp_ t))=_
     rw[fE_ (hB.no_at hs),fE_ (hB.no_at E)]
   rw[e]at q;exact⟨q,rfl,nm_ s,nm_ t⟩
  exact absurd h (Cz_ hB hno hs B)
 exact λh=>.inl (v _ h.1)
end
structure LnG (s r t:Str) (x:Ax):Prop where
  k:x.kind=9
  l:x.left.core=(Con.mk 0 [] 0 0 none 0 []).core
  rc:x.right.core=(Con.mk 0 [] 0 0 none 0 []).core
  rs:x.roles=[]
  ro:x.role=r
  a:x.a=s
  b:x.b=t
section
variable {s r t:Str} {a y:Ax}
theorem LnG.form (h:LnG s r t a):∃ o M N G F H c3,a=⟨9,o,Con.mk 0 [] 0 0 M N [],Con.mk 0 [] 0 0 G F [],H,c3,[],r,s,t⟩:=by
  obtain⟨I,K,e⟩:=fY_ h.l;obtain⟨J,L,C⟩:=fY_ h.rc;cases a with
  | mk k o l r d c rs ro sa sb =>
    have v:=h.k;have A:=h.rs;have E:=h.ro;have q:=h.a;have B:=h.b;dsimp only at v A E q B e C;subst v A E q B e C;exact⟨_,_,_,_,_,_,_,rfl⟩
theorem LnG.tdy (h:LnG s r t a) (g:TdyOf a y):LnG s r t y:=by
  have hs:¬ a.swp:=λq=>by have:=q.1;rw[h.k]at this;omega
  have hl:=g.left;rw[yag_ hs]at hl;have d:=g.right;rw[yag_ hs]at d;have e:a.tdyL=a.left:=by unfold Ax.tdyL;rw[h.k];rfl
  have er:a.tdyR=a.right:=by unfold Ax.tdyR;rw[h.k];rfl
  rw[e]at hl;rw[er]at d;exact⟨g.kind.trans h.k,hl.trans h.l,d.trans h.rc,g.roles.trans h.rs,g.role.trans h.ro,g.a.trans h.a,g.b.trans h.b⟩
theorem LnG.chk (h:LnG s r t a) (g:LnG s r t y):a.check=y.check:=by
  obtain⟨o,G,H,E,C,F,c3,rfl⟩:=h.form;obtain⟨o',d,e,q,B,v,A,rfl⟩:=g.form;rfl
theorem LnG.goal (h:LnG s r t a) (d:a.check=0):a.goalP=(cM_ (-1) [bp_ s,bp_ t] [],[ae_ (bp_ s) r (bp_ t)],0):=by
  obtain⟨o,B,C,v,e,A,c3,rfl⟩:=h.form;unfold Ax.goalP;rw[yag_ (λq=>q d),yag_ zaL_,yag_ zaL_,yag_ zaL_,yag_ zaL_,yag_ zaL_,yao_ rfl];rfl
end
theorem pY_ (a b:Str):∃ S,cM_ (-1) [a,b] []=kk_ S:=by
 by_cases h:a=b
 .exact⟨[a],by subst h;simp[cM_,ins,pi_,kk_]⟩
 exact⟨[a,b],wF_ h⟩
theorem ke_ {x:Ax} (h:x.tdyE=0):x.check=0:=by
 unfold Ax.tdyE at h
 by_cases q:x.check=0
 .exact q
 rw[yao_ q]at h;exact absurd h q
theorem vB_ {l:List Ax} {a:Ax} {x:Bool} (hb:BCk l 0) (hE:EnR l a x 0):a.check=0/\∃ y,TdyOf a y/\∃ c,dF_ (bL_ 0 l++y.goalP.1) 1073741824 c 0/\x=y.goalP.2.1.all (pq_ c.facts):=by
 obtain⟨A,h,q|⟨_,y,F,v,q|⟨B,c,C,E,q|⟨e,_,d⟩⟩⟩⟩:=hE
 .exact absurd (h.uniq hb) q.1
 .exact absurd q.2.2.symm q.1
 .exact absurd q.2.2.symm q.1
 subst B e;exact⟨ke_ v.1.symm,y,(v.2 rfl).1,c,E,d⟩
theorem TyG.plain {s n:Str} {a:Ax} (h:TyG s n a) (q:a.check=0):bj_ n=true:=by
  have d:=hn_ q (by rw[h.k];rfl);obtain⟨ad,cp,e⟩:=fY_ h.r;rw[e]at d;exact (Con.names_of ((Con.check_iff _).1 d).2.2).plain (.inl rfl)
section
variable {X:List Ax} {m:Mdl} (hb:BCk X 0) (hM:tC_ X m 0) (hC:CoR X true 0) {s:Str} (hs:bp_ s∈m.no) {a:Ax} {x:Bool}
include hb hM hC
theorem zB_:∃ c,Bok X m c/\∀ f∈c.facts,clF f=false:=by
 obtain⟨c,hB⟩:=hM.bok rfl;obtain⟨d,B,E,q|⟨A,_,v⟩⟩:=co_ok hb hC
 .exact absurd q.2.1 zaj_
 subst A;refine⟨c,hB,λf C=>?_⟩;have e:=(E.good.2.2.2.2.2.2.1 f).2 ((hB.der f).1 C);have h:(d.facts.any clF)=false:=by simpa using v.symm
 simpa using ycL_.1 h f e
include hs
theorem BL_ {n:Str} (v:TyG s n a) (hE:EnR X a x 0):x=decide (X_ (bp_ s) n∈m.ty):=by
  obtain⟨c,hB,hno⟩:=zB_ hb hM hC;obtain⟨A,y,B,d,q,rfl⟩:=vB_ hb hE;have e:=v.tdy B;have C:=e.goal (by rw[<-v.chk e];exact A);obtain⟨S,hS⟩:=pY_ (bp_ s) n;rw[C]at q ⊢;dsimp only at q ⊢;rw[hS]at q;have h:=ct_ty hB hno hs (ind_ne (v.plain A)) q;rw[<-h];simp[X_]
theorem vF_ {r t:Str} (B:bp_ t∈m.no) (v:LnG s r t a) (hE:EnR X a x 0):x=wj_ m (bp_ s) r (bp_ t):=by
  obtain⟨c,hB,hno⟩:=zB_ hb hM hC;obtain⟨E,y,A,d,q,rfl⟩:=vB_ hb hE;have e:=v.tdy A;have C:=e.goal (by rw[<-v.chk e];exact E);obtain⟨S,hS⟩:=pY_ (bp_ s) (bp_ t);rw[C]at q ⊢;dsimp only at q ⊢;rw[hS]at q;have h:=ct_li (r:=r) hB hno hs B q;rw[<-h];simp
end
theorem ct_not {X:List Ax} {m:Mdl} {n t:Str} (hM:tC_ X m 0) (hs:n ∉ m.no):decide (X_ n t∈m.ty)=false:=by
  obtain⟨c,hB⟩:=hM.bok rfl;exact yaS_ λh=>hs ((hB.ty _).1 h).2.2
end Go.Proofs.YtbffkokbdeppaaaGreatDoor
namespace Go.Proofs.YtbffkokbdeppaaaGreatDoor
open Go Go.Sx Go.Proofs Tryz
attribute [local irreducible] Code.wp wpList wpAnyH
open Go.Vs Go.Shelf Go.RowKit Go.Sort
theorem sortI {P:Program} {ρ:Ren} (L:SlLaysF0.n20 P ρ) {D:Type} {cells:D->List Value} {k:Nat} {Te:TypeId} (hk:∀ x,(cells x).length=k) (Z:0<k) (h1:∀ x,(cells x).all Value.oneCell'=true)
    (aE:∀ w,(isAgg (ρ.t 24)).run P w=.ok true w) (zE:∀ w,(Go.sizeOf (ρ.t 24)).run P w=.ok k w) {V:D->D->Int} (hO:Wko V) {g:Nat} (hg:ec_ P g) (hF:ec_ P (ρ.f 20))
    {Γ:List Fct} (hΓ:∀ (v:Vw) (q:Prop),af_ Γ v->af_ Γ ⟨v.im,v.w,q⟩) {sv:Value} {xs:List D} {Hr:Hp} (h:at_ Te k sv xs.length (xs.flatMap cells) Hr) (hl:xs.length<=1000000000000)
    (hC:∀ x∈xs,∀ y∈xs,Tri P g #[.agg (cells x).toArray,.agg (cells y).toArray] [] Γ (λ_:Unit=>iv_ (V x y)) (λ_=>[]) (λ_=>[])) :
    Tri P (ρ.f 20) #[sv,iv_ 0,iv_ xs.length,.func (.func g) #[] #[]] Hr Γ (λ_:{y:Hp×List D // at_ Te k sv y.2.length (y.2.flatMap cells) y.1/\y.2.Perm xs/\y.2.Pairwise λa b=>¬ V b a<0}=>.tuple #[]) (λy=>y.1.1) (λ_=>[]):=by
  by_cases C:xs=[]
  . subst C
    rcases h.2 with⟨rfl,G,rfl⟩|⟨b,cap,cur,rfl,rfl,O,h_3,S,h_5⟩
    . have T:=bZ_ (P:=P) (H:=[]) (Γ:=Γ) hF (λv _ _=>(AnyF.insertionSortCmpFunc_none L none 0 (.func (.func g) #[] #[]) v.w).mono zag_)
      exact⟨T.callable,λv a b=>(T.run v a b).mono (by rintro e w' ⟨x,X,A,E,K,J,M⟩;exact⟨⟨([],[]),at_.nil _ _,.refl _,List.Pairwise.nil⟩,X,A,E,K,J,M⟩)⟩
    . have T:=bZ_ (P:=P) (H:=[(b,.cells cur Te (0,0))]) (Γ:=Γ) hF (λv _ _=>(AnyF.insertionSortCmpFunc_none L (some ⟨b,0,none⟩) cap (.func (.func g) #[] #[]) v.w).mono zag_)
      exact⟨T.callable,λv a c=>(T.run v a c).mono (by rintro e w' ⟨x,X,A,E,K,J,M⟩;exact⟨⟨([(b,.cells cur Te (0,0))],[]),h,.refl _,List.Pairwise.nil⟩,X,A,E,K,J,M⟩)⟩
  . rcases h.2 with⟨_,G,_⟩|⟨b,cap,cur,rfl,rfl,O,h_3,S,h_5⟩
    . exact absurd (yau_ G) C
    . obtain⟨x_1,C⟩:=List.exists_mem_of_ne_nil _ C
      haveI:Inhabited {x // x∈xs}:=⟨⟨x_1,C⟩⟩
      have hx:(xs.flatMap cells).length=xs.length*k:=cr_ cells k hk xs;have hf:∀ l:List {x // x∈xs},(l.flatMap λz=>cells z.1)=(l.map Subtype.val).flatMap cells:=λl=>by rw[ydD_]
      have Y:(xs.attach.map Subtype.val)=xs:=ydt_ xs
      have T:=mD_ (P:=P) (Γ:=Γ) (r:=.tuple #[]) (g:=b) (cur:=cur) (T:=Te) (ι:={d:Array {x // x∈xs} // d.size=xs.length/\d.toList.Perm xs.attach/\d.toList.Pairwise λa b=>¬ V b.1 a.1<0}) (d:=λd=>((d.1.toList.map Subtype.val).flatMap cells).toArray) (f:=ρ.f 20) (args:=#[.slice (some ⟨b,0,none⟩) xs.length cap,iv_ 0,iv_ xs.length,.func (.func g) #[] #[]]) hF (λv hs hv=>by
        have hI:=insertionSort_holds (lt:=ltOf λ(a b:{x // x∈xs})=>V a.1 b.1) ⟨λx=>yaS_ (hO.irr x.1),λx y z h1 G=>yaC_ (hO.tr _ _ _ (yaZ_ h1) (yaZ_ G)),λx y z h1 G=>yaS_ (hO.ntr _ _ _ (ycf_ h1) (ycf_ G))⟩ xs.attach.toArray 0 xs.attach.toArray.size (ybC_ _) (yaj_ _)
        have hh:=AnyQ.insertionSortCmpFunc L k aE zE (λz:{x // x∈xs}=>cells z.1) (λz=>hk z.1) (λx u hu=>yaW_.1 (h1 x.1) u hu) (λa b=>V a.1 b.1)
          g #[] b 0 cap 0 xs.attach.toArray.size xs.attach.toArray v.w (λargs w=>hg args w) ?_ (by unfold Sort.HoldsK;rw[jv_ (cells:=λz:{x // x∈xs}=>cells z.1) (λz=>hk z.1) Z,hf,Y];exact rh_ hs (by rw[hx];exact h_5)) (yax_.1 (hs.own _ yav_).1).1 (ybC_ _) (yaj_ _) zan_
        . have A:xs.attach.toArray.size=xs.length:=by simp
          rw[A]at hh hI;refine hh.mono ?_;rintro e w' ⟨rfl,n,os,rfl⟩;obtain⟨hp,N⟩:=hI;generalize Sort.insertionSort (ltOf λ(a b:{x // x∈xs})=>V a.1 b.1) xs.attach.toArray 0 xs.length=F at hp N ⊢
          have I:F.size=xs.length:=by have:=hp.1;rwa [A]at this
          refine⟨rfl,⟨F,I,?_,?_⟩,n,os,?_⟩
          . have:=hp.2.2
            rw[<-I,ycT_,I]at this
            have E:xs.attach.toArray.extract 0 xs.length=xs.attach.toArray:=by
              have q:=ycT_ (xs:=xs.attach.toArray);rwa [A]at q
            rw[E]at this;exact this
          . rw[yaP_]
            intro i j hi hj hij;have hj':j<F.size:=by simpa using hj
            have:=N i j (ybC_ _) hij zaa_;rw[getElem!_pos F j hj',getElem!_pos F i zaa_]at this;have:=ycf_ this;simpa using this
          . unfold sortWorldK Sort.putRowK
            have R:=jv_ (cells:=λz:{x // x∈xs}=>cells z.1) (λz=>hk z.1) Z F.toList;rw[hf]at R;rw[show F.toList.toArray=F by simp]at R;rw[R]
        . intro m os dk _ x y
          have hgb:=hs.own _ yav_
          have U:∀ c,c<v.w.heap.size->c≠b->(sortWorldK (λz:{x // x∈xs}=>cells z.1) k v.w b 0 m dk os).heap[c]? = v.w.heap[c]? := λc W hn=>by
            unfold sortWorldK Sort.putRowK;simp only[Sort.grow,Sort.putRow,Sort.mapBlock,Sort.ahead];rw[ybA_ (by simpa using W),ybk_,yag_ (λq=>hn q.symm)]
          have Q:v.w.heap.size<=(sortWorldK (λz:{x // x∈xs}=>cells z.1) k v.w b 0 m dk os).heap.size:=by unfold sortWorldK Sort.putRowK;simp[Sort.grow,Sort.putRow,Sort.mapBlock,Sort.ahead]
          have hq:=(hC x.1 x.2 y.1 y.2).run ⟨v.im,sortWorldK (λz:{x // x∈xs}=>cells z.1) k v.w b 0 m dk os,False⟩ ⟨by simp,by simp,λc W=>ybQ_ (hs.lt c W) Q⟩
            (av_ (v:=⟨v.im,v.w,False⟩) ⟨λ_ q=>q,λc W=>U c (hs.lt c W) (λe=>hgb.2 (e▸W)),rfl⟩ (hΓ v False hv))
          refine hq.mono ?_;rintro e w' ⟨_,X,rfl,rfl,_,_,ht⟩;obtain⟨q,os',hw⟩:=fx_ ht (λh=>h);exact⟨rfl,q,os',hw⟩)
      refine⟨T.callable,λv a b=>(T.run v a b).mono ?_⟩;rintro e w' ⟨⟨F,I,hp,hpw⟩,X,A,E,K,J,M⟩;have B:(F.toList.map Subtype.val).length=xs.length:=by simp[I]
      have hy:((F.toList.map Subtype.val).flatMap cells).length=xs.length*k:=by rw[cr_ cells k hk,B]
      refine⟨⟨(_,F.toList.map Subtype.val),⟨by rw[hy,B],.inr ⟨_,cap,_,by rw[B],rfl,by rw[B];exact O,h_3,by rw[jk_];exact S,?_⟩⟩,?_,?_⟩,X,A,E,K,J,M⟩
      . have:=jj_ (cur:=cur) (d:=(F.toList.map Subtype.val).flatMap cells) (by rw[hy,S];exact ybr_ k O)
        rw[hy]at this;dsimp only;rw[B];exact this
      . have:=hp.map Subtype.val
        rwa [Y]at this
      . rw[ycu_];exact hpw
end Go.Proofs.YtbffkokbdeppaaaGreatDoor
namespace Go.Proofs
open Go.Shelf
def Tryz.insAx_ren:Go.Shelf.Ren:=⟨fun|20=>217|n=>n,fun|24=>30|22=>22|3=>3|25=>100|4=>4|0=>0|n=>n,fun|n=>n⟩
theorem Tryz.insAx:Go.Proofs.SlLaysF0.n20 Tryz.prog Tryz.insAx_ren:={
  mixed:=by kernel_rfl
  f20:=⟨Tryz.f217.name,by decide,Tryz.func217.trans (yae_ some zac_)⟩
  t0:=Tryz.underlying0
  a0:=Tryz.isAgg0
  z0:=Tryz.sizeOf0
  v0:=Tryz.zeroValue0
  t3:=Tryz.underlying3
  a3:=Tryz.isAgg3
  z3:=Tryz.sizeOf3
  v3:=Tryz.zeroValue3
  t4:=Tryz.underlying4
  a4:=Tryz.isAgg4
  z4:=Tryz.sizeOf4
  v4:=Tryz.zeroValue4
  t22:=Tryz.underlying22
  a22:=Tryz.isAgg22
  z22:=Tryz.sizeOf22
  v22:=Tryz.zeroValue22
  t25:=Tryz.underlying100
  a25:=Tryz.isAgg100
  z25:=Tryz.sizeOf100
  v25:=Tryz.zeroValue100 }
end Go.Proofs
namespace Go.Proofs.YtbffkokbdeppaaaGreatDoor
open Go Go.Sx Go.Proofs Tryz
attribute [local irreducible] Code.wp wpList wpAnyH
open Go.Vs
def Nz (x:Ax):Prop:=x.ok/\x.left.sz<=64/\x.right.sz<=64
def hm_ (l:List Ax):Fct:=⟨λv=>∀ x∈l,x.mem v,λv v' hl h x hx=>x.memF.mono v v' hl (h x hx)⟩
def Ax.opnS (x:Ax) (o:Bool):Ax:=⟨x.kind,o,x.left,x.right,x.ad,x.cap,x.roles,x.role,x.a,x.b⟩
theorem Nz.of {x y:Ax} {e:Int} (h:TyR x (y,e)) (d:e=0):Nz y:=by
  obtain⟨m,q⟩:=h.2 d;exact⟨q,sb_ m (kd_ (h.1.symm.trans d))⟩
theorem Nz.opn {x:Ax} (h:Nz x) (o:Bool):Nz (Ax.opnS x o):=⟨⟨h.1.lo,h.1.hi,h.1.left,h.1.right,h.1.len,h.1.cap,h.1.roles,h.1.role,h.1.a,h.1.b⟩,h.2⟩
theorem vn_ {l:List Ax} {y:Ax} (h:∀ z∈l,Nz z) (m:Nz y):∀ z∈l++[y],Nz z:=λz d=>by
  rw[yah_,yai_]at d;exact d.elim (h z) λe=>e▸m
theorem yE_ {l:List Ax} {i:Nat} {y:Ax} (h:∀ z∈l,Nz z) (d:Nz y):∀ z∈l.set i y,Nz z:=λz m=>(List.mem_or_eq_of_mem_set m).elim (h z) λe=>e▸d
theorem qy_ {l:List Ax} {y:Ax} {v:Vw} (h:(hm_ l).p v) (m:y.mem v):(hm_ (l++[y])).p v:=λz d=>by
  rw[yah_,yai_]at d;exact d.elim (h z) λe=>e▸m
theorem tt_ {l:List Ax} {i:Nat} {y:Ax} {v:Vw} (h:(hm_ l).p v) (d:y.mem v):(hm_ (l.set i y)).p v:=λz m=>(List.mem_or_eq_of_mem_set m).elim (h z) λe=>e▸d
theorem xm_ {S l:List Ax} {v:Vw} (h:(hm_ l).p v) (d:S.Perm l):(hm_ S).p v:=λt e=>h t (d.mem_iff.1 e)
theorem wkoA:Wko Ax.cmp where
  irr x:=by rw[Ax.cmp_self];omega
  tr x y z h1 h2:=Ax.cmp_lt h1 h2
  ntr x y z h1 h2 h:=by
    have m:=Ax.cmp_anti x y;have e:=Ax.cmp_anti y z;have d:=Ax.cmp_anti x z;have:=Ax.cmp_tr z y x;unfold Tr3 at this;omega
theorem insA_c {sv:Value} {d:List Ax} {Hr:Hp} (h:at_ 30 16 sv d.length (d.flatMap Ax.cells) Hr) (hl:d.length<=10) (E:∀ t∈d,Nz t) :
    Tri prog 217 #[sv,iv_ 0,iv_ d.length,.func (.func 58) #[] #[]] Hr [hm_ d] (λ_:{y:Hp×List Ax // at_ 30 16 sv y.2.length (y.2.flatMap Ax.cells) y.1/\y.2.Perm d/\y.2.Pairwise λa b=>¬ Ax.cmp b a<0}=>.tuple #[]) (λy=>y.1.1) (λ_=>[]) :=
  sortI (Γ:=[hm_ d]) Tryz.insAx Ax.cells_len zae_ Ax.cells_one bK_ L_ wkoA (callable func58 rfl rfl) (callable func217 rfl rfl)
    (λv q A=>⟨λt m=>⟨Con.mem_sl _ _ (yaj_ _) v q (A.1 t m).1,Con.mem_sl _ _ (yaj_ _) v q (A.1 t m).2.1,(A.1 t m).2.2⟩,trivial⟩) h zaa_
    (λx F y C=>by
      have B:=E x F;have e:=E y C;have T:=rB_ x y B.1 e.1 (by have:=B.2.1;omega) (by have:=B.2.2;omega) (by have:=e.2.1;omega) (by have:=e.2.2;omega);exact⟨T.callable,λv a b=>T.run v a ⟨b.1 x F,b.1 y C,trivial⟩⟩)
theorem xR_ {sv:Value} {m:List Ax} {Hr:Hp} (h:zR 30 16 Ax.cells sv m Hr) (hl:m.length<=10) (H:∀ t∈m,Nz t):Tri prog 141 #[sv,iv_ (List.length m:Int),.func (.func 58) #[] #[]] Hr [hm_ m] (λ_:{y:Hp×List Ax // at_ 30 16 sv y.2.length (y.2.flatMap Ax.cells) y.1/\y.2.Perm m}=>.tuple #[]) (λy=>y.1.1) (λ_=>[]):=by
 refine i_ func141 rfl rfl ntmps141 rfl λG=>?_;refine Zz 14 ?_;refine H_ (ι:={y:Value×Hp // y.1=sv/\zR 30 16 Ax.cells y.1 m y.2}) (λy=>[(0,y.1.1),(1,iv_ (List.length m:Int)),(2,.func (.func 58) #[] #[]),(6,iv_ 20),(7,iv_ 0),(8,iv_ 20)]) (λy=>(y.1.2)) (λy=>[hm_ m]) (λy=>0) ⟨(sv,Hr),rfl,h⟩ zl T_ zh ?_;rintro ⟨⟨x,A⟩,e,d⟩;dsimp only at e d ⊢;refine Zi 5 (λB=>?_) λB=>?_
 .refine Zz 11 ?_
  refine f_ (insA_c d hl H) rfl T_ zf rfl λ⟨⟨E,S⟩,v,q,F⟩=>?_;dsimp only;dsimp only at v q;try simp only[yaw_]
  refine Zz 3 ?_;refine H_ (ι:={y:Value×Hp // y.1=sv/\zR 30 16 Ax.cells y.1 S y.2}) (λy=>[(0,y.1.1),(1,iv_ (List.length m:Int)),(2,.func (.func 58) #[] #[]),(6,iv_ 20),(7,iv_ 0),(8,iv_ 20)]) (λy=>(y.1.2)) (λy=>[hm_ m]) (λy=>0) ⟨(x,E),e,v⟩ zl T_ zh ?_;rintro ⟨⟨x,A⟩,e,d⟩;dsimp only at e d ⊢;refine Zi 5 (λC=>?_) λC=>?_
  .refine Zz 5 ?_
   exact co_ results141 ⟨(A,S),(e▸d),q⟩ rfl T_ zt
  exfalso;omega
 exfalso;omega
theorem yd_ {sv:Value} {m:List Ax} {Hr:Hp} (h:zR 30 16 Ax.cells sv m Hr) (hl:m.length<=10) (x:∀ t∈m,Nz t):Tri prog 64 #[sv,.func (.func 58) #[] #[]] Hr [hm_ m] (λ_:{y:Hp×List Ax // at_ 30 16 sv y.2.length (y.2.flatMap Ax.cells) y.1/\y.2.Perm m}=>.tuple #[]) (λy=>y.1.1) (λ_=>[]):=by
  refine i_ func64 rfl rfl ntmps64 rfl λv=>?_;refine Zz 3 ?_;refine e_ (cv_ h aS_ rfl) rfl (Zz 1 ?_);refine f_ (xR_ h hl x) rfl T_ zf rfl λ⟨⟨q,S⟩,d,e⟩=>?_;dsimp only;dsimp only at d e;try simp only[yaw_]
  refine Zz 2 ?_;exact co_ results64 ⟨(q,S),d,e⟩ rfl T_ zt
theorem mg_ {G:Prop} (h:G:=by
 refine Zz 1 ?_;refine cn_ 2 E Cr_ rfl rfl rfl rfl (Zz 7 ?_);exact u_ ⟨(j+1,(X++[e]),J,C),G,(vn_ H (R e m)),(by rw[yaf_];exact Nat.succ_le_succ a4),E⟩ zab_ zl (l_ (c_ (c_ d_)) (c_ B_)) (λv _ h=>by exact⟨(qy_ h.1 (h.2.1.2 e m)),h.2.1,h.2.2.1,h.2.2.2.1,h.2.2.2.2.1,h.2.2.2.2.2.1,trivial⟩)):G:=h
set_option maxHeartbeats 1000000 in
theorem wE_ (l:List Ax) (ad:Ao) (cap:Nat) (hok:∀ x∈l,x.ok) (hll:l.length<=10):Tri prog 23 #[.slice ad l.length cap] [] [cG_ ad l,bN_] (λy:{y:List Ax×Ao×Nat×Int // (∀ x∈y.1,x.ok)/\y.1.length<=l.length/\(y.2.2.2=0->BCk y.1 0)}=>.tuple #[.agg #[.slice y.1.2.1 y.1.1.length y.1.2.2.1],iv_ y.1.2.2.2]) (λ_=>[]) (λy=>[cG_ y.1.2.1 y.1.1]):=by
 refine i_ func23 rfl rfl ntmps23 rfl λv_1=>?_;refine Zz 2 ?_;refine x_ zeroValue24 rfl λP=>Zz 17 ?_
 refine H_ (ι:={y:Nat×List Ax×Value×Hp // y.1<=List.length l/\(∀ z∈y.2.1,Nz z)/\y.2.1.length=y.1/\zR 30 16 Ax.cells y.2.2.1 y.2.1 y.2.2.2}) (λy=>[(2,zp_ P 0),(3,iv_ 0),(4,y.1.2.2.1),(13,.slice ad l.length cap),(14,iv_ (List.length l:Int)),(15,iv_ y.1.1)]) (λy=>((P,.cells #[.slice none 0 0] 24 (0,0))::y.1.2.2.2)) (λy=>[hm_ y.1.2.1,cG_ ad l,bN_]) (λy=>l.length - y.1.1) ⟨((0:Nat),([]:List Ax),(.slice none 0 0),[]),by simp,zaj_,rfl,(at_.nil _ _)⟩ zl d_ (λv _ h=>by exact⟨(show (hm_ ([]:List Ax)).p v from λz W=>by cases W),h.1,h.2.1,trivial⟩) ?_;rintro ⟨⟨i,ys,sv_A,H_A⟩,hi_i,hY,hyl,V⟩;dsimp only at hi_i hY hyl V ⊢;refine Zi 2 (λQ=>?_) λQ=>?_
 .refine Zz 9 ?_
  refine f_ (yd_ V zaa_ hY) rfl B_ zf rfl λ⟨⟨Hs_1,S⟩,a0,M⟩=>?_;dsimp only;dsimp only at a0 M;refine Zz 3 ?_;refine A_ (bc_ aU_) (bk_ (aW_ a0 B_ λaad acap haad hcaad hmaad hzaad=>?_));subst haad;refine iN_ (Γ':=cG_ aad S::[ac_ aad (S.flatMap Ax.cells),hm_ ys,cG_ ad l,bN_]) (λv _ h=>⟨⟨h.1,λx hx=>(xm_ h.2.1 M) x hx⟩,h⟩) ?_;have R:∀ z∈S,Nz z:=λz W=>hY z (M.mem_iff.1 W)
  have hSl:=M.length_eq;refine Zz 7 ?_;refine H_ (ι:={y:Nat×List Ax×Value×Hp // y.1<=List.length S/\(∀ z∈y.2.1,Nz z)/\y.2.1.length<=y.1/\zR 30 16 Ax.cells y.2.2.1 y.2.1 y.2.2.2}) (λy=>[(2,zp_ P 0),(3,iv_ 0),(4,.slice aad S.length acap),(13,.slice ad l.length cap),(14,iv_ (List.length l:Int)),(15,iv_ i),(35,.slice aad S.length acap),(36,iv_ (List.length S:Int)),(37,iv_ y.1.1)]) (λy=>((P,.cells #[y.1.2.2.1] 24 (0,0))::y.1.2.2.2)) (λy=>[hm_ y.1.2.1,cG_ aad S,ac_ aad (S.flatMap Ax.cells),hm_ ys,cG_ ad l,bN_]) (λy=>S.length - y.1.1) ⟨((0:Nat),([]:List Ax),(.slice none 0 0),[]),by simp,zaj_,zaj_,(at_.nil _ _)⟩ zl d_ (λv _ h=>by exact⟨(show (hm_ ([]:List Ax)).p v from λz W=>by cases W),h.1,h.2.1,h.2.2.1,h.2.2.2.1,h.2.2.2.2.1,trivial⟩) ?_;rintro ⟨⟨j,X,K,H_X⟩,hi_j,H,a4,A⟩;dsimp only at hi_j H a4 A ⊢;have hXn:X.length<=10:=by omega
  refine Zi 2 (λI=>?_) λI=>?_
  .refine Zz 8 ?_
   refine aW_ A B_ λY Z a6 hcxad hmxad hzxad=>?_;subst a6;refine iN_ (Γ':=cG_ Y X::[ac_ Y (X.flatMap Ax.cells),hm_ X,cG_ aad S,ac_ aad (S.flatMap Ax.cells),hm_ ys,cG_ ad l,bN_]) (λv _ h=>⟨⟨h.1,λx hx=>h.2.1 x hx⟩,h⟩) ?_;refine Zz 2 ?_;refine f_ (iY_ X Y Z (λz W=>(H z W).1) zaa_) rfl g_ zf rfl λ⟨N,he_1⟩=>?_;dsimp only;refine Zi 6 (λF=>?_) λF=>?_
   .refine Zz 8 ?_
    refine n_ 0 gZ_ rfl rfl rfl rfl rfl rfl (Zz 4 ?_);exact AP_ ⟨(X,Y,Z,0),(λz W=>(H z W).1),zab_,λ_=>(by have q:N=0:=zbg_;exact q▸he_1)⟩ (λaa v T O _=>bI_ 0 results23 isAgg24 gZ_ rfl rfl rfl rfl aa v T O) g_ zf
   refine Zz 5 ?_;refine e_ (C_ xQ_ rfl rfl) rfl (Zz 1 ?_);refine n_ 0 gZ_ rfl rfl rfl rfl rfl rfl (Zz 4 ?_);exact AP_ ⟨([],none,0,N),zaj_,ybC_ _,λq=>absurd q zbg_⟩ (λaa v T O _=>bI_ 0 results23 isAgg24 gZ_ rfl rfl rfl rfl aa v T O) g_ (λv _ h=>by exact⟨⟨.inl rfl,by simp⟩,trivial⟩)
  obtain⟨G,e,a7,m⟩:=zge (show j<S.length by omega);refine Zz 12 ?_;refine x_ aJ_ rfl λa5=>n_ 0 L_ rfl rfl rfl rfl rfl rfl (Zz 6 ?_)
  refine e_ (cv_ A aS_ rfl) rfl (Zz 5 ?_);refine D_ 10 [0,1,2] zk zs (Zi 1 (λF=>?_) λF=>?_)
  .refine Zz 2 ?_
   refine D_ 0 [3,4,5,6,7,8,9,10,11,12] zk zs (Zz 18 ?_);refine O_ aS_ L_ aJ_ rfl rfl rfl rfl rfl rfl λb_3=>?_;refine aj_ (news:=List.flatMap Ax.cells [e]) uy_ A rfl rfl (c_ (c_ B_)) rfl (aL_ 0 rfl) (λu hu=>az_ Ax.cells_one hu) zam_ zap_ rfl λJ C Q=>?_;refine A_ yaB_ ?_;have E:=zsa Q;exact mg_
  have a2:(Int.toNat ((List.length X:Int) - 1))<X.length:=by omega
  obtain⟨d,L⟩:∃ N,X[(Int.toNat ((List.length X:Int) - 1))]? = some N:=⟨_,yaa_ a2⟩;have B:d∈X:=yad_ L;refine Zz 2 ?_;refine D_ 2 [3,4,5,6,7,8,9,10] zk zs (Zz 4 ?_);refine bu_ rfl rfl rfl (be_ A aS_ L_ rfl rfl zaa_ zaa_) rfl (bu_ rfl rfl rfl (cS_ A (c_ B_) bK_ L_ rfl (Ax.cells_len _) zae_ (w_ Ax.cells_len L)) rfl (bu_ rfl rfl rfl (C_ xO_ rfl rfl) rfl (Zz 2 ?_)));refine p_ 11 rfl zk (ay_ rfl rfl (S_ (vS_ d e (H d B).1 (R e m).1 (by have:=(H d B).2.1;omega) (by have:=(H d B).2.2;omega) (by have:=(R e m).2.1;omega) (by have:=(R e m).2.2;omega)) rfl g_ (λv _ h=>by exact⟨(h.1 d B),(h.2.1.2 e m),trivial⟩) rfl λr_1 hr_4=>?_));refine Zz 3 ?_;refine D_ 0 [12] zk zs (Zz 4 ?_);cases r_1
  .refine Zz 5 ?_
   refine O_ aS_ L_ aJ_ rfl rfl rfl rfl rfl rfl λb_3=>?_;refine aj_ (news:=List.flatMap Ax.cells [e]) uy_ A rfl rfl (c_ (c_ B_)) rfl (aL_ 0 rfl) (λu hu=>az_ Ax.cells_one hu) zam_ zap_ rfl λJ C I=>?_;refine A_ yaB_ ?_;have E:=zsa I;exact mg_
  refine ce_ rfl ?_;refine ak_ ((a5,.cells (Ax.cells e).toArray 30 (0,0))::((P,.cells #[K] 24 (0,0))::[])) zk ?_;refine D_ 8 [0,1,2,3,4,5,6,7,8,9] zk zs (Zz 8 ?_);refine M_ rfl (be_ A aS_ L_ rfl rfl zaa_ zaa_) rfl (Zz 2 ?_);refine p_ 10 rfl zk (e_ (cw_ A (c_ B_) zb_ rfl (w_ Ax.cells_len L 1 _ rfl)) rfl ?_);generalize hzo:Ax.opn d=zo
  refine Zz 3 ?_;refine D_ 6 [11] zk zs (Zz 2 ?_);cases zo
  .refine D_ 1 [12,13,14,15,16] zk zs (Zz 3 ?_)
   refine M_ rfl (be_ A aS_ L_ rfl rfl zaa_ zaa_) rfl (Zz 2 ?_);refine p_ 17 rfl zk (ef_ (k:=((Int.toNat ((List.length X:Int) - 1)):Int).toNat*16+1) A (c_ B_) cF_ rfl rfl zaa_ rfl rfl λC hr_5=>?_);have U:=(gR_ Ax.cells 16 Ax.cells_len X (Int.toNat ((List.length X:Int) - 1)) 1 d (Ax.opnS d e.opn) (.bool e.opn) L zae_ rfl).trans (yae_ _ (rfl));have E:at_ 30 16 K (List.length (List.set X (Int.toNat ((List.length X:Int) - 1)) (Ax.opnS d e.opn))) (List.flatMap Ax.cells (List.set X (Int.toNat ((List.length X:Int) - 1)) (Ax.opnS d e.opn))) C:=by rw[<-U,show List.length (List.set X (Int.toNat ((List.length X:Int) - 1)) (Ax.opnS d e.opn))=X.length from (ybs_ ..)];exact hr_5
   refine Zz 5 ?_;refine A_ (Y_ (j_ d_) (bc_ aU_)) (Zz 5 ?_);exact u_ ⟨(j+1,(List.set X (Int.toNat ((List.length X:Int) - 1)) (Ax.opnS d e.opn)),K,C),G,(yE_ H (Nz.opn (H d B) _)),(by rw[ybs_];omega),E⟩ zab_ zl zp (λv _ h=>by exact⟨(tt_ h.1 (show Ax.mem d v from h.1 d B)),h.2.1,h.2.2.1,h.2.2.2.1,h.2.2.2.2.1,h.2.2.2.2.2.1,trivial⟩)
  refine D_ 1 [12,13,14,15,16] zk zs (Zz 3 ?_);refine M_ rfl (be_ A aS_ L_ rfl rfl zaa_ zaa_) rfl (Zz 2 ?_);refine p_ 17 rfl zk (ef_ (k:=((Int.toNat ((List.length X:Int) - 1)):Int).toNat*16+1) A (c_ B_) cF_ rfl rfl zaa_ rfl rfl λC F=>?_);have U:=(gR_ Ax.cells 16 Ax.cells_len X (Int.toNat ((List.length X:Int) - 1)) 1 d (Ax.opnS d true) (.bool true) L zae_ rfl).trans (yae_ _ (rfl));have E:at_ 30 16 K (List.length (List.set X (Int.toNat ((List.length X:Int) - 1)) (Ax.opnS d true))) (List.flatMap Ax.cells (List.set X (Int.toNat ((List.length X:Int) - 1)) (Ax.opnS d true))) C:=by rw[<-U,show List.length (List.set X (Int.toNat ((List.length X:Int) - 1)) (Ax.opnS d true))=X.length from (ybs_ ..)];exact F
  refine Zz 5 ?_;refine A_ (Y_ (j_ d_) (bc_ aU_)) (Zz 5 ?_);exact u_ ⟨(j+1,(List.set X (Int.toNat ((List.length X:Int) - 1)) (Ax.opnS d true)),K,C),G,(yE_ H (Nz.opn (H d B) _)),(by rw[ybs_];omega),E⟩ zab_ zl zp (λv _ h=>by exact⟨(tt_ h.1 (show Ax.mem d v from h.1 d B)),h.2.1,h.2.2.1,h.2.2.2.1,h.2.2.2.2.1,h.2.2.2.2.2.1,trivial⟩)
 obtain⟨G,e,a7,m⟩:=zge (show i<l.length by omega);refine Zz 12 ?_;refine x_ aJ_ rfl λa5=>n_ 0 L_ rfl rfl rfl rfl rfl rfl (Zz 5 ?_)
 refine f_ (nJ_ e (hok e m)) rfl g_ (λv _ h=>by exact⟨(h.2.1.2 e m),h.2.2.1,trivial⟩) rfl λ⟨⟨a3,N⟩,a1⟩=>?_;dsimp only;try dsimp only at a1
 refine Zz 3 ?_;refine x_ aJ_ rfl λb_3=>n_ 0 L_ rfl rfl rfl rfl rfl rfl (Zi 7 (λI=>?_) λI=>?_)
 .have hny:Nz a3:=Nz.of a1 (by simpa using I)
  refine Zz 8 ?_;refine O_ aS_ L_ aJ_ rfl rfl rfl rfl rfl rfl λb_4=>?_;refine aj_ (news:=List.flatMap Ax.cells [a3]) uy_ V rfl rfl (c_ (c_ (c_ B_))) rfl (aL_ 0 rfl) (λu hu=>az_ Ax.cells_one hu) zam_ zap_ rfl λJ C F=>?_;refine A_ yaB_ ?_;have E:=zsa F;refine Zz 8 ?_;exact u_ ⟨(i+1,(ys++[a3]),J,C),G,(vn_ hY hny),(by rw[yaf_,hyl];rfl),E⟩ zab_ zl (l_ (c_ (c_ (c_ d_))) (c_ (c_ B_))) (λv _ h=>by exact⟨(qy_ h.2.1 h.1),h.2.2.1,h.2.2.2.1,trivial⟩)
 refine Zz 5 ?_;refine e_ (C_ xQ_ rfl rfl) rfl (Zz 1 ?_);refine n_ 2 gZ_ rfl rfl rfl rfl rfl rfl (Zz 4 ?_);exact AP_ ⟨([],none,0,N),zaj_,ybC_ _,λq=>absurd q (by simpa using I)⟩ (λaa v T O _=>bI_ 2 results23 isAgg24 gZ_ rfl rfl rfl rfl aa v T O) g_ (λv _ h=>by exact⟨⟨.inl rfl,by simp⟩,trivial⟩)
end Go.Proofs.YtbffkokbdeppaaaGreatDoor
