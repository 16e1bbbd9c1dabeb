/-
  Lemmas for the law ModuleGoal (no condition).
-/
import Derived.Test.YtbffkokbdeppaaaGreatDoorQModuleGoal11
set_option linter.unusedVariables false
set_option linter.unusedSimpArgs false
set_option linter.unusedSectionVars false
set_option maxHeartbeats 1000000
namespace Go.Proofs.YtbffkokbdeppaaaGreatDoor
open Go Go.Sx Go.Proofs Tryz
attribute [local irreducible] Code.wp wpList wpAnyH
open Go.Vs
def pA_ (fs:List Fc) (f:Fc):Bool:=fs.any λx=>(decide (x=f)||decide (x=ah_ f.a [33]))||((decide (f=am_ f.a f.r f.lo f.hi)&&decide (x=am_ f.a f.r x.lo x.hi))&&(decide (f.lo<=x.lo)&&decide (x.hi<=f.hi)))
def lu_ (f x:Fc):Bool:=(decide (x=f)||decide (x=ah_ f.a [33]))||((decide (f=am_ f.a f.r f.lo f.hi)&&decide (x=am_ f.a f.r x.lo x.hi))&&(decide (f.lo<=x.lo)&&decide (x.hi<=f.hi)))
theorem wN_ (d:List Fc) (f:Fc):pA_ d f=d.any (lu_ f):=rfl
theorem any_no {α:Type} {p:α->Bool} {l:List α} {j:Nat} {x:α} (h:∀ y∈l.take j,p y=false) (e:l[j]? = some x) (d:p x=false):∀ y∈l.take (j+1),p y=false:=by grind[List.take_add_one]
theorem xa_ {α:Type} {p:α->Bool} {l:List α} {j:Nat} (h:∀ y∈l.take j,p y=false) (d:l.length<=j):false=l.any p:=by
  grind[List.take_of_length_le]
theorem jy_ {α:Type} {p:α->Bool} {l:List α} {x:α} (e:x∈l) (d:p x=true):true=l.any p:=by grind
theorem der_c (c:Cl) (f:Fc) (Y:c.facts.length<=1000000000000):Tri prog 203 #[Cl.val c,Fc.val f] [] [X_ c.fad (c.facts.flatMap Fc.cells)] (λ_:Unit=>.bool (pA_ c.facts f)) (λ_=>[]) (λ_=>[]):=by
 refine j_ func203 rfl rfl ntmps203 rfl λX=>?_;refine Zz 2 ?_;refine L_ rfl rfl λN=>L_ rfl rfl λM=>Zz 7 ?_
 refine f_ (gI_ f.a [33]) rfl i_ zt rfl λ_=>C_ ax_ rfl λO=>p_ 0 ao_ rfl rfl rfl rfl rfl rfl (Zz 4 ?_)
 refine G_ 3 [0,1,2,3,4,5,6,7,8] zk zs (Zz 10 ?_);refine m_ 9 rfl zk (f_ (oK_ f.a f.r f.lo f.hi) rfl i_ zt rfl λ_=>Zz 3 ?_);refine G_ 0 [10,11] zk zs (fG_ rfl (gt_ (p:=f) (q:=(am_ f.a f.r f.lo f.hi)) rfl rfl) rfl λU h=>Zz 14 ?_);cases U
 .replace h:=zdf h
  refine J_ (ι:={y:Nat // y<=List.length c.facts/\∀ z∈List.take y c.facts,lu_ f z=false}) (λy=>[(2,zp_ N 0),(3,zp_ M 0),(5,zp_ O 0),(6,.bool false),(24,.slice c.fad c.facts.length c.fcap),(25,i4_ (List.length c.facts:Int)),(26,i4_ y.1)]) (λy=>((O,.cells #[i4_ (Fc.kind (ah_ f.a [33])),str (Fc.a (ah_ f.a [33])),str (Fc.b (ah_ f.a [33])),str (Fc.r (ah_ f.a [33])),i4_ (Fc.lo (ah_ f.a [33])),i4_ (Fc.hi (ah_ f.a [33]))] 104 (0,0))::((M,.cells #[i4_ f.kind,str f.a,str f.b,str f.r,i4_ f.lo,i4_ f.hi] 104 (0,0))::((N,.cells #[.slice c.aad c.atoms.length c.acap,.slice c.fad c.facts.length c.fcap] 110 (0,0))::[])))) (λy=>[X_ c.fad (c.facts.flatMap Fc.cells)]) (λy=>c.facts.length - y.1) ⟨(0:Nat),by simp,by simp⟩ zl zp zh ?_;rintro ⟨j,W,A⟩;dsimp only at W A ⊢;refine Zi 2 (λk=>?_) λk=>?_
  .refine Zz 12 ?_
   exact ac_ hW_ () (z_ rfl (xa_ A zaa_)) i_ zt
  obtain⟨F,G,H,C⟩:=zge (show j<c.facts.length by omega);refine Zz 12 ?_;refine C_ ax_ rfl λT=>p_ 0 ao_ rfl rfl rfl rfl rfl rfl (Zz 7 ?_)
  refine F_ (gt_ (p:=G) (q:=f) rfl rfl) rfl λQ d=>Zz 1 ?_
  cases Q
  .replace d:=zdf d
   refine Zz 5 ?_;refine F_ (gt_ (p:=G) (q:=(ah_ f.a [33])) rfl rfl) rfl λS e=>Zz 3 ?_
   cases S
   .replace e:=zdf e
    refine Zz 5 ?_;refine G_ 0 [0,1,2,3,4,5,6,7,8,9,10,11,12,13,14,15,16,17,18,19,20,21,22,23,24,25,26,27] zk zs (Zz 39 ?_);exact w_ ⟨j+1,F,any_no A H (by have v:=yav_ h;have x:=ybj_ k;have m:=yav_ d;have B:=yav_ e;simp[lu_,v,x,m,B])⟩ zab_ zl (l_ (c_ e_) (l_ (c_ e_) (c_ e_))) zh
   replace e:=zdt e;refine Zz 7 ?_;exact ac_ hW_ () (z_ rfl (jy_ C (by have v:=yav_ h;have x:=ybj_ k;have m:=yav_ d;have B:=ybj_ e;simp[lu_,v,x,m,B]))) i_ zt
  replace d:=zdt d;refine Zz 13 ?_;exact ac_ hW_ () (z_ rfl (jy_ C (by have v:=yav_ h;have x:=ybj_ k;have m:=ybj_ d;simp[lu_,v,x,m]))) i_ zt
 replace h:=zdt h;refine J_ (ι:={y:Nat // y<=List.length c.facts/\∀ z∈List.take y c.facts,lu_ f z=false}) (λy=>[(2,zp_ N 0),(3,zp_ M 0),(5,zp_ O 0),(6,.bool true),(24,.slice c.fad c.facts.length c.fcap),(25,i4_ (List.length c.facts:Int)),(26,i4_ y.1)]) (λy=>((O,.cells #[i4_ (Fc.kind (ah_ f.a [33])),str (Fc.a (ah_ f.a [33])),str (Fc.b (ah_ f.a [33])),str (Fc.r (ah_ f.a [33])),i4_ (Fc.lo (ah_ f.a [33])),i4_ (Fc.hi (ah_ f.a [33]))] 104 (0,0))::((M,.cells #[i4_ f.kind,str f.a,str f.b,str f.r,i4_ f.lo,i4_ f.hi] 104 (0,0))::((N,.cells #[.slice c.aad c.atoms.length c.acap,.slice c.fad c.facts.length c.fcap] 110 (0,0))::[])))) (λy=>[X_ c.fad (c.facts.flatMap Fc.cells)]) (λy=>c.facts.length - y.1) ⟨(0:Nat),by simp,by simp⟩ zl zp zh ?_;rintro ⟨j,W,A⟩;dsimp only at W A ⊢;refine Zi 2 (λk=>?_) λk=>?_
 .refine Zz 12 ?_
  exact ac_ hW_ () (z_ rfl (xa_ A zaa_)) i_ zt
 obtain⟨F,G,H,C⟩:=zge (show j<c.facts.length by omega);refine Zz 12 ?_;refine C_ ax_ rfl λT=>p_ 0 ao_ rfl rfl rfl rfl rfl rfl (Zz 7 ?_)
 refine F_ (gt_ (p:=G) (q:=f) rfl rfl) rfl λQ d=>Zz 1 ?_
 cases Q
 .replace d:=zdf d
  refine Zz 5 ?_;refine F_ (gt_ (p:=G) (q:=(ah_ f.a [33])) rfl rfl) rfl λS e=>Zz 3 ?_
  cases S
  .replace e:=zdf e
   refine Zz 5 ?_;refine G_ 17 [0,1,2,3,4,5,6,7,8,9,10] zk zs (Zz 12 ?_);refine m_ 11 rfl zk (ar_ rfl rfl (f_ (oK_ f.a f.r G.lo G.hi) rfl i_ zt rfl λ_=>Zz 3 ?_));refine G_ 13 [12,13,14] zk zs (ja_ rfl rfl rfl (gt_ (p:=G) (q:=(am_ f.a f.r G.lo G.hi)) rfl rfl) rfl λV E=>Zz 3 ?_);cases V
   .replace E:=zdf E
    refine G_ 0 [15,16,17,18,19,20,21,22,23,24,25,26,27] zk zs (Zz 24 ?_);exact w_ ⟨j+1,F,any_no A H (by have v:=ybj_ h;have x:=ybj_ k;have m:=yav_ d;have B:=yav_ e;have I:=yav_ E;simp[lu_,v,x,m,B,I])⟩ zab_ zl (l_ (c_ e_) (l_ (c_ e_) (c_ e_))) zh
   replace E:=zdt E;refine G_ 6 [15,16,17,18,19,20,21] zk zs (Zi 4 (λJ=>?_) λJ=>?_)
   .refine Zz 3 ?_
    refine G_ 0 [22,23,24,25,26,27] zk zs (Zz 17 ?_);exact w_ ⟨j+1,F,any_no A H (by have v:=ybj_ h;have x:=ybj_ k;have m:=yav_ d;have B:=yav_ e;have I:=ybj_ E;have K:=yav_ J;simp[lu_,v,x,m,B,I,K])⟩ zab_ zl (l_ (c_ e_) (l_ (c_ e_) (c_ e_))) zh
   refine Zz 3 ?_;refine G_ 0 [22,23,24,25,26,27] zk zs (Zi 4 (λL=>?_) λL=>?_)
   .refine Zz 12 ?_
    exact w_ ⟨j+1,F,any_no A H (by have v:=ybj_ h;have x:=ybj_ k;have m:=yav_ d;have B:=yav_ e;have I:=ybj_ E;have K:=ybj_ J;have P:=yav_ L;simp[lu_,v,x,m,B,I,K,P])⟩ zab_ zl (l_ (c_ e_) (l_ (c_ e_) (c_ e_))) zh
   refine Zz 11 ?_;exact ac_ hW_ () (z_ rfl (jy_ C (by have v:=ybj_ h;have x:=ybj_ k;have m:=yav_ d;have B:=yav_ e;have I:=ybj_ E;have K:=ybj_ J;have P:=ybj_ L;simp[lu_,v,x,m,B,I,K,P]))) i_ zt
  replace e:=zdt e;refine Zz 7 ?_;exact ac_ hW_ () (z_ rfl (jy_ C (by have v:=ybj_ h;have x:=ybj_ k;have m:=yav_ d;have B:=ybj_ e;simp[lu_,v,x,m,B]))) i_ zt
 replace d:=zdt d;refine Zz 13 ?_;exact ac_ hW_ () (z_ rfl (jy_ C (by have v:=ybj_ h;have x:=ybj_ k;have m:=ybj_ d;simp[lu_,v,x,m]))) i_ zt
theorem Dq_ {s:Str} (h:bh_ s=true):s≠[]:=λe=>by subst e;revert h;decide
theorem gf_.good {p:List Pc} {d:Int} {c:Cl} (h:gf_ p d c 0):dO_ p=0/\0<=d/\d<=1073741824/\c.ok/\c.atoms=atS p/\uz_ p (atS p) (min d 65536).toNat (some c.facts):=by
  grind[gf_]
theorem gf_.bad {p:List Pc} {d:Int} {c:Cl} {e:Int} (h:gf_ p d c e) (k:e≠0):c=Cl.no:=by
  grind[gf_]
theorem gf_.ok {p:List Pc} {k:Int} {c:Cl} {e:Int} (h:gf_ p k c e):c.ok:=by
 by_cases d:e=0
 .subst d;exact h.good.2.2.2.1
 rw[h.bad d];exact Cl.no_ok
theorem gf_.len {p:List Pc} {v:Int} {c:Cl} {e:Int} (h:gf_ p v c e):c.atoms.length<=3*p.length+2/\c.facts.length<=65536:=by
 by_cases k:e=0
 .subst k
  obtain⟨_,_,_,_,m,d⟩:=h.good;refine⟨by grind[wZ_],?_⟩;have:=d.2.2;omega
 rw[h.bad k];grind[Cl.no]
def Dy_ (p q:List Pc):Prop:=∀ x∈p,∃ y∈q,∃ n,{ y with frm:=n }=x
theorem xc_ {p:List Pc} {d:Int} {c:Cl} {e:Int} (h:gf_ p d c e) (v:dO_ p=0) (m:0<=d) (k:d<=1073741824):(e=0/\c.atoms=atS p/\uz_ p (atS p) (min d 65536).toNat (some c.facts))\/(c=Cl.no/\e=(if d<65536 then 3 else 2)/\uz_ p (atS p) (min d 65536).toNat none):=by
  grind[gf_]
theorem Dy_.trans {p q r:List Pc} (h:Dy_ p q) (k:Dy_ q r):Dy_ p r:=λx e=>by
  obtain⟨y,d,n,rfl⟩:=h x e;obtain⟨z,v,m,rfl⟩:=k y d
  grind
theorem zu_ {p q:List Pc} (h:∀ x∈p,∃ y∈q,∃ n,{ y with frm:=n }=x):∀ s∈atS p,s∈atS q:=λs d=>by
 rw[jT_,dP_]at d ⊢;rcases d with k|k
 .obtain⟨x,A,m⟩:=yaB_.1 k
  obtain⟨y,v,n,e⟩:=h x A;subst e;exact .inl (yaB_.2 ⟨y,v,m⟩)
 grind
end Go.Proofs.YtbffkokbdeppaaaGreatDoor
namespace Go.Vs
open Go Go.Sx Go.Proofs.YtbffkokbdeppaaaGreatDoor
def nE_ (p:List Pc) (U:List Bool) (q:List Int) (i:Nat):Prop:=∀ m,m∈q↔∃ (j:Nat) (x:Pc),j<i/\p[j]? = some x/\U[j]? = some true/\x.frm=m
theorem nE_.zero {p:List Pc} {U:List Bool}:nE_ p U [] 0:=λm=>by simp
theorem nE_.miss {p:List Pc} {U:List Bool} {q:List Int} {i:Nat} (h:nE_ p U q i) (d:U[i]? = some false):nE_ p U q (i+1):=λm=>by
  rw[h m]
  grind
theorem nE_.hit {p:List Pc} {U:List Bool} {q:List Int} {i:Nat} {x:Pc} (h:nE_ p U q i) (k:p[i]? = some x) (d:U[i]? = some true):nE_ p U (if x.frm∈q then q else q++[x.frm]) (i+1):=λm=>by
  have e:m∈(if x.frm∈q then q else q++[x.frm])↔m∈q\/m=x.frm:=by
    grind
  rw[e,h m]
  grind
theorem nE_.done {p:List Pc} {S:List Str} {K:List Thg} {U:List Bool} {q:List Int} {i:Nat} (h:nE_ p U q i) (hi:p.length<=i) (d:ReachR p S K U) (m:Int):m∈q↔∃ x∈p,x.frm=m/\Usb p S x:=by
 rw[h m];constructor
 .rintro ⟨j,x,F,k,E,B⟩
  obtain⟨b,e,y⟩:=d.use j x k
  grind
 rintro ⟨x,v,B,C⟩;obtain⟨j,A⟩:=yaJ_ v;obtain⟨b,e,y⟩:=d.use j x A
 grind
theorem Aj_ {l:List Ax} {p:List Pc} {S:List Str} {i:Nat} {a:Ax} (d:l[i]? = some a) (hk:mZ_ a):Mat l p S i:=.inl ⟨a,by grind,hk⟩
theorem Ai_ {l:List Ax} {p:List Pc} {S:List Str} {i:Nat} {q:List Int} (h:∀ m,m∈q↔∃ x∈p,x.frm=m/\Usb p S x) (hi:(i:Int)∈q):Mat l p S i:=.inr ((h i).1 hi)
theorem Cz_ {l:List Ax} {p:List Pc} {S:List Str} {i:Nat} {a:Ax} {q:List Int} (h:∀ m,m∈q↔∃ x∈p,x.frm=m/\Usb p S x) (k:l[i]? = some a) (hk:¬ mZ_ a) (hi:¬ (i:Int)∈q):¬ Mat l p S i:=by
  rintro (⟨b,v,d⟩|e)
  all_goals grind
end Go.Vs
namespace Go.Proofs.YtbffkokbdeppaaaGreatDoor
open Go Go.Sx Go.Proofs Tryz
attribute [local irreducible] Code.wp wpList wpAnyH
open Go.Vs
theorem qO_ (x:List Ax) (lad:Ao) (lcap:Nat) (p:List Pc) (ad:Ao) (cap:Nat) (S:List Str) (sad:Ao) (e:Nat):Tri prog 75 #[.slice lad x.length lcap,.slice ad p.length cap,.slice sad S.length e] [] [] (λy:Nat×Nat×Nat=>.func (.func 161) #[] #[zp_ y.1 0,zp_ y.2.1 0,zp_ y.2.2 0]) (λ_=>[]) (λy=>[bk_ y.1 (.cells #[.slice ad p.length cap] 69 (0,0)),bk_ y.2.1 (.cells #[.slice sad S.length e] 25 (0,0)),bk_ y.2.2 (.cells #[.slice lad x.length lcap] 22 (0,0))]):=by
  refine j_ func75 rfl rfl ntmps75 rfl λA=>?_;refine Zz 2 ?_;refine L_ rfl rfl λk=>L_ rfl rfl λm=>L_ rfl rfl λv=>Zz 5 ?_
  refine d_ (bo_ rfl rfl) rfl (Zz 4 ?_);refine et_ (bk_ k (.cells #[.slice lad x.length lcap] 22 (0,0))) (aW_ (c_ (c_ e_))) (λ_ d h _=>⟨d,h⟩) ?_;refine et_ (bk_ m (.cells #[.slice ad p.length cap] 69 (0,0))) (aW_ (c_ e_)) (λ_ d h _=>⟨d,h⟩) ?_;refine et_ (bk_ v (.cells #[.slice sad S.length e] 25 (0,0))) (aW_ e_) (λ_ d h _=>⟨d,h⟩) ?_;exact ac_ results75 (m,v,k) rfl i_ zf
theorem mD_ {G:Prop} (h:G:=by
 refine gN_ rfl rfl rfl rfl ?_;refine gN_ rfl rfl rfl rfl ?_;refine gN_ rfl rfl rfl rfl ?_;refine d_ (gH_ rfl rfl) rfl ?_;refine d_ (ay_ rfl) rfl ?_;refine aD_ ?_;refine ap_ rfl ?_;refine au_ ?_;exact mG_):G:=h
theorem mE_ {G:Prop} (h:G:=by
 rintro ⟨E,I⟩;dsimp only;refine ap_ rfl ?_;refine cu_ rfl ?_;refine dr_ ?_;refine ap_ rfl ?_;refine ad_ ?_;refine d_ (aC_ rfl rfl rfl (bx_ zaa_ zaa_)) rfl ?_;refine d_ (ab_ rfl) rfl ?_;refine aD_ ?_;refine dw_ rfl ?_;exact w_ ⟨(k+1,E),m,(by rw[tD_ hM,<-C];exact I)⟩ zab_ zl zp zh):G:=h
theorem mF_ {G:Prop} (h:G:=by
 refine gP_ aP_ rfl rfl ?_;refine aO_ aP_ (ab_ rfl) rfl rfl ?_;refine gP_ aP_ rfl rfl ?_;refine aO_ aP_ (ab_ rfl) rfl rfl ?_;refine gP_ aP_ rfl rfl ?_;refine gO_ (hY s (k:Int) ⟨by rw[C];have:=tE_ (l:=d) (p:=p) (S:=S) k;omega,by omega,by omega⟩) rfl rfl (c_ E_) zf rfl λz=>?_;refine gP_ aP_ rfl rfl ?_;refine aO_ aP_ (aK_ rfl) rfl rfl ?_;refine aO_ aP_ (gH_ rfl rfl) rfl rfl ?_;refine cp_ ?_;refine dx_ rfl ?_;exact dY_ z zl zp zh):G:=h
theorem mG_ {G:Prop} (h:G:=by
 have hM:Mat d p S (k:Int):=Aj_ G (by unfold mZ_;omega);refine hF_ (ι:={E:σ // lst E=lst s++[(k:Int)]}) (λ_=>[(0,.func (.yield lq) #[] #[]),(1,zp_ bp 0),(3,zp_ O 0),(7,.map (some B)),(21,i4_ (List.length V:Int)),(22,i4_ i),(35,.slice lad d.length lcap),(36,i4_ (List.length d:Int)),(37,i4_ k),(66,.bool false)]) (λz=>((a0,.cells (Ax.cells Y).toArray 30 (0,0))::((B,.map F U)::(Z z.1)))) (λ_=>[bk_ bp (.cells #[.slice ad p.length cap] 69 (0,0)),bk_ bs (.cells #[.slice sad S.length A] 25 (0,0)),bk_ O (.cells #[.slice lad d.length lcap] 22 (0,0)),X_ ad (p.flatMap Pc.cells),X_ sad (S.flatMap aa_),bZ_ lad d,Fx,Fy]) ?_ ?_
 .refine bs_ ?_
  refine aO_ aP_ (ab_ rfl) rfl rfl ?_;refine aO_ aP_ (ab_ rfl) rfl rfl ?_;refine rD_ aP_ rfl rfl rfl rfl ?_;refine rD_ aP_ rfl rfl rfl rfl ?_;refine rD_ aP_ rfl rfl rfl rfl ?_;refine aO_ aP_ (gH_ rfl rfl) rfl rfl ?_;refine aO_ aP_ (ab_ rfl) rfl rfl ?_;exact mF_
 exact mE_):G:=h
theorem Al_ {σ:Type} {lq:Nat} {Z:σ->Hp} {lst:σ->List Int} (d:List Ax) (lad:Ao) (lcap:Nat) (p:List Pc) (ad:Ao) (cap:Nat) (S:List Str) (sad:Ao) (A:Nat) (bp bs O:Nat) (Fx Fy:Fct) (hY:∀ s x,((lst s).length<100000000/\0<=x/\x<(List.length d:Int))->kG_ prog lq (i4_ x) (Z s) [Fx,Fy] (λ_:{E:σ // lst E=lst s++[x]}=>.bool true) (λE=>Z E.1) (λ_=>[])) (s0:σ) (hs0:lst s0=[]) (hp:p.length<=100000000) (hS:S.length<=100000000) (hll:d.length<=100000000):Tri prog 161 #[.func (.yield lq) #[] #[],zp_ bp 0,zp_ bs 0,zp_ O 0] (Z s0) [bk_ bp (.cells #[.slice ad p.length cap] 69 (0,0)),bk_ bs (.cells #[.slice sad S.length A] 25 (0,0)),bk_ O (.cells #[.slice lad d.length lcap] 22 (0,0)),X_ ad (p.flatMap Pc.cells),X_ sad (S.flatMap aa_),bZ_ lad d,Fx,Fy] (λ_:{E:σ // lst E=eL_ d p S d.length}=>.tuple #[]) (λE=>Z E.1) (λ_=>[]):=by
 refine j_ func161 rfl rfl ntmps161 rfl λv_1=>?_;refine au_ ?_;refine ad_ ?_;refine d_ (cv_ isAgg69 rfl zf rfl) rfl ?_;refine d_ (cv_ isAgg25 rfl zf rfl) rfl ?_;refine f_ (Cj_ p ad cap S sad A hp hS) rfl i_ zf rfl λ⟨⟨kb,esK,cK,Kq,svU,V,HUq⟩,hEK,hBK,hrU,hRR⟩=>?_;dsimp only;dsimp only at hEK hBK hrU hRR;simp only[yaD_,yap_];refine d_ (ab_ rfl) rfl ?_;refine d_ (dK_ rfl rfl) rfl ?_;refine d_ (dK_ rfl rfl) rfl ?_;refine d_ (ay_ rfl) rfl ?_;refine d_ (ay_ rfl) rfl ?_;refine aD_ ?_;refine ap_ rfl ?_;refine au_ ?_;refine ad_ ?_;refine bt_ rfl λB=>?_;refine d_ (ay_ rfl) rfl ?_;refine aD_ ?_;refine ap_ rfl ?_;refine au_ ?_;refine au_ ?_;refine ad_ ?_;refine d_ (ab_ rfl) rfl ?_;refine d_ (cm_ hrU runUnderlying220 rfl) rfl ?_;refine d_ (ab_ rfl) rfl ?_;refine aD_ ?_;refine ap_ rfl ?_;refine dX_ ?_;let Pu:Array Value:=#[.slice lad d.length lcap];let Qu:Array Value:=#[.slice ad p.length cap];let Ru:Array Value:=#[.slice sad S.length A];refine J_ (ι:={y:Nat×Array MapEntry×Nat×List Int // y.1<=List.length V/\SetE (λn:Int=>i4_ n) y.2.1 y.2.2.2/\nE_ p V y.2.2.2 y.1}) (λy=>[(0,.func (.yield lq) #[] #[]),(1,zp_ bp 0),(3,zp_ O 0),(7,.map (some B)),(20,svU),(21,i4_ (List.length V:Int)),(22,i4_ y.1.1)]) (λy=>((B,.map y.1.2.1 y.1.2.2.1)::(HUq++(Z s0)))) (λy=>[bk_ bp (.cells Qu 69 (0,0)),bk_ bs (.cells Ru 25 (0,0)),bk_ O (.cells Pu 22 (0,0)),X_ ad (p.flatMap Pc.cells),X_ sad (S.flatMap aa_),bZ_ lad d,Fx,Fy]) (λy=>V.length - y.1.1) ⟨((0:Nat),#[],0,([]:List Int)),by simp,SetE.nil,nE_.zero⟩ zl zp zh ?_;rintro ⟨⟨i,F,U,q⟩,hi_i,H,hq⟩;dsimp only at hi_i H hq ⊢;refine au_ ?_;refine ad_ ?_;refine F_ (cO_ rfl rfl) rfl λr_1 L=>?_;refine aD_ ?_;refine ap_ rfl ?_;refine au_ ?_;cases r_1
 .replace L:=zdf L
  refine cu_ rfl ?_;refine jh_ rfl ?_;refine ap_ rfl ?_;refine au_ ?_;refine ad_ ?_;refine d_ (cv_ ny_ rfl zf rfl) rfl ?_;refine d_ (dS_ aN_ rfl) rfl ?_;refine d_ (ab_ rfl) rfl ?_;refine aD_ ?_;refine ap_ rfl ?_;refine dX_ ?_;have hqd:=hq.done (S:=S) (by rw[<-hRR.ul];omega) hRR;refine J_ (ι:={y:Nat×σ // y.1<=List.length d/\lst y.2=eL_ d p S y.1}) (λy=>[(0,.func (.yield lq) #[] #[]),(1,zp_ bp 0),(3,zp_ O 0),(7,.map (some B)),(21,i4_ (List.length V:Int)),(22,i4_ i),(35,.slice lad d.length lcap),(36,i4_ (List.length d:Int)),(37,i4_ y.1.1)]) (λy=>((B,.map F U)::(Z y.1.2))) (λy=>[bk_ bp (.cells Qu 69 (0,0)),bk_ bs (.cells Ru 25 (0,0)),bk_ O (.cells Pu 22 (0,0)),X_ ad (p.flatMap Pc.cells),X_ sad (S.flatMap aa_),bZ_ lad d,Fx,Fy]) (λy=>d.length - y.1.1) ⟨((0:Nat),s0),by simp,(by rw[qP_];exact hs0)⟩ zl zp zh ?_;rintro ⟨⟨k,s⟩,hi_k,C⟩;dsimp only at hi_k C ⊢;refine au_ ?_;refine ad_ ?_;refine F_ (cO_ rfl rfl) rfl λr_2 T=>?_;refine aD_ ?_;refine ap_ rfl ?_;refine au_ ?_;cases r_2
  .replace T:=zdf T
   refine cu_ rfl ?_;refine jh_ rfl ?_;refine sa_ rfl ?_;exact cj_ results161 ⟨s,by rw[show d.length=k by omega];exact C⟩ rfl E_ zt
  replace T:=zdt T;have m:k<d.length:=by omega
  obtain⟨Y,G⟩:∃ W,d[k]? = some W:=⟨_,yaa_ m⟩;refine bG_ rfl ?_;refine dr_ ?_;refine ap_ rfl ?_;refine au_ ?_;refine dX_ ?_;refine au_ ?_;refine ad_ ?_;refine d_ (ab_ rfl) rfl ?_;refine d_ (P_ aN_ I_ rfl rfl (λv _ h=>av_ (n:=16) Ax.cells_len zae_ (by exact h.2.2.2.2.2.1.1) G) zaa_ zag_) rfl ?_;refine d_ (ak_ (ad:=lad) (us:=Ax.cells Y) bA_ I_ rfl (λv _ h=>by exact h.2.2.2.2.2.1.1) (Ax.cells_len _) (A_ Ax.cells_len G)) rfl ?_;refine C_ aA_ rfl λa0=>?_;refine d_ (ay_ rfl) rfl ?_;refine p_ 0 I_ rfl rfl rfl rfl rfl rfl ?_;refine aD_ ?_;refine ap_ rfl ?_;refine au_ ?_;refine ad_ ?_;refine d_ (eQ_ gK_ rfl rfl rfl R_) rfl ?_;refine d_ (bU_ 0 bb_ rfl rfl rfl) rfl ?_;refine F_ (aV_ rfl rfl) rfl λr_3 K=>?_;refine d_ (ab_ rfl) rfl ?_;cases r_3
  .replace K:=znb K
   refine ar_ rfl rfl ?_;refine d_ (eQ_ gK_ rfl rfl rfl R_) rfl ?_;refine ar_ rfl rfl ?_;refine d_ (bU_ 0 bb_ rfl rfl rfl) rfl ?_;refine ar_ rfl rfl ?_;refine F_ (aV_ rfl rfl) rfl λr_4 P=>?_;refine d_ (fr_ rfl rfl) rfl ?_;refine d_ (ab_ rfl) rfl ?_;cases r_4
   .replace P:=znb P
    refine ar_ rfl rfl ?_;refine d_ (eQ_ gK_ rfl rfl rfl R_) rfl ?_;refine ar_ rfl rfl ?_;refine d_ (bU_ 0 bb_ rfl rfl rfl) rfl ?_;refine ar_ rfl rfl ?_;refine F_ (aV_ rfl rfl) rfl λr_5 N=>?_;refine d_ (fr_ rfl rfl) rfl ?_;refine d_ (ay_ rfl) rfl ?_;refine aD_ ?_;refine ap_ rfl ?_;refine au_ ?_;cases r_5
    .replace N:=znb N
     by_cases Q:(k:Int)∈q
     .have hM:Mat d p S (k:Int):=Ai_ hqd Q
      refine hF_ (ι:={E:σ // lst E=lst s++[(k:Int)]}) (λ_=>[(0,.func (.yield lq) #[] #[]),(1,zp_ bp 0),(3,zp_ O 0),(7,.map (some B)),(21,i4_ (List.length V:Int)),(22,i4_ i),(35,.slice lad d.length lcap),(36,i4_ (List.length d:Int)),(37,i4_ k),(66,.bool false)]) (λz=>((a0,.cells (Ax.cells Y).toArray 30 (0,0))::((B,.map F U)::(Z z.1)))) (λ_=>[bk_ bp (.cells Qu 69 (0,0)),bk_ bs (.cells Ru 25 (0,0)),bk_ O (.cells Pu 22 (0,0)),X_ ad (p.flatMap Pc.cells),X_ sad (S.flatMap aa_),bZ_ lad d,Fx,Fy]) ?_ ?_
      .refine bs_ ?_
       refine aO_ aP_ (ab_ rfl) rfl rfl ?_;refine aO_ aP_ (ab_ rfl) rfl rfl ?_;refine gP_ aP_ rfl rfl ?_;refine aO_ aP_ (ab_ rfl) rfl rfl ?_;refine gP_ aP_ rfl rfl ?_;refine aO_ aP_ (ab_ rfl) rfl rfl ?_;refine gP_ aP_ rfl rfl ?_;refine qJ_ aP_ (cU_ (k:=(k:Int)) vq_ runUnderlying223 bC_ rfl rfl H (λv h _=>(h.own _ (yab_ (i:=1) rfl)).1)) rfl rfl λr_6 e=>?_;refine aO_ aP_ (fr_ rfl rfl) rfl rfl ?_;refine aO_ aP_ (ab_ rfl) rfl rfl ?_;cases r_6
       .replace e:=zdf e
        exact absurd Q e
       replace e:=zdt e;exact mF_
      exact mE_
     have hM:¬ Mat d p S (k:Int):=Cz_ hqd G (by unfold mZ_;omega) Q;refine ad_ ?_;refine d_ (ab_ rfl) rfl ?_;refine d_ (ab_ rfl) rfl ?_;refine ar_ rfl rfl ?_;refine d_ (ab_ rfl) rfl ?_;refine ar_ rfl rfl ?_;refine d_ (ab_ rfl) rfl ?_;refine ar_ rfl rfl ?_;refine F_ (cU_ (k:=(k:Int)) vq_ runUnderlying223 bC_ rfl rfl H (λv h _=>(h.own _ (yab_ (i:=1) rfl)).1)) rfl λr_6 e=>?_;refine d_ (fr_ rfl rfl) rfl ?_;refine d_ (ab_ rfl) rfl ?_;cases r_6
     .replace e:=zdf e
      refine gN_ rfl rfl rfl rfl ?_;refine gN_ rfl rfl rfl rfl ?_;refine gN_ rfl rfl rfl rfl ?_;refine gN_ rfl rfl rfl rfl ?_;refine d_ (fr_ rfl rfl) rfl ?_;refine aD_ ?_;refine ap_ rfl ?_;refine cu_ rfl ?_;refine dr_ ?_;refine ap_ rfl ?_;refine ad_ ?_;refine d_ (aC_ rfl rfl rfl (bx_ zaa_ zaa_)) rfl ?_;refine d_ (ab_ rfl) rfl ?_;refine aD_ ?_;refine dw_ rfl ?_;exact w_ ⟨(k+1,s),m,(by rw[wx_ hM];exact C)⟩ zab_ zl (l_ (c_ e_) E_) zh
     replace e:=zdt e;exact absurd e Q
    replace N:=zeb N;exact mG_
   replace P:=zeb P;exact mD_
  replace K:=zeb K;refine gN_ rfl rfl rfl rfl ?_;refine gN_ rfl rfl rfl rfl ?_;refine gN_ rfl rfl rfl rfl ?_;refine d_ (gH_ rfl rfl) rfl ?_;refine d_ (ab_ rfl) rfl ?_;exact mD_
 replace L:=zdt L;have J:i<V.length:=by omega
 obtain⟨w_1,M⟩:∃ W,V[i]? = some W:=⟨_,yaa_ J⟩;have hmw_1:w_1∈V:=yab_ M;have hlx_1:i<p.length:=by have:=hRR.ul;omega
 obtain⟨x_1,X⟩:∃ W,p[i]? = some W:=⟨_,yaa_ hlx_1⟩;refine bG_ rfl ?_;refine dr_ ?_;refine ap_ rfl ?_;refine au_ ?_;refine dX_ ?_;refine au_ ?_;refine ad_ ?_;refine d_ (ab_ rfl) rfl ?_;refine d_ (bH_ hrU runUnderlying220 bn_ rfl rfl zaa_ zaa_) rfl ?_;refine d_ (cS_ hrU zp fm_ rfl (A_ rl_ M 0 _ rfl)) rfl ?_;refine d_ (ay_ rfl) rfl ?_;refine d_ (ay_ rfl) rfl ?_;refine aD_ ?_;refine ap_ rfl ?_;refine au_ ?_;refine ad_ ?_;refine d_ (ab_ rfl) rfl ?_;refine aD_ ?_;refine ap_ rfl ?_;cases w_1
 .refine cu_ rfl ?_
  refine dr_ ?_;refine ap_ rfl ?_;refine ad_ ?_;refine d_ (aC_ rfl rfl rfl (bx_ zaa_ zaa_)) rfl ?_;refine d_ (ab_ rfl) rfl ?_;refine aD_ ?_;refine dw_ rfl ?_;exact w_ ⟨(i+1,F,U,q),J,H,hq.miss M⟩ zab_ zl zp zh
 refine bG_ rfl ?_;refine ad_ ?_;refine d_ (ab_ rfl) rfl ?_;refine d_ (cv_ isAgg69 rfl zf rfl) rfl ?_;refine d_ (ab_ rfl) rfl ?_;refine d_ (P_ H_ K_ rfl rfl (λv _ h=>av_ (n:=10) Pc.cells_len zae_ (by exact h.2.2.2.1) X) zaa_ zag_) rfl ?_;refine d_ (ol_ runUnderlying80 rfl rfl rfl R_) rfl ?_;refine d_ (bw_ (ad:=ad) bb_ rfl zf (A_ Pc.cells_len X 9 _ rfl)) rfl ?_;refine hJ_ (k:=x_1.frm) 0 vq_ (.inr rfl) runUnderlying223 rfl rfl rfl rfl H λej_1 cj_1 hj_1=>?_;refine aD_ ?_;refine ap_ rfl ?_;refine ad_ ?_;refine d_ (aC_ rfl rfl rfl (bx_ zaa_ zaa_)) rfl ?_;refine d_ (ab_ rfl) rfl ?_;refine aD_ ?_;refine dw_ rfl ?_;exact w_ ⟨(i+1,ej_1,cj_1,(if x_1.frm∈q then q else q++[x_1.frm])),J,hj_1,hq.hit X M⟩ zab_ zl zp zh
theorem wr_ {c d e:Nat×Obj} {Q:Hp}:(c::(Q++[d,e])).Perm (e::c::(Q++[d])):=by
  have h:(c::(Q++[d,e]))=(c::(Q++[d]))++[e]:=by simp
  grind[List.perm_append_comm]
theorem DC_ {c d:Nat×Obj} {Q:Hp}:(c::(Q++[d])).Perm (Q++[c,d]):=by
  grind[List.perm_append_comm]
theorem uZ_ {H A B C G:Hp} {b:Nat×Obj} (h:H.Perm ((b::(A++(B++C)))++G)):H.Perm ((b::A)++B++(C++G)):=by grind
def hs_ (S:List Str):Bool:=decide (S.length<=16384)&&S.all bh_
def kt_ (l:List Ax) (p:List Pc) (er:Int) (S:List Str):List Int×Int:=if er≠0 then ([],er) else if hs_ S=false then ([],1) else (eL_ l p S l.length,0)
theorem yS_ (m:List Ax) (lad:Ao) (lcap:Nat) (p:List Pc) (ad:Ao) (cap:Nat) (S:List Str) (sad:Ao) (d:Nat) (bp bs E:Nat) (hp:p.length<=100000000) (hS:S.length<=100000000) (Q:m.length<=100000000):Tri prog 160 #[.slice none 0 0,.func (.func 161) #[] #[zp_ bp 0,zp_ bs 0,zp_ E 0]] [] [bk_ bp (.cells #[.slice ad p.length cap] 69 (0,0)),bk_ bs (.cells #[.slice sad S.length d] 25 (0,0)),bk_ E (.cells #[.slice lad m.length lcap] 22 (0,0)),X_ ad (p.flatMap Pc.cells),X_ sad (S.flatMap aa_),bZ_ lad m] (λy:{y:Value×Hp×List Int // at_ 3 1 y.1 y.2.2.length (y.2.2.flatMap dl_) y.2.1/\y.2.2=(eL_ m p S m.length)}=>y.1.1) (λy=>y.1.2.1) (λ_=>[]):=by
 refine eX_ func160 rfl rfl ntmps160 rfl λJ=>?_;refine Zz 2 ?_;refine L_ rfl rfl λk=>Zz 10 ?_
 refine bF_ [(2,zp_ k 0),(6,.func (.func 161) #[] #[zp_ bp 0,zp_ bs 0,zp_ E 0])] zl ?_;refine jg_ [bk_ bp (.cells #[.slice ad p.length cap] 69 (0,0)),bk_ bs (.cells #[.slice sad S.length d] 25 (0,0))] (σ:={y:Value×Hp×List Int // at_ 3 1 y.1 y.2.2.length (y.2.2.flatMap dl_) y.2.1}) (α:=Int) (xv:=λx=>i4_ x) (good:=λs x=>s.1.2.2.length<100000000/\0<=x/\x<(List.length m:Int)) (nx:=λx s P=>P.1.2.2=s.1.2.2++[x]) (Rc:=λs=>s.1.2.2=(eL_ m p S m.length)) (Γi:=[bk_ bp (.cells #[.slice ad p.length cap] 69 (0,0)),bk_ bs (.cells #[.slice sad S.length d] 25 (0,0)),bk_ E (.cells #[.slice lad m.length lcap] 22 (0,0)),X_ ad (p.flatMap Pc.cells),X_ sad (S.flatMap aa_),bZ_ lad m,bk_ bp (.cells #[.slice ad p.length cap] 69 (0,0)),bk_ bs (.cells #[.slice sad S.length d] 25 (0,0))]) (Hj:=λy=>(k,.cells #[y.1.1] 63 (0,0))::y.1.2.1) (Hc:=[]) (caps:=[zp_ bp 0,zp_ bs 0,zp_ E 0]) ⟨(.slice none 0 0,[],[]),at_.nil _ _⟩ rfl (.refl _) zf ?_ ?_ ?_
 .rintro l D rec Y U T ht M C ⟨⟨sv,B,L⟩,H⟩ x ⟨K,Z,hx_3⟩
  dsimp only at H K ⊢;refine iS_ (ι:=Unit) (Hj:=λy:{y:Value×Hp×List Int // at_ 3 1 y.1 y.2.2.length (y.2.2.flatMap dl_) y.2.1}=>(k,.cells #[y.1.1] 63 (0,0))::y.1.2.1) (s:=⟨(sv,B,L),H⟩) (ok:=λP=>P.1.2.2=L++[x]) (Γ:=[bk_ bp (.cells #[.slice ad p.length cap] 69 (0,0)),bk_ bs (.cells #[.slice sad S.length d] 25 (0,0))]) (λ_=>[(2,zp_ k 0),(5,i4_ x)]) (λ_=>(k,.cells #[sv] 63 (0,0))::B) Y U T ht rfl ?_ ?_
  .intro n J V W
   rw[M];dsimp only;refine dH_.2 (u_ (H':=(k,.cells #[sv] 63 (0,0))::(B++W)) zai_ (dH_.1 ?_));refine bs_ ?_;refine aO_ (bI_ _) (ay_ rfl) rfl rfl ?_;refine cp_ ?_;refine dx_ rfl ?_;exact dY_ () zl (F:=[]) zaD_ zh
  intro n J V W _;rw[C];refine dH_.2 (u_ (H':=(k,.cells #[sv] 63 (0,0))::(B++W)) zai_ (dH_.1 ?_));refine gL_ ?_;refine bs_ ?_;refine aO_ (bI_ _) (bU_ 0 isAgg63 rfl rfl rfl) rfl rfl ?_;refine aO_ (bI_ _) (ab_ rfl) rfl rfl ?_;refine qK_ (bI_ _) as_ R_ bJ_ rfl rfl rfl rfl rfl rfl λb_2=>?_;refine nd_ (bI_ _) (news:=List.flatMap dl_ [x]) nS_ H rfl rfl zp rfl (bz_ 0 rfl) (λu hu=>aF_ ll_ hu) zal_ zaa_ rfl λI N O=>?_;have A:=zsa O;refine tx_ (S_ (g_ e_) (aW_ (g_ e_))) ?_;refine kc_ (bI_ _) 1 A sizeOf63 rfl rfl rfl rfl ?_;refine cp_ ?_;refine dx_ rfl ?_;exact kr_ ⟨(I,N,(L++[x])),A⟩ rfl (uZ_ (l_ (c_ e_) (x_ (c_ s_) (x_ E_ e_))))
 .intro l Gj hY
  exact Al_ (lst:=λy=>y.1.2.2) m lad lcap p ad cap S sad d bp bs E (bk_ bp (.cells #[.slice ad p.length cap] 69 (0,0))) (bk_ bs (.cells #[.slice sad S.length d] 25 (0,0))) (λs x h=>hY s x h) ⟨(.slice none 0 0,[],[]),at_.nil _ _⟩ rfl hp hS Q
 rintro ⟨⟨sv,B,L⟩,H⟩ hL D l r;dsimp only at hL H ⊢;refine da_ rfl ?_;refine fS_ ?_;refine bs_ ?_;refine aO_ aP_ (bU_ 0 isAgg63 rfl rfl rfl) rfl rfl ?_;refine aO_ aP_ (ay_ rfl) rfl rfl ?_;refine cp_ ?_;refine da_ rfl ?_;refine hG_ ?_;exact tc_ (G:=(k,.cells #[sv] 63 (0,0))::(B++[(l,.loop r)])) ⟨(sv,B,L),H,hL⟩ (λa v X h_2=>by have e:=X.val 4 sv rfl;simp[results,results160,e]) zbe_ ⟨_,DC_⟩ rfl
theorem vJ_ (d:List Ax) (lad:Ao) (lcap:Nat) (p:List Pc) (ad:Ao) (cap:Nat) (S:List Str) (sad:Ao) (v:Nat) (bp bs F:Nat) (I:p.length<=100000000) (hS:S.length<=100000000) (E:d.length<=100000000):Tri prog 74 #[.func (.func 161) #[] #[zp_ bp 0,zp_ bs 0,zp_ F 0]] [] [bk_ bp (.cells #[.slice ad p.length cap] 69 (0,0)),bk_ bs (.cells #[.slice sad S.length v] 25 (0,0)),bk_ F (.cells #[.slice lad d.length lcap] 22 (0,0)),X_ ad (p.flatMap Pc.cells),X_ sad (S.flatMap aa_),bZ_ lad d] (λy:{y:Ao×Nat // ((eL_ d p S d.length)).length<=y.2/\y.2<=maxLen/\(y.1=none->y.2=0)}=>.slice y.1.1 ((eL_ d p S d.length)).length y.1.2) (λ_=>[]) (λy=>[X_ y.1.1 (((eL_ d p S d.length)).flatMap dl_)]):=by
  refine j_ func74 rfl rfl ntmps74 rfl λJ=>?_;refine Zz 8 ?_;refine f_ (yS_ d lad lcap p ad cap S sad v bp bs F I hS E) rfl i_ zf rfl λ⟨⟨H,G,K⟩,x,m⟩=>?_;dsimp only;dsimp only at x m ⊢;subst m;simp only[yas_];refine Zz 4 ?_;refine bQ_ x Z_ λB C A h e k=>?_;exact ac_ results74 ⟨(B,C),h,e,k⟩ (ec_ rfl A) i_ zf
theorem mA_ {G:Prop} (h:G:=by
 refine f_ (dy_ _ zas_) rfl i_ zt rfl λ_=>?_;refine F_ (ai_ (aV_ rfl rfl) (yae_ Value.bool (tm_ _))) rfl λk v=>Zz 4 ?_
 exact do_):G:=h
theorem mB_ {G:Prop} (h:G:=by
 refine f_ (dy_ _ zas_) rfl i_ zt rfl λ_=>?_;refine F_ (ai_ (aV_ rfl rfl) (yae_ Value.bool (tm_ _))) rfl λk d=>Zz 4 ?_
 exact do_):G:=h
theorem mC_ {G:Prop} (h:G:=by
 refine f_ (dy_ _ zas_) rfl i_ zt rfl λ_=>?_;refine F_ (ai_ (aV_ rfl rfl) (yae_ Value.bool (tm_ _))) rfl λk h=>Zz 4 ?_
 exact do_):G:=h
theorem do_ {G:Prop} (h:G:=by
 exact ac_ results78 () (z_ rfl zaP_) (.refl _) zt):G:=h
theorem sD_ (s:Str) (L:s.length<=17592186044414):Fn0 prog 78 #[str s] (.bool (bh_ s)):=by
 refine j_ func78 rfl rfl ntmps78 rfl λK=>?_;refine Zz 8 ?_;refine d_ (dp_ Q_ rfl) rfl (Zi 8 (λB=>?_) λB=>?_)
 .refine Zi 4 (λC=>?_) λC=>?_
  .refine Zi 8 (λA=>?_) λA=>?_
   .refine Zi 19 (λx=>?_) λx=>?_
    .refine Zz 21 ?_
     refine f_ (dy_ _ zas_) rfl i_ zt rfl λ_=>?_;refine F_ (ai_ (aV_ rfl rfl) (yae_ Value.bool (tm_ _))) rfl λk m=>Zz 4 ?_
     exact do_
    exfalso;omega
   obtain⟨c,E⟩:∃ c,s[0]? = some c:=⟨_,yaa_ zaa_⟩;obtain⟨e,y⟩:∃ e,s[s.length - 1]? = some e:=⟨_,yaa_ zaa_⟩
   have H:(s[0]? = some 123)↔((c.toNat:Int)=123):=by
     rw[E];simp only[yah_];exact⟨λq=>by subst q;rfl,λq=>UInt8.toNat_inj.1 (by show c.toNat=123;omega)⟩
   have G:(s[s.length - 1]? = some 125)↔((e.toNat:Int)=125):=by
     rw[y];simp only[yah_];exact⟨λq=>by subst q;rfl,λq=>UInt8.toNat_inj.1 (by show e.toNat=125;omega)⟩
   have J:(s[0]? = some 60)↔((c.toNat:Int)=60):=by
     rw[E];simp only[yah_];exact⟨λq=>by subst q;rfl,λq=>UInt8.toNat_inj.1 (by show c.toNat=60;omega)⟩
   have I:(s[s.length - 1]? = some 62)↔((e.toNat:Int)=62):=by
     rw[y];simp only[yah_];exact⟨λq=>by subst q;rfl,λq=>UInt8.toNat_inj.1 (by show e.toNat=62;omega)⟩
   refine Zz 4 ?_;refine d_ (cs_ Q_ rfl rfl zae_ E) rfl (ar_ rfl rfl ?_);refine Zi 0 (λx=>?_) λx=>?_
   .refine Zi 15 (λm=>?_) λm=>?_
    .refine Zz 21 ?_
     exact mC_
    refine Zz 4 ?_;refine d_ (cs_ Q_ rfl rfl zae_ E) rfl (ar_ rfl rfl ?_);refine Zi 0 (λh=>?_) λh=>?_
    .refine Zz 17 ?_
     exact mB_
    refine Zz 9 ?_;refine d_ (cs_ Q_ rfl rfl zaa_ (show s[((s.length:Int) - 1).toNat]? = some e by rw[show ((s.length:Int) - 1).toNat=s.length - 1 by omega];exact y)) rfl ?_;refine ar_ rfl rfl ?_;refine Zi 0 (λd=>?_) λd=>?_
    .refine Zz 10 ?_
     exact mA_
    refine Zz 11 ?_;exact do_
   refine Zz 9 ?_;refine d_ (cs_ Q_ rfl rfl zaa_ (show s[((s.length:Int) - 1).toNat]? = some e by rw[show ((s.length:Int) - 1).toNat=s.length - 1 by omega];exact y)) rfl ?_;refine ar_ rfl rfl ?_;refine Zi 0 (λm=>?_) λm=>?_
   .refine Zi 8 (λh=>?_) λh=>?_
    .refine Zz 21 ?_
     exact mB_
    refine Zz 4 ?_;refine d_ (cs_ Q_ rfl rfl zae_ E) rfl (ar_ rfl rfl ?_);refine Zi 0 (λd=>?_) λd=>?_
    .refine Zz 17 ?_
     exact mA_
    refine Zz 9 ?_;refine d_ (cs_ Q_ rfl rfl zaa_ (show s[((s.length:Int) - 1).toNat]? = some e by rw[show ((s.length:Int) - 1).toNat=s.length - 1 by omega];exact y)) rfl ?_;refine ar_ rfl rfl ?_;refine Zi 0 (λv=>?_) λv=>?_
    .refine Zz 10 ?_
     refine f_ (dy_ _ zas_) rfl i_ zt rfl λ_=>?_;refine F_ (ai_ (aV_ rfl rfl) (yae_ Value.bool (tm_ _))) rfl λk F=>Zz 4 ?_
     exact do_
    refine Zz 11 ?_;exact do_
   refine Zz 10 ?_;refine d_ (fq_ (i:=1) (j:=s.length - 1) (kl:=.i64) (kh:=.i64) Q_ rfl rfl (show _=some (i4_ ((s.length - 1:Nat):Int)) by rw[show ((s.length - 1:Nat):Int)=(s.length:Int) - 1 by omega];rfl) zaa_ zaa_) rfl ?_;exact mC_
  refine Zz 11 ?_;exact do_
 refine Zz 14 ?_;exact do_
theorem BG_ (S:List Str) (sad:Ao) (h:Nat) (F:∀ s∈S,s.length<=100000):Tri prog 38 #[.slice sad S.length h] [] [X_ sad (S.flatMap aa_)] (λ_:Unit=>.bool (hs_ S)) (λ_=>[]) (λ_=>[]):=by
 refine j_ func38 rfl rfl ntmps38 rfl λH=>?_;refine Zi 10 (λB=>?_) λB=>?_
 .refine Zz 14 ?_
  refine J_ (ι:={y:Nat // y<=List.length S/\pU_ S y (λ_ s=>bh_ s=true)}) (λy=>[(2,.bool false),(8,.slice sad S.length h),(9,i4_ (List.length S:Int)),(10,i4_ y.1)]) (λy=>([])) (λy=>[X_ sad (S.flatMap aa_)]) (λy=>S.length - y.1) ⟨(0:Nat),by simp,pU_.zero⟩ zl i_ zh ?_;rintro ⟨i,C,x⟩;dsimp only at C x ⊢;refine Zi 2 (λA=>?_) λA=>?_
  .refine Zz 12 ?_
   exact ac_ results38 () (z_ rfl (by unfold hs_;rw[ybb_.2 (x.all zaa_)];simp;omega)) i_ zt
  have d:i<S.length:=by omega
  obtain⟨v,m⟩:∃ E,S[i]? = some E:=⟨_,yaa_ d⟩;have e:v∈S:=yab_ m;refine Zz 18 ?_;refine aq_ (sD_ v (by have:=F _ e;omega)) rfl i_ zt rfl λG k=>?_;refine d_ (aK_ rfl) rfl (Zz 2 ?_);cases G
  .refine Zz 7 ?_
   exact ac_ results38 () (z_ rfl (by unfold hs_;symm;rw[Bool.and_eq_false_iff];right;rw[ycv_];exact⟨v,e,by simpa using k⟩)) i_ zt
  refine Zz 8 ?_;exact w_ ⟨i+1,d,x.step m k⟩ zab_ zl i_ zh
 refine Zz 9 ?_;exact ac_ results38 () (z_ rfl (by unfold hs_;symm;rw[Bool.and_eq_false_iff];left;rw[ybO_];omega)) i_ zt
end Go.Proofs.YtbffkokbdeppaaaGreatDoor
namespace Go.Vs
open Go Go.Sx Go.Proofs.YtbffkokbdeppaaaGreatDoor
theorem wi_:∀ {l m:List Str},SrS l->SrS m->(∀ x,x∈l↔x∈m)->l=m
  | [],[],_,_,_=>rfl
  | [],y::m,_,_,h=>absurd ((h y).2 yao_) zai_
  | x::l,[],_,_,h=>absurd ((h x).1 yao_) zai_
  | x::l,y::m,h1,h2,h=>by
    unfold SrS at h1 h2;rw[ybk_]at h1 h2
    have e:x=y:=by
      grind[List.mem_cons_self]
    subst e;rw[wi_ h1.2 h2.2 λz=>?_]
    grind
abbrev cg_ (l:List Str):List Str:=l.mergeSort λx y=>decide (x<=y)
inductive Tre where
  | mk (con:Con) (size:Int) (ad:Ao) (cap:Nat) (parts:List Tre)
namespace Tre
def con:Tre->Con|mk c _ _ _ _=>c
def size:Tre->Int|mk _ n _ _ _=>n
def ad:Tre->Ao|mk _ _ a _ _=>a
def cap:Tre->Nat|mk _ _ _ c _=>c
def parts:Tre->List Tre|mk _ _ _ _ p=>p
def cells (t:Tre):List Value:=t.con.cells++[.int .i64 t.size,.slice t.ad t.parts.length t.cap]
def val (t:Tre):Value:=.agg t.cells.toArray
theorem cells_len (t:Tre):t.cells.length=7:=rfl
theorem cells_one (t:Tre):t.cells.all Value.oneCell'=true:=by simp[cells,Con.cells,Value.oneCell',str]
def tz:Tre->Nat
  | mk _ _ _ _ ps=>1+tzs ps
where tzs:List Tre->Nat
  | []=>0
  | p::ps=>tz p+tzs ps
theorem tz_pos (t:Tre):0<t.tz:=by cases t;grind[tz]
theorem zm_ {p:Tre}:∀ {ps:List Tre},p∈ps->p.tz<=tz.tzs ps
 | q::ps,h=>by
   rcases yal_.1 h with rfl|h
   . grind[tz.tzs]
   . have:=zm_ h;grind[tz.tzs]
theorem tz_part {t p:Tre} (h:p∈t.parts):p.tz<t.tz:=by
  cases t with
  | mk c n a cp ps=>have:=zm_ (ps:=ps) h;grind[tz]
def mem:Tre->Vw->Prop
  | mk c _ a _ ps,v=>c.mem v/\bW_ v a (ps.flatMap cells)/\mems ps v
where mems:List Tre->Vw->Prop
  | [],_=>True
  | p::ps,v=>mem p v/\mems ps v
theorem mems_iff {v:Vw}:∀ {ps:List Tre},mem.mems ps v↔∀ p∈ps,p.mem v
  | []=>by simp[mem.mems]
  | p::ps=>by simp[mem.mems,mems_iff (ps:=ps)]
theorem mem_iff (t:Tre) (v:Vw):t.mem v↔t.con.mem v/\bW_ v t.ad (t.parts.flatMap cells)/\∀ p∈t.parts,p.mem v:=by
  cases t<;>grind[mem,mems_iff,con,ad,parts]
theorem mem_mono:∀ (n:Nat) (t:Tre),t.tz<=n->∀ v d,v.le d->t.mem v->t.mem d
  | 0,t,h=>by grind[tz_pos]
  | n+1,t,h=>λv d hl hm=>by
    rw[mem_iff]at hm ⊢;exact⟨t.con.memF.mono v d hl hm.1,(X_ t.ad (t.parts.flatMap cells)).mono v d hl hm.2.1,λp e=>mem_mono n p (by have:=tz_part e;omega) v d hl (hm.2.2 p e)⟩
def memF (t:Tre):Fct:=⟨t.mem,mem_mono t.tz t (yad_ _)⟩
def wf:Tre->Prop
  | mk c n _ _ ps=>n=(c.sz:Int)/\c.parts=cons ps/\wfs ps
where
  wfs:List Tre->Prop
  | []=>True
  | p::ps=>wf p/\wfs ps
  cons:List Tre->List Con
  | []=>[]
  | p::ps=>p.con::cons ps
theorem um_:∀ ps:List Tre,wf.cons ps=ps.map con
  | []=>rfl
  | p::ps=>by rw[wf.cons,um_ ps];rfl
theorem vY_:∀ {ps:List Tre},wf.wfs ps↔∀ p∈ps,p.wf
  | []=>by simp[wf.wfs]
  | p::ps=>by simp[wf.wfs,vY_ (ps:=ps)]
theorem wf_iff (t:Tre):t.wf↔t.size=(t.con.sz:Int)/\t.con.parts=t.parts.map con/\∀ p∈t.parts,p.wf:=by
  cases t<;>grind[wf,vY_,um_,con,size,parts]
theorem wf_part {t p:Tre} (h:t.wf) (d:p∈t.parts):p.wf/\p.con.sz<t.con.sz:=by
  obtain⟨_,k,e⟩:=(wf_iff t).1 h;exact⟨e p d,Con.sz_part zak_⟩
end Tre
def cV_ (l:List Tre):Fct:=⟨λv=>∀ t∈l,t.mem v,λv v' hl h t ht=>t.memF.mono v v' hl (h t ht)⟩
theorem ko_ {l:List Tre} {t:Tre} {v:Vw} (h:(cV_ l).p v) (e:t.memF.p v):(cV_ (l++[t])).p v:=λx d=>by
 rcases yai_.1 d with d|d
 .exact h x d
 rw[yam_]at d;subst d;exact e
theorem szs_step {l:List Con} {i:Nat} {x:Con} (h:l[i]? = some x):Con.sz.szs (l.take (i+1))=Con.sz.szs (l.take i)+x.sz:=by
  have d:∀ (a b:List Con),Con.sz.szs (a++b)=Con.sz.szs a+Con.sz.szs b:=λa b=>by
    induction a<;>grind[Con.sz.szs]
  grind[List.take_add_one,Con.sz.szs]
theorem szs_take_le {l:List Con} (i:Nat):Con.sz.szs (l.take i)<=Con.sz.szs l:=by
  induction l generalizing i with
  | nil=>simp
  | cons c l ih =>
    cases i<;>grind[Con.sz.szs]
theorem szs_len:∀ l:List Con,l.length<=Con.sz.szs l
  | []=>yad_ _
  | c::l=>by have:=szs_len l;grind[Con.sz_pos,Con.sz.szs]
theorem Con.parts_lt (c:Con):c.parts.length<c.sz:=by grind[szs_len,sz_eq]
theorem wR_ {a b:List Con} {i:Nat} {x y:Con} (e:a[i]? = some x) (d:b[i]? = some y):Con.cmp.cmps (a.drop i) (b.drop i)=if Con.cmp x y=0 then Con.cmp.cmps (a.drop (i+1)) (b.drop (i+1)) else Con.cmp x y:=by
  grind[List.drop_eq_getElem_cons,Con.cmp.cmps]
theorem yF_ {a b:List Con} {i:Nat} (d:i<a.length) (e:b.length<=i):Con.cmp.cmps (a.drop i) (b.drop i)=1:=by
  grind[List.drop_eq_getElem_cons,List.drop_of_length_le,Con.cmp.cmps]
theorem vK_ {a b:List Con} {i:Nat} (d:a.length<=i) (e:i<b.length):Con.cmp.cmps (a.drop i) (b.drop i)=-1:=by
  grind[List.drop_eq_getElem_cons,List.drop_of_length_le,Con.cmp.cmps]
theorem Bb_ {a b:List Con} {i:Nat} (d:a.length<=i) (e:b.length<=i):Con.cmp.cmps (a.drop i) (b.drop i)=0:=by
  grind[List.drop_of_length_le,Con.cmp.cmps]
theorem wS_ {a b:List Str} {i:Nat} {x y:Str} (e:a[i]? = some x) (d:b[i]? = some y):dW_ (a.drop i) (b.drop i)=if Lib.compareBytes x y=0 then dW_ (a.drop (i+1)) (b.drop (i+1)) else Lib.compareBytes x y:=by
  grind[List.drop_eq_getElem_cons,dW_]
theorem yI_ {a b:List Str} {i:Nat} (d:i<a.length) (e:b.length<=i):dW_ (a.drop i) (b.drop i)=1:=by
  grind[List.drop_eq_getElem_cons,List.drop_of_length_le,dW_]
theorem vL_ {a b:List Str} {i:Nat} (d:a.length<=i) (e:i<b.length):dW_ (a.drop i) (b.drop i)=-1:=by
  grind[List.drop_eq_getElem_cons,List.drop_of_length_le,dW_]
theorem Bc_ {a b:List Str} {i:Nat} (d:a.length<=i) (e:b.length<=i):dW_ (a.drop i) (b.drop i)=0:=by
  grind[List.drop_of_length_le,dW_]
def wgL:List Con->Int
  | []=>0
  | c::l=>(if c.kind=0 then 0 else (c.sz:Int))+wgL l
def wgS:List Str->Int
  | []=>0
  | s::l=>(if s=[] then 0 else 1)+wgS l
theorem BD_ (a b:List Con):wgL (a++b)=wgL a+wgL b:=by
  induction a<;>grind[wgL]
theorem BC_ (a b:List Str):wgS (a++b)=wgS a+wgS b:=by
  induction a<;>grind[wgS]
theorem sA_ {l:List Con} {i:Nat} {x:Con} (h:l[i]? = some x):wgL (l.take (i+1))=wgL (l.take i)+(if x.kind=0 then 0 else (x.sz:Int)):=by
  rw[yau_,h,BD_];simp[wgL]
theorem sz_ {l:List Str} {i:Nat} {x:Str} (h:l[i]? = some x):wgS (l.take (i+1))=wgS (l.take i)+(if x=[] then 0 else 1):=by
  rw[yau_,h,BC_];simp[wgS]
theorem wgL_bd {l:List Con} (h:∀ c∈l,c.sz<=1000000):0<=wgL l/\wgL l<=1000000*l.length:=by
  induction l<;>grind[wgL]
theorem wgS_bd (l:List Str):0<=wgS l/\wgS l<=l.length:=by
  induction l<;>grind[wgS]
theorem Ax.wgt_eq (x:Ax):x.wgt=wgL [x.left,x.right]+(x.roles.length:Int)+wgS [x.role,x.a,x.b]:=by
  grind[wgt,wgL,wgS]
theorem Bj_ {x:Ax} {v:Vw} (h:x.memF.p v) {c:Con} (d:c∈[x.left,x.right]):c.memF.p v:=by
 simp only[yal_,yat_,ybd_]at d;rcases d with rfl|rfl
 .exact h.1
 exact h.2.1
theorem lB_ {x:Ax} (d:x.ok) (e:x.left.sz<=1000000) (k:x.right.sz<=1000000) {c:Con} (h:c∈[x.left,x.right]):c.ok/\c.sz<=1000000:=by
  grind[Ax.ok.left,Ax.ok.right]
theorem ri_ (c d:Con):Con.cmp c d=if orF [Lib.compareInt (c.sz:Int) (d.sz:Int),Lib.compareInt c.kind d.kind,Lib.compareBytes c.name d.name,Lib.compareInt c.lo d.lo,Lib.compareInt c.hi d.hi]=0 then Con.cmp.cmps c.parts d.parts else orF [Lib.compareInt (c.sz:Int) (d.sz:Int),Lib.compareInt c.kind d.kind,Lib.compareBytes c.name d.name,Lib.compareInt c.lo d.lo,Lib.compareInt c.hi d.hi]:=by
  grind[Con.cmp_eq,orF]
namespace Con
theorem vG_ (c:Con):c.core.kind=c.kind:=by rw[core_eq];rfl
theorem core_parts (c:Con):c.core.parts=c.parts.map core:=by rw[core_eq];rfl
mutual
theorem rd_:∀ c:Con,c.core.core=c.core
  | mk k n l h a cp ps=>by rw[core,core,pB_ ps]
theorem pB_:∀ ps:List Con,core.cores (core.cores ps)=core.cores ps
  | []=>rfl
  | p::ps=>by rw[core.cores,core.cores,rd_ p,pB_ ps]
end
theorem kS_ (c:Con):c.core.sz=c.sz:=sz_core _ _ (rd_ c)
mutual
theorem lx_:∀ a b:Con,cmp a.core b.core=cmp a b
  | mk k n l h a cp ps,mk k' n' l' h' a' cp' ps'=>by
    rw[cmp_eq,cmp_eq,kS_,kS_];simp only[core,kind,name,lo,hi,parts];rw[rg_ ps ps']
theorem rg_:∀ a b:List Con,cmp.cmps (core.cores a) (core.cores b)=cmp.cmps a b
  | [],[]=>rfl
  | [],_::_=>rfl
  | _::_,[]=>rfl
  | x::xs,y::ys=>by rw[core.cores,core.cores,cmp.cmps,cmp.cmps,lx_ x y,rg_ xs ys]
end
theorem cmp_of {a e b d:Con} (h:a.core=e.core) (k:b.core=d.core):cmp a b=cmp e d:=by rw[<-lx_ a b,<-lx_ e d,h,k]
theorem cmp_lt {x y z:Con} (h:cmp x y<0) (d:cmp y z<0):cmp x z<0:=by
  have:=cmp_tr x y z
  grind[Tr3]
def SrC (l:List Con):Prop:=l.Pairwise λa b=>cmp a b<0
theorem SrC.core {l:List Con}:SrC (l.map core)↔SrC l:=by
  grind[SrC,lx_]
theorem SrC.ext:∀ {l m:List Con},SrC l->SrC m->(∀ z,z∈l.map Con.core↔z∈m.map Con.core)->l.map Con.core=m.map Con.core
  | [],[],_,_,_=>rfl
  | [],y::m,_,_,h=>by have:=(h y.core).2 zai_;grind
  | x::l,[],_,_,h=>by have:=(h x.core).1 zai_;grind
  | x::l,y::m,h1,h2,h=>by
    unfold SrC at h1 h2;rw[ybk_]at h1 h2;have A:∀ z∈l,cmp x z<0:=h1.1;have v:∀ z∈m,cmp y z<0:=h2.1
    have e:x.core=y.core:=by
      have B:=(h x.core).1 zai_;have k:=(h y.core).2 zai_
      grind[cmp_of,cmp_anti]
    have d:=SrC.ext (l:=l) (m:=m) h1.2 h2.2 (λz=>by
      grind[cmp_zero])
    grind
def hx_ (c:Con):List Con->List Con
  | []=>[c]
  | d::l=>if cmp c d<0 then c::d::l else if cmp c d=0 then d::l else d::hx_ c l
def srtC (l:List Con):List Con:=l.foldl (λs c=>hx_ c s) []
theorem pl_ {c:Con}:∀ {l:List Con} {z:Con},z∈hx_ c l->z=c\/z∈l
 | [],z,h=>by grind[hx_]
 | d::l,z,h=>by
   simp only[hx_]at h
   split at h
   . grind
   . split at h
     . grind
     . rcases yal_.1 h with rfl|h
       . simp
       . exact (pl_ h).imp id (yaK_ _)
theorem tR_ {c:Con}:∀ {l:List Con} {z:Con},z∈l->z∈hx_ c l
 | d::l,z,h=>by
   simp only[hx_]
   split
   . grind
   . split
     . exact h
     . rcases yal_.1 h with rfl|h
       . simp
       . exact yaK_ _ (tR_ h)
theorem tS_ {c:Con}:∀ {l:List Con},∃ z∈hx_ c l,z.core=c.core
 | []=>⟨c,by simp[hx_],rfl⟩
 | d::l=>by
   simp only[hx_]
   split
   . grind
   . split
     . grind[cmp_zero]
     . obtain⟨z,h,e⟩:=tS_ (c:=c) (l:=l)
       grind
theorem tQ_ {c:Con}:∀ {l:List Con},SrC l->SrC (hx_ c l)
 | [],_=>by grind[SrC,hx_]
 | d::l,h=>by
   unfold SrC at h;rw[ybk_]at h;simp only[hx_]
   split
   . grind[SrC,List.pairwise_cons,cmp_lt]
   . split
     . grind[SrC,List.pairwise_cons]
     . rename_i e k
       unfold SrC;rw[ybk_];refine⟨λz m=>?_,tQ_ (l:=l) h.2⟩
       grind[pl_,cmp_anti]
theorem kV_:∀ (l s:List Con),SrC s->SrC (l.foldl (λs c=>hx_ c s) s)/\(∀ z∈l.foldl (λs c=>hx_ c s) s,z∈s\/z∈l)/\(∀ z,z∈s\/z∈l->∃ t∈l.foldl (λs c=>hx_ c s) s,t.core=z.core)
 | [],s,h=>⟨h,λz d=>.inl d,λz d=>⟨z,d.elim id (λq=>by simp at q),rfl⟩⟩
 | x::l,s,h=>by
   obtain⟨k,m,y⟩:=kV_ l (hx_ x s) (tQ_ h);refine⟨k,λz d=>?_,λz d=>?_⟩
   . grind[pl_]
   . rcases d with d|d
     . grind[tR_]
     . rcases yal_.1 d with rfl|d
       . obtain⟨t,v,e⟩:=tS_ (c:=z) (l:=s)
         grind
       grind
theorem oG_ (l:List Con):SrC (srtC l):=(kV_ l [] List.Pairwise.nil).1
theorem iZ_ {l:List Con} {z:Con} (h:z∈srtC l):z∈l:=((kV_ l [] List.Pairwise.nil).2.1 z h).elim (λq=>by simp at q) id
theorem sR_ (l:List Con) (z:Con):z∈(srtC l).map core↔z∈l.map core:=by
 constructor
 .grind[iZ_]
 intro h;obtain⟨t,k,rfl⟩:=yan_.1 h;obtain⟨u,d,e⟩:=(kV_ l [] List.Pairwise.nil).2.2 t (.inr k);exact yan_.2 ⟨u,d,e⟩
theorem srtC_uniq {l m:List Con} (h:SrC m) (hm:∀ z,z∈m.map core↔z∈l.map core):m.map core=(srtC l).map core:=by grind[SrC.ext,oG_,sR_]
def flat1 (c:Con):List Con:=if c.kind=1 then [] else if c.kind=5 then c.parts else [c]
def zeroC:Con:=mk 0 [] 0 0 none 0 []
def meetF (s:List Con):Con×Int :=
  match s.find? λc=>decide (c.kind=2) with
  | some b=>(b,0)
  | none =>
    match s with
    | []=>(mk 1 [] 0 0 none 0 [],0)
    | [x]=>(x,0)
    | _=>if 8<s.length then (zeroC,2) else (mk 5 [] 0 0 none 0 s,0)
def erF:List (Con×Int)->Int
  | []=>0
  | z::l=>if z.2≠0 then z.2 else erF l
def tdy:Con->Con×Int
  | mk k n lo hi a cp ps =>
    if k=6 then (match tdys ps with
      | z::_=>if z.2≠0\/z.1.kind=2 then z else (mk 6 n 0 0 none 0 [z.1],0)
      | []=>(zeroC,0))
    else if k=5 then (if erF (tdys ps)≠0 then (zeroC,erF (tdys ps)) else meetF (srtC ((tdys ps).flatMap λz=>flat1 z.1)))
    else (mk k n lo hi a cp ps,0)
where tdys:List Con->List (Con×Int)
  | []=>[]
  | p::ps=>tdy p::tdys ps
theorem tdys_map:∀ ps:List Con,tdy.tdys ps=ps.map tdy
  | []=>rfl
  | p::ps=>by rw[tdy.tdys,tdys_map ps];rfl
theorem fY_ (c : Con) : c.tdy = if c.kind = 6 then (match c.parts.map tdy with
      | z::_=>if z.2≠0\/z.1.kind=2 then z else (mk 6 c.name 0 0 none 0 [z.1],0)
      | []=>(zeroC,0))
    else if c.kind=5 then (if erF (c.parts.map tdy)≠0 then (zeroC,erF (c.parts.map tdy)) else meetF (srtC ((c.parts.map tdy).flatMap λz=>flat1 z.1)))
    else (c,0):=by
  cases c;rw[tdy,tdys_map];rfl
theorem tdy_some {c p:Con} (hk:c.kind=6) (d:c.parts=[p]):c.tdy=if p.tdy.2≠0\/p.tdy.1.kind=2 then p.tdy else (mk 6 c.name 0 0 none 0 [p.tdy.1],0):=by
  grind[fY_]
theorem tdy_and {c:Con} (hk:c.kind=5):c.tdy=if erF (c.parts.map tdy)≠0 then (zeroC,erF (c.parts.map tdy)) else meetF (srtC ((c.parts.map tdy).flatMap λz=>flat1 z.1)):=by
  grind[fY_]
theorem tdy_self {c:Con} (d:c.kind≠5) (e:c.kind≠6):c.tdy=(c,0):=by grind[fY_]
theorem wD_ (c:Con):∀ l:List Con,sz.szs (hx_ c l)<=c.sz+sz.szs l
 | []=>by grind[hx_,sz.szs]
 | d::l=>by
   simp only[hx_]
   split
   . grind[sz.szs]
   . split
     . grind
     . have:=wD_ c l;grind[sz.szs]
theorem wc_:∀ xs ys:List Con,sz.szs (xs++ys)=sz.szs xs+sz.szs ys
  | [],ys=>by simp[sz.szs]
  | x::xs,ys=>by rw[yaD_,sz.szs,sz.szs,wc_ xs ys];omega
theorem BX_ (l:List Con):sz.szs (srtC l)<=sz.szs l:=by
  have d:∀ (l s:List Con),sz.szs (l.foldl (λs c=>hx_ c s) s)<=sz.szs s+sz.szs l:=by
    intro l
    induction l<;>grind[sz.szs,wD_]
  grind[sz.szs,srtC]
theorem AL_ (c:Con):sz.szs (flat1 c)<=c.sz:=by
  grind[flat1,sz.szs,sz_eq]
theorem Af_ {s:List Con} (h:(meetF s).2=0):(meetF s).1.sz<=1+sz.szs s:=by
 unfold meetF at h ⊢
 split
 .rename_i b d
  have:=sz_mem (ycn_ d)
  grind
 grind[sz,sz.szs]
theorem og_:zeroC.sz=1:=rfl
mutual
theorem tdy_sz:∀ c:Con,c.tdy.1.sz<=c.sz
  | mk k n lo hi a cp ps=>by
    have h:=tdys_sz ps;rw[tdy]
    split
    . cases ps with
      | nil=>grind[tdy.tdys,og_,sz]
      | cons p ps =>
        rw[tdy.tdys];dsimp only;have d:=tdy_sz p
        grind[sz,sz.szs]
    . split
      . split
        . grind[og_,sz]
        . have d:=BX_ ((tdy.tdys ps).flatMap λz=>flat1 z.1)
          by_cases e:(meetF (srtC ((tdy.tdys ps).flatMap λz=>flat1 z.1))).2=0
          . grind[Af_,sz]
          . have:(meetF (srtC ((tdy.tdys ps).flatMap λz=>flat1 z.1))).1=zeroC:=by
              unfold meetF at e ⊢
              grind
            grind[og_,sz]
      simp
theorem tdys_sz:∀ ps:List Con,sz.szs ((tdy.tdys ps).flatMap λz=>flat1 z.1)<=sz.szs ps
  | []=>by grind[tdy.tdys]
  | p::ps=>by
    rw[tdy.tdys,yaT_,wc_];have d:=tdy_sz p;have e:=tdys_sz ps
    grind[AL_,sz.szs]
end
end Con
def Ax.tdyE (x:Ax):Int :=
  if x.check≠0 then x.check
  else if (us x.kind).left=true/\x.left.tdy.2≠0 then x.left.tdy.2
  else if (us x.kind).right=true/\x.right.tdy.2≠0 then x.right.tdy.2
  else 0
def Ax.tdyL (x:Ax):Con:=if (us x.kind).left=true then x.left.tdy.1 else x.left
def Ax.tdyR (x:Ax):Con:=if (us x.kind).right=true then x.right.tdy.1 else x.right
def Ax.swp (x:Ax):Prop:=(x.kind=2\/x.kind=3)/\0<Con.cmp x.tdyL x.tdyR
instance (x:Ax):Decidable x.swp:=by unfold Ax.swp;infer_instance
structure TdyOf (x y:Ax):Prop where
  kind:y.kind=x.kind
  opn:y.opn=x.opn
  roles:y.roles=x.roles
  role:y.role=x.role
  a:y.a=x.a
  b:y.b=x.b
  left:y.left.core=if x.swp then x.tdyR.core else x.tdyL.core
  right:y.right.core=if x.swp then x.tdyL.core else x.tdyR.core
end Go.Vs
namespace Go.Proofs.YtbffkokbdeppaaaGreatDoor
open Go Go.Sx Go.Proofs Tryz
attribute [local irreducible] Code.wp wpList wpAnyH
open Go.Vs
theorem zU_ (l:List Ax) (ad:Ao) (cap:Nat) (d:l.length<=cap/\cap<=2199023255488) (k:∀ x∈l,x.ok) {p:List Pc} {er:Int} (e:aM_ l=(p,er)) :
    Tri prog 66 #[.slice ad l.length cap] [] [bZ_ ad l,bE_] (λy:{y:Ao×Nat // p.length<=y.2/\y.2<=maxLen/\(y.1=none->y.2=0)}=>.tuple #[.slice y.1.1 p.length y.1.2,i4_ er]) (λ_=>[]) (λy=>[X_ y.1.1 (p.flatMap Pc.cells)]):=by
  have h:=zV_ l ad cap d k;generalize aM_ l=g at h e
  subst e;exact h
theorem xJ_ {l:List Ax} {p:List Pc} {er:Int} {S:List Str} (h:er≠0):kt_ l p er S=([],er):=yaq_ h
theorem uQ_ {l:List Ax} {p:List Pc} {er:Int} {S:List Str} (h:¬ er≠0) (d:hs_ S=false):kt_ l p er S=([],1):=by unfold kt_;rw[yag_ h,yaq_ d]
theorem xI_ {l:List Ax} {p:List Pc} {er:Int} {S:List Str} (h:¬ er≠0) (d:hs_ S=true):kt_ l p er S=(eL_ l p S l.length,0):=by unfold kt_;rw[yag_ h,yag_ (by rw[d];simp)]
theorem wI_ {er:Int} (h:er=0):¬ er≠0:=λq=>q h
theorem mz_ {G:Prop} (h:G:=by
 obtain⟨rfl,rfl⟩:=Prod.mk.inj m;exact eI_ results33 ⟨(none,0),by simp[maxLen]⟩ rfl rfl rfl i_ (λv _ h=>by exact⟨.inl rfl,trivial⟩)):G:=h
theorem xf_ (A:List Ax) (lad:Ao) (lcap:Nat) (H:A.length<=lcap/\lcap<=2199023255488) (O:∀ x∈A,x.ok) (J:A.length<=100000000) (S:List Str) (sad:Ao) (d:Nat) (hS:S.length<=100000000) (I:∀ s∈S,s.length<=100000) (p:List Pc) (er:Int) (P:aM_ A=(p,er)) (V:p.length<=100000000) (R:List Int) (e:Int) (Q:kt_ A p er S=(R,e)):Tri prog 33 #[.slice lad A.length lcap,.slice sad S.length d] [] [bZ_ lad A,bE_,X_ sad (S.flatMap aa_)] (λy:{y:Ao×Nat // R.length<=y.2/\y.2<=maxLen/\(y.1=none->y.2=0)}=>.tuple #[.slice y.1.1 R.length y.1.2,i4_ e]) (λ_=>[]) (λy=>[X_ y.1.1 (R.flatMap dl_)]):=by
 refine j_ func33 rfl rfl ntmps33 rfl λW=>?_;refine Zz 9 ?_;refine f_ (zU_ A lad lcap H O P) rfl i_ zf rfl λ⟨⟨ad,cap⟩,N,M,K⟩=>?_;dsimp only;refine Zi 11 (λk=>?_) λk=>?_
 .refine Zz 9 ?_
  refine aq_ (BG_ S sad d I) rfl i_ zf rfl λL B=>d_ (aK_ rfl) rfl (Zz 2 ?_)
  cases L
  .refine Zz 8 ?_
   have m:=Q.symm.trans (uQ_ (wI_ k) B);exact mz_
  refine Zz 8 ?_;refine f_ (qO_ A lad lcap p ad cap S sad d) rfl i_ zt rfl λ⟨bp,bs,U⟩=>?_;dsimp only;refine f_ (vJ_ A lad lcap p ad cap S sad d bp bs U V hS J) rfl i_ zf rfl λ⟨⟨T,G⟩,F,C,E⟩=>?_;dsimp only;refine Zz 5 ?_;have m:=Q.symm.trans (xI_ (wI_ k) B);obtain⟨rfl,rfl⟩:=Prod.mk.inj m;exact eI_ results33 ⟨(T,G),⟨F,C,E⟩⟩ rfl rfl rfl i_ zf
 refine Zz 11 ?_;have m:=Q.symm.trans (xJ_ k);exact mz_
theorem ru_:gr_ prog 24 [(0,1)] [.slice none 0 0]:=⟨_,st_,kX_,λw=>by simp[hD_]⟩
theorem elt_ax:Elt prog 22 30 16 216:=fT_ underlying22 (z:=.agg #[i4_ 0,.bool false,i4_ 0,str [],i4_ 0,i4_ 0,.slice none 0 0,i4_ 0,str [],i4_ 0,i4_ 0,.slice none 0 0,.slice none 0 0,str [],str [],str []]) zad_ rfl zae_
theorem Ax.cells_one (x:Ax):x.cells.all Value.oneCell'=true:=by simp[Ax.cells,Con.cells,Value.oneCell',str]
theorem my_ {G:Prop} (h:G:=by
 refine aD_ ?_;refine dw_ rfl ?_;refine M_ (λ_ a b=>⟨Vw.sat.sub (a.perm (c_ (c_ aJ_))),b⟩) ?_;refine m_ 7 rfl zk ?_;refine aH_ (news:=List.flatMap Ax.cells [H]) elt_ax K rfl rfl zp rfl (bz_ 0 rfl) (λu hu=>aF_ Ax.cells_one hu) zan_ zaq_ rfl λE I J=>?_;have m:=zsa J;refine aD_ ?_;refine dw_ rfl ?_;refine M_ zs ?_;refine G_ 1 [8] zk zs ?_;refine N_ rfl (eQ_ kX_ rfl rfl rfl hD_) rfl ?_;refine bX_ ?_;refine m_ 9 rfl zk ?_;refine u_ (S_ (g_ e_) (aW_ (g_ e_))) ?_;refine bT_ 1 m hD_ rfl rfl rfl rfl ?_;refine aD_ ?_;refine dw_ rfl ?_;refine M_ (λ_ a b=>⟨Vw.sat.sub (a.perm (c_ (c_ aJ_))),b⟩) ?_;refine pQ_ zk ?_;refine sa_ rfl ?_;exact dH_.1 (kr_ ⟨(E,I,L++[x]),by rw[ky_ e];exact m,by rw[ky_ e,yaj_,yaj_,C];rfl⟩ rfl (uZ_ (l_ (c_ e_) (x_ (c_ s_) (x_ E_ e_)))))):G:=h
theorem part_c (d:List Ax) (lad:Ao) (lcap:Nat) (p:List Pc) (ad:Ao) (cap:Nat) (S:List Str) (sad:Ao) (B:Nat) (hp:p.length<=100000000) (hS:S.length<=100000000) (Y:d.length<=100000000):Tri prog 39 #[.slice lad d.length lcap,.slice ad p.length cap,.slice sad S.length B] [] [X_ ad (p.flatMap Pc.cells),X_ sad (S.flatMap aa_),bZ_ lad d] (λy:{y:Value×Hp×List Int // at_ 30 16 y.1 (eB_ d y.2.2).length ((eB_ d y.2.2).flatMap Ax.cells) y.2.1/\y.2.2=(eL_ d p S d.length)}=>.agg #[y.1.1]) (λy=>y.1.2.1) (λ_=>[]):=by
 refine eX_ func39 rfl rfl ntmps39 rfl λQ=>?_;refine au_ ?_;refine ad_ ?_;refine L_ rfl rfl λA=>?_;refine C_ st_ rfl λk=>?_;refine aD_ ?_;refine ap_ rfl ?_;refine au_ ?_;refine au_ ?_;refine ad_ ?_;refine d_ (bU_ 1 ny_ rfl rfl rfl) rfl ?_;refine d_ (ab_ rfl) rfl ?_;refine d_ (ab_ rfl) rfl ?_;refine f_ (qO_ d lad lcap p ad cap S sad B) rfl i_ zt rfl λ⟨bp,bs,V⟩=>?_;dsimp only;refine aD_ ?_;refine ap_ rfl ?_;refine dX_ ?_;refine et_ (bk_ A (.cells #[.slice lad d.length lcap] 22 (0,0))) (aW_ (c_ e_)) (λ_ O N _=>⟨O,N⟩) ?_;refine bF_ [(3,zp_ A 0),(6,zp_ k 0),(11,.func (.func 161) #[] #[zp_ bp 0,zp_ bs 0,zp_ V 0])] zl ?_;refine jg_ [bk_ A (.cells #[.slice lad d.length lcap] 22 (0,0)),bZ_ lad d] (σ:={y:Value×Hp×List Int // at_ 30 16 y.1 (eB_ d y.2.2).length ((eB_ d y.2.2).flatMap Ax.cells) y.2.1/\(eB_ d y.2.2).length=y.2.2.length}) (α:=Int) (xv:=λx=>i4_ x) (good:=λs x=>s.1.2.2.length<100000000/\0<=x/\x<(List.length d:Int)) (nx:=λx s X=>X.1.2.2=s.1.2.2++[x]) (Rc:=λs=>s.1.2.2=(eL_ d p S d.length)) (Γi:=[bk_ bp (.cells #[.slice ad p.length cap] 69 (0,0)),bk_ bs (.cells #[.slice sad S.length B] 25 (0,0)),bk_ V (.cells #[.slice lad d.length lcap] 22 (0,0)),X_ ad (p.flatMap Pc.cells),X_ sad (S.flatMap aa_),bZ_ lad d,bk_ A (.cells #[.slice lad d.length lcap] 22 (0,0)),bZ_ lad d]) (Hj:=λy=>(k,.cells #[y.1.1] 24 (0,0))::y.1.2.1) (Hc:=[]) (caps:=[zp_ bp 0,zp_ bs 0,zp_ V 0]) ⟨(.slice none 0 0,[],[]),at_.nil _ _,rfl⟩ rfl (.refl _) zf ?_ ?_ ?_
 .rintro l D rec hpa a0 Z ht U P ⟨⟨sv,M,L⟩,K,C⟩ x ⟨T,hx_2,hx_3⟩
  dsimp only at K C T ⊢;obtain⟨H,e⟩:∃ H,d[x.toNat]? = some H:=⟨_,yaa_ zaa_⟩;refine iS_ (ι:=Unit) (Hj:=λy:{y:Value×Hp×List Int // at_ 30 16 y.1 (eB_ d y.2.2).length ((eB_ d y.2.2).flatMap Ax.cells) y.2.1/\(eB_ d y.2.2).length=y.2.2.length}=>(k,.cells #[y.1.1] 24 (0,0))::y.1.2.1) (s:=⟨(sv,M,L),K,C⟩) (ok:=λX=>X.1.2.2=L++[x]) (Γ:=[bk_ A (.cells #[.slice lad d.length lcap] 22 (0,0)),bZ_ lad d]) (λ_=>[(3,zp_ A 0),(6,zp_ k 0),(7,i4_ x)]) (λ_=>(k,.cells #[sv] 24 (0,0))::M) hpa a0 Z ht rfl ?_ ?_
  .intro n Q a1 W
   rw[U];dsimp only;refine dH_.2 (u_ (H':=(k,.cells #[sv] 24 (0,0))::(M++W)) zai_ (dH_.1 ?_));refine bs_ ?_;refine aO_ (bI_ _) (ay_ rfl) rfl rfl ?_;refine cp_ ?_;refine dx_ rfl ?_;exact dY_ () zl (F:=[]) zaD_ zh
  intro n Q a1 W _;rw[P];refine dH_.2 (u_ (H':=(k,.cells #[sv] 24 (0,0))::(M++W)) zai_ (dH_.1 ?_));refine gL_ ?_;refine uP_ (W) zk rfl rfl pW_ ?_;refine G_ 5 [0,2,3,4,5] zk zs ?_;refine N_ rfl (eQ_ kX_ rfl rfl rfl hD_) rfl ?_;refine N_ rfl (cv_ ny_ rfl zf rfl) rfl ?_;refine N_ rfl (ab_ rfl) rfl ?_;refine N_ rfl (P_ aN_ I_ rfl rfl (λv _ h=>av_ (n:=16) Ax.cells_len zae_ (by exact h.2.1.1) e) zaa_ zag_) rfl ?_;refine N_ rfl (ak_ (ad:=lad) (us:=Ax.cells H) bA_ I_ rfl (λv _ h=>by exact h.2.1.1) (Ax.cells_len _) (A_ Ax.cells_len e)) rfl ?_;refine bX_ ?_;refine dz_ 1 6 rfl rfl zk ?_ ?_
  .refine d_ (bU_ 0 ny_ rfl rfl rfl) rfl ?_
   refine aD_ ?_;refine dw_ rfl ?_;refine M_ zs ?_;refine m_ 6 rfl zk ?_;refine B_ aN_ I_ aA_ rfl rfl rfl rfl rfl rfl λb_3=>?_;exact my_
  refine B_ aN_ I_ aA_ rfl rfl rfl rfl rfl rfl λb_3=>?_;refine aD_ ?_;refine dw_ rfl ?_;refine M_ (λ_ a b=>⟨Vw.sat.sub (a.perm (c_ (c_ aJ_))),b⟩) ?_;refine m_ 1 rfl zk ?_;refine d_ (bU_ 1 ny_ rfl rfl rfl) rfl ?_;exact my_
 .intro l Gj hY
  exact Al_ (lst:=λy=>y.1.2.2) d lad lcap p ad cap S sad B bp bs V (bk_ A (.cells #[.slice lad d.length lcap] 22 (0,0))) (bZ_ lad d) (λs x h=>hY s x h) ⟨(.slice none 0 0,[],[]),at_.nil _ _,rfl⟩ rfl hp hS Y
 rintro ⟨⟨sv,M,L⟩,K,C⟩ hL D l r;dsimp only at hL K C ⊢;refine da_ rfl ?_;refine fS_ ?_;refine bs_ ?_;refine aO_ aP_ (cW_ 0 jp_ cw_ rfl rfl rfl) rfl rfl ?_;refine eJ_ aP_ 0 cw_ rfl rfl rfl rfl rfl (by have q:=(fQ_ K).2;simp only[Value.cells,ycj_,ycy_,q,ycr_]) ?_;refine cp_ ?_;refine da_ rfl ?_;refine hG_ ?_;exact tc_ (G:=(k,.cells #[sv] 24 (0,0))::(M++[(l,.loop r)])) ⟨(sv,M,L),K,hL⟩ (λa v O N=>dm_ (us:=[sv]) 0 results39 jp_ cw_ rfl rfl rfl a v O N) zbe_ ⟨_,DC_⟩ rfl
theorem BS_:gr_ prog 171 [(0,5),(5,1),(6,1)] [i4_ 0,str [],i4_ 0,i4_ 0,.slice none 0 0,i4_ 0,.slice none 0 0]:=⟨_,cF_,runUnderlying171,λw=>by simp[R_,t_,sizeOf169]⟩
theorem sf_:Elt prog 169 171 7 96:=fT_ underlying169 (z:=.agg #[i4_ 0,str [],i4_ 0,i4_ 0,.slice none 0 0,i4_ 0,.slice none 0 0]) zad_ rfl zae_
theorem Tre.cells_one (t:Tre):t.cells.all Value.oneCell'=true:=Go.Vs.Tre.cells_one t
theorem rV_:∀ (m:Nat) (c:Con),c.sz<=m->c.sz<=1000000->Tri prog 118 #[Con.val c] [] [Con.memF c] (λy:{t:Tre // t.con=c/\t.wf}=>y.1.val) (λ_=>[]) (λy=>[y.1.memF]):=by
 intro m
 induction m with
 | zero=>intro c h;have:=Con.sz_pos c;omega
 | succ m ih =>
   intro c h hz;refine j_ func118 rfl rfl ntmps118 rfl λa6=>?_;refine Zz 2 ?_;refine L_ rfl rfl λb_1=>C_ cF_ rfl λJ=>Zz 5 ?_
   refine d_ (y_ BS_ rfl rfl) rfl (p_ 0 aL_ rfl rfl rfl rfl rfl rfl (Zz 12 ?_));refine J_ (ι:={y:Nat×List Tre×Int×Value×Hp // y.1<=List.length c.parts/\List.map Tre.con y.2.1=List.take y.1 c.parts/\y.2.2.1=((1+Con.sz.szs (c.parts.take y.1):Nat):Int)/\(∀ t∈y.2.1,t.wf)/\zR 171 7 Tre.cells y.2.2.2.1 y.2.1 y.2.2.2.2}) (λy=>[(2,zp_ J 0),(9,.slice c.ad c.parts.length c.cap),(10,i4_ (List.length c.parts:Int)),(11,i4_ y.1.1)]) (λy=>((J,.cells #[i4_ c.kind,str c.name,i4_ c.lo,i4_ c.hi,.slice c.ad c.parts.length c.cap,i4_ y.1.2.2.1,y.1.2.2.2.1] 171 (0,0))::y.1.2.2.2.2)) (λy=>[cV_ y.1.2.1,Con.memF c]) (λy=>c.parts.length - y.1.1) ⟨((0:Nat),([]:List Tre),1,(.slice none 0 0),[]),by simp,by simp,(by simp[Con.sz.szs]),by simp,(at_.nil _ _)⟩ zl e_ (λv _ h=>by exact⟨(show (cV_ ([]:List Tre)).p v from λt C=>by simp at C),h.1,trivial⟩) ?_;rintro ⟨⟨i,Z,S,a1,a5⟩,O,x,B,G,k⟩;dsimp only at O x B G k ⊢;have hzb:=szs_take_le (l:=Con.parts c) i;have a8:=Con.sz_eq c;have a2:=Con.parts_lt c;refine Zi 2 (λA=>?_) λA=>?_
   . refine Zz 9 ?_;refine p_ 0 aL_ rfl rfl rfl rfl rfl (by have q:=(fQ_ k).2;simp only[Value.cells,ycj_,ycy_,q,ycr_];rfl) ?_;refine Zz 3 ?_;refine bQ_ k E_ λM F K Y a0 X=>?_;subst K;have U:List.take i c.parts=Con.parts c:=yac_ zaa_;rw[U]at x B;exact dk_ ⟨Tre.mk c S M F Z,rfl,(Tre.wf_iff _).2 ⟨by dsimp only[Tre.size,Tre.con];rw[B,Con.sz_eq],x.symm,G⟩⟩ (λaa v W T=>dm_ (us:=Tre.cells (Tre.mk c S M F Z)) 0 results118 hO_ aL_ rfl rfl rfl aa v W T) i_ (λv _ h=>by exact⟨(Tre.mem_iff _ v).2 ⟨h.2.2.1,h.1,h.2.1⟩,trivial⟩)
   . obtain⟨H,I,e,d⟩:=zge (show i<c.parts.length by omega);refine Zz 10 ?_;refine d_ (P_ af_ t_ rfl rfl (λv _ h=>av_ (n:=5) Con.cells_len zae_ (by exact ((Con.mem_iff c v).1 h.2.1).1) e) zaa_ zag_) rfl ?_;refine d_ (ak_ (ad:=c.ad) (us:=Con.cells I) ae_ t_ rfl (λv _ h=>by exact ((Con.mem_iff c v).1 h.2.1).1) (Con.cells_len _) (A_ Con.cells_len e)) rfl (C_ ba_ rfl λb_3=>p_ 0 t_ rfl rfl rfl rfl rfl rfl (Zz 5 ?_));refine f_ (ih I zbB_ zbB_) rfl i_ (λv _ h=>by exact⟨(Con.mem_part (c:=c) h.2.1 d),trivial⟩) rfl λ⟨q,N,P⟩=>?_;dsimp only;have V:Tre.size q=(Con.sz I:Int):=by rw[((Tre.wf_iff q).1 P).1,N]
     have a3:=Con.sz_part d;refine C_ cF_ rfl λa4=>p_ 0 aL_ rfl rfl rfl rfl rfl rfl (Zz 10 ?_)
     refine p_ 2 R_ rfl rfl rfl rfl rfl rfl (Zz 6 ?_);refine B_ aX_ aL_ cF_ rfl rfl rfl rfl rfl rfl λa7=>?_;refine aH_ (news:=List.flatMap Tre.cells [q]) sf_ k rfl rfl (c_ (c_ (c_ E_))) rfl (bz_ 0 rfl) (λu hu=>aF_ Tre.cells_one hu) (by simp only[maxLen];((try simp only[yaj_,yak_,yay_]);have:=yae_ List.length x;rw[yaC_,yaI_]at this;have:=Con.parts_lt c;omega)) (by ((try simp only[yaj_,yak_,yay_]);have:=yae_ List.length x;rw[yaC_,yaI_]at this;have:=Con.parts_lt c;omega)) rfl λL Q A=>?_;refine u_ yaE_ ?_;have E:=zsa A;refine Zz 1 ?_;refine bT_ 3 E sizeOf169 rfl rfl rfl rfl (Zz 7 ?_);exact w_ ⟨(i+1,(Z++[q]),(S+Tre.size q),L,Q),H,(by rw[take_snoc e,yaz_,x];simp[N]),(by show S+Tre.size q=_;rw[szs_step e,B,V];omega),(λt C=>by rcases yai_.1 C with C|C;exact G t C;rw[yam_]at C;subst C;exact P),E⟩ zab_ zl (l_ (c_ (c_ (c_ e_))) (c_ (c_ E_))) (λv _ h=>by exact⟨ko_ h.2.1 h.1,h.2.2.1,trivial⟩)
theorem yJ_ (d us:List Tre) (ad L:Ao) (cap H:Nat) (Q:d.length<=1000000) (T:us.length<=1000000) (O:(∀ t∈d,∀ u∈us,Tri prog 119 #[t.val,u.val] [] [t.memF,u.memF] (λ_:Unit=>i4_ (Con.cmp t.con u.con)) (λ_=>[]) (λ_=>[]))):Tri prog 202 #[.slice ad d.length cap,.slice L us.length H,.func (.func 119) #[] #[]] [] [X_ ad (d.flatMap Tre.cells),X_ L (us.flatMap Tre.cells),cV_ d,cV_ us] (λ_:Unit=>i4_ (Con.cmp.cmps (d.map Tre.con) (us.map Tre.con))) (λ_=>[]) (λ_=>[]):=by
 refine j_ func202 rfl rfl ntmps202 rfl λN=>?_;refine Zz 14 ?_;refine J_ (ι:={y:Nat // y<=List.length d/\Con.cmp.cmps (d.map Tre.con) (us.map Tre.con)=Con.cmp.cmps (List.drop y (d.map Tre.con)) (List.drop y (us.map Tre.con))}) (λy=>[(0,.slice ad d.length cap),(1,.slice L us.length H),(2,.func (.func 119) #[] #[]),(6,i4_ 0),(11,.slice ad d.length cap),(12,i4_ (List.length d:Int)),(13,i4_ y.1)]) (λy=>([])) (λy=>[X_ ad (d.flatMap Tre.cells),X_ L (us.flatMap Tre.cells),cV_ d,cV_ us]) (λy=>d.length - y.1) ⟨(0:Nat),by simp,rfl⟩ zl i_ zh ?_;rintro ⟨i,K,e⟩;dsimp only at K e ⊢;refine Zi 2 (λJ=>?_) λJ=>?_
 .refine Zi 13 (λB=>?_) λB=>?_
  .refine Zz 11 ?_
   exact ac_ results202 () (bi_ rfl (by rw[e];symm;exact Bb_ zap_ zap_)) i_ zt
  refine Zz 9 ?_;exact ac_ results202 () (bi_ rfl (by rw[e];symm;exact vK_ zap_ zap_)) i_ zt
 obtain⟨F,I,C,x⟩:=zge (show i<d.length by omega);refine Zz 13 ?_;refine C_ cF_ rfl λS=>Zz 1 ?_
 refine p_ 0 aL_ rfl rfl rfl rfl rfl rfl (Zi 8 (λB=>?_) λB=>?_)
 .have E:i<us.length:=by omega
  obtain⟨G,m⟩:∃ M,us[i]? = some M:=⟨_,yaa_ E⟩;have k:G∈us:=yab_ m;refine Zz 11 ?_;refine C_ cF_ rfl λP=>p_ 0 aL_ rfl rfl rfl rfl rfl rfl (Zz 7 ?_)
  refine O_ (O I x G k) rfl rfl i_ (λv _ h=>by exact⟨(h.2.2.1 I x),(h.2.2.2.1 G k),trivial⟩) rfl λ_=>Zi 6 (λA=>?_) λA=>?_
  .refine Zz 10 ?_
   exact w_ ⟨i+1,F,(by rw[e,wR_ (by rw[yaM_,C];rfl) (by rw[yaM_,m];rfl),yaq_ A])⟩ zab_ zl i_ zh
  refine Zz 10 ?_;exact ac_ results202 () (bi_ rfl (by rw[e,wR_ (by rw[yaM_,C];rfl) (by rw[yaM_,m];rfl),yag_ A])) i_ zt
 refine Zz 9 ?_;exact ac_ results202 () (bi_ rfl (by rw[e];symm;exact yF_ zap_ zap_)) i_ zt
theorem ma_:∀ (m:Nat) (t u:Tre),t.con.sz<=m->t.wf->u.wf->t.con.sz<=1000000->u.con.sz<=1000000->Tri prog 119 #[Tre.val t,Tre.val u] [] [Tre.memF t,Tre.memF u] (λ_:Unit=>i4_ (Con.cmp t.con u.con)) (λ_=>[]) (λ_=>[]):=by
 intro m
 induction m with
 | zero=>intro t u h;have:=Con.sz_pos t.con;omega
 | succ m ih =>
   intro t u h e E J N;obtain⟨C,A,M⟩:=(Tre.wf_iff t).1 e;obtain⟨B,k,L⟩:=(Tre.wf_iff u).1 E;have F:(Tre.parts t).length<=1000000:=by have q:=yae_ List.length A;rw[yaC_]at q;have:=Con.parts_lt t.con;omega
   have G:(Tre.parts u).length<=1000000:=by have q:=yae_ List.length k;rw[yaC_]at q;have:=Con.parts_lt u.con;omega
   refine j_ func119 rfl rfl ntmps119 rfl λO=>?_;refine Zz 2 ?_;refine L_ rfl rfl λQ=>L_ rfl rfl λP=>Zz 5 ?_
   refine G_ 8 [0,1,2,3,5,6,7,8,9,10,12,13,14,15,16,17,19,20,21,22,23,24,26,27,28,29,30,31] zk zs (Zz 29 ?_);refine m_ 4 rfl zk (f_ (fg_ (Tre.size t) (Tre.size u)) rfl i_ zt rfl λ_=>Zz 3 ?_);refine m_ 11 rfl zk (f_ (fg_ (Con.kind (Tre.con t)) (Con.kind (Tre.con u))) rfl i_ zt rfl λ_=>Zz 3 ?_);refine m_ 18 rfl zk (f_ (gY_ (Con.name (Tre.con t)) (Con.name (Tre.con u))) rfl i_ zt rfl λ_=>Zz 3 ?_);refine m_ 25 rfl zk (f_ (fg_ (Con.lo (Tre.con t)) (Con.lo (Tre.con u))) rfl i_ zt rfl λ_=>Zz 3 ?_);refine m_ 32 rfl zk (f_ (fg_ (Con.hi (Tre.con t)) (Con.hi (Tre.con u))) rfl i_ zt rfl λ_=>Zz 3 ?_);refine m_ 33 rfl zk (B_ as_ R_ bJ_ rfl rfl rfl rfl rfl rfl λI=>?_);refine U_ (List.flatMap dl_ [(Lib.compareInt (Tre.size t) (Tre.size u)),(Lib.compareInt (Con.kind (Tre.con t)) (Con.kind (Tre.con u))),(Lib.compareBytes (Con.name (Tre.con t)) (Con.name (Tre.con u))),(Lib.compareInt (Con.lo (Tre.con t)) (Con.lo (Tre.con u))),(Lib.compareInt (Con.hi (Tre.con t)) (Con.hi (Tre.con u)))]) e_ rfl ?_;refine Zz 3 ?_;refine m_ 34 rfl zk (f_ (wt_ [(Lib.compareInt (Tre.size t) (Tre.size u)),(Lib.compareInt (Con.kind (Tre.con t)) (Con.kind (Tre.con u))),(Lib.compareBytes (Con.name (Tre.con t)) (Con.name (Tre.con u))),(Lib.compareInt (Con.lo (Tre.con t)) (Con.lo (Tre.con u))),(Lib.compareInt (Con.hi (Tre.con t)) (Con.hi (Tre.con u)))] (some ⟨I,0,none⟩) 5 zai_) rfl i_ zf rfl λ_=>Zz 3 ?_);refine G_ 0 [35] zk zs (Zi 8 (λd=>?_) λd=>?_)
   . refine Zz 11 ?_;refine f_ (yJ_ (Tre.parts t) (Tre.parts u) (Tre.ad t) (Tre.ad u) (Tre.cap t) (Tre.cap u) F G (λx H y K=>ih x y (by have:=(Tre.wf_part e H).2;omega) (Tre.wf_part e H).1 (Tre.wf_part E K).1 (by have:=(Tre.wf_part e H).2;omega) (by have:=(Tre.wf_part E K).2;omega))) rfl i_ (λv _ h=>by exact⟨((Tre.mem_iff t v).1 h.2.1).2.1,((Tre.mem_iff u v).1 h.2.2.1).2.1,((Tre.mem_iff t v).1 h.2.1).2.2,((Tre.mem_iff u v).1 h.2.2.1).2.2,trivial⟩) rfl λ_=>?_;refine Zz 4 ?_;exact ac_ results119 () (bi_ rfl (by rw[ri_,<-C,<-B,yaq_ d,A,k])) i_ zt
   . refine Zz 10 ?_;exact ac_ results119 () (bi_ rfl (by rw[ri_,<-C,<-B,yag_ d])) i_ zt
theorem eE_ (c d:Con) (x:c.sz<=1000000) (k:d.sz<=1000000):Tri prog 55 #[Con.val c,Con.val d] [] [Con.memF c,Con.memF d] (λ_:Unit=>i4_ (Con.cmp c d)) (λ_=>[]) (λ_=>[]):=by
  refine j_ func55 rfl rfl ntmps55 rfl λB=>?_;refine Zz 2 ?_;refine L_ rfl rfl λC=>L_ rfl rfl λE=>Zz 5 ?_
  refine G_ 4 [0,2] zk zs (Zz 3 ?_);refine m_ 1 rfl zk (f_ (rV_ _ c (yad_ _) x) rfl i_ zf rfl λ⟨A,h,v⟩=>?_);dsimp only;refine Zz 3 ?_;refine m_ 3 rfl zk (f_ (rV_ _ d (yad_ _) k) rfl i_ zf rfl λ⟨y,e,m⟩=>?_);dsimp only;refine Zz 3 ?_;refine m_ 4 rfl zk (f_ (ma_ _ A y (yad_ _) v m (by rw[h];exact x) (by rw[e];exact k)) rfl i_ zf rfl λ_=>?_);refine Zz 3 ?_;refine G_ 0 [5] zk zs (Zz 5 ?_);exact ac_ results55 () (bi_ rfl (by rw[h,e])) i_ zt
theorem sw_ {P:Program} {N:Nf} {fr:Fr} {H:Hp} {Γ:List Fct} {t k ty:TypeId} {x y:Operand} {m n:List UInt8} (A:Fr.ev fr x=some (str m)) (h:Fr.ev fr y=some (str n)):Yld P N fr H Γ (.binOp .gtr t x y k) ty (.bool (decide (n<m))) :=
  λa v d _ _ _ _ _=>by
    have e:decide (n<m)=!decide (m<=n):=by rw[ybh_];simp[List.not_le]
    rw[e,<-Dl_];simp[execOp,d.ev A,d.ev h,str,eqGuard,binOp,Op.stringOp]
theorem rM_ (s:Str):Fn0 prog 282 #[str s] (.bool false):=by
  refine j_ func282 rfl rfl ntmps282 rfl λd=>?_;refine Zz 9 ?_;refine d_ (ai_ (dQ_ rfl rfl) (show _=Value.bool false from yae_ Value.bool zai_)) rfl (Zz 4 ?_);exact ac_ results282 () rfl i_ zt
theorem yG_ (x y:Str):Fn0 prog 208 #[str x,str y] (i4_ (Lib.compareBytes x y)):=by
 refine j_ func208 rfl rfl ntmps208 rfl λk=>?_;refine Zz 8 ?_;refine f_ (rM_ x) rfl i_ zt rfl λ_=>Zz 6 ?_
 refine f_ (rM_ y) rfl i_ zt rfl λ_=>Zi 26 (λe=>?_) λe=>?_
 .refine Zz 10 ?_
  refine F_ (sw_ rfl rfl) rfl λh d=>Zz 2 ?_
  cases h
  .replace d:=zdf d
   refine Zz 9 ?_;exact ac_ results208 () (bi_ rfl (by rw[jw_,yag_ e,yag_ d])) i_ zt
  replace d:=zdt d;refine Zz 7 ?_;exact ac_ results208 () (bi_ rfl (by rw[jw_,yag_ e,yaq_ d])) i_ zt
 refine Zz 9 ?_;exact ac_ results208 () (bi_ rfl (by rw[jw_,yaq_ e])) i_ zt
theorem Df_ (d v:List Str) (ad H:Ao) (cap E:Nat) (hl:d.length<=140737488351232) (hm:v.length<=140737488351232):Tri prog 127 #[.slice ad d.length cap,.slice H v.length E] [] [X_ ad (d.flatMap aa_),X_ H (v.flatMap aa_)] (λ_:Unit=>i4_ (dW_ d v)) (λ_=>[]) (λ_=>[]):=by
 refine j_ func127 rfl rfl ntmps127 rfl λK=>?_;refine Zz 14 ?_;refine J_ (ι:={y:Nat // y<=List.length d/\dW_ d v=dW_ (d.drop y) (v.drop y)}) (λy=>[(0,.slice ad d.length cap),(1,.slice H v.length E),(4,i4_ 0),(9,.slice ad d.length cap),(10,i4_ (List.length d:Int)),(11,i4_ y.1)]) (λy=>([])) (λy=>[X_ ad (d.flatMap aa_),X_ H (v.flatMap aa_)]) (λy=>d.length - y.1) ⟨(0:Nat),by simp,rfl⟩ zl i_ zh ?_;rintro ⟨i,G,e⟩;dsimp only at G e ⊢;refine Zi 2 (λF=>?_) λF=>?_
 .refine Zi 13 (λm=>?_) λm=>?_
  .refine Zz 11 ?_
   exact ac_ results127 () (bi_ rfl (by rw[e];symm;exact Bc_ zaa_ zaa_)) i_ zt
  refine Zz 9 ?_;exact ac_ results127 () (bi_ rfl (by rw[e];symm;exact vL_ zaa_ zaa_)) i_ zt
 have k:i<d.length:=by omega
 obtain⟨I,x⟩:∃ B,d[i]? = some B:=⟨_,yaa_ k⟩;refine Zi 23 (λm=>?_) λm=>?_
 .have C:i<v.length:=by omega
  obtain⟨J,A⟩:∃ B,v[i]? = some B:=⟨_,yaa_ C⟩;refine Zz 18 ?_;refine f_ (yG_ I J) rfl i_ zt rfl λ_=>Zi 6 (λh=>?_) λh=>?_
  .refine Zz 10 ?_
   exact w_ ⟨i+1,k,(by rw[e,wS_ x A,yaq_ h])⟩ zab_ zl i_ zh
  refine Zz 10 ?_;exact ac_ results127 () (bi_ rfl (by rw[e,wS_ x A,yag_ h])) i_ zt
 refine Zz 9 ?_;exact ac_ results127 () (bi_ rfl (by rw[e];symm;exact yI_ zaa_ zaa_)) i_ zt
theorem sB_ (x:Ax) (F:x.ok) (H:x.left.sz<=1000000) (I:x.right.sz<=1000000):Tri prog 126 #[Ax.val x] [] [Ax.memF x] (λ_:Unit=>i4_ x.wgt) (λ_=>[]) (λ_=>[]):=by
 refine j_ func126 rfl rfl ntmps126 rfl λY=>?_;have V:=F.cap;refine Zz 2 ?_;refine L_ rfl rfl λJ=>Zz 10 ?_
 refine B_ af_ t_ ba_ rfl rfl rfl rfl rfl rfl λB=>?_;refine U_ (List.flatMap Con.cells [x.left,x.right]) e_ rfl ?_;refine Zz 5 ?_;let Pu:Hp:=((J,.cells (Ax.cells x).toArray 30 (0,0))::[]);refine J_ (ι:={y:Nat×Int // y.1<=List.length [x.left,x.right]/\y.2=wgL (List.take y.1 [x.left,x.right])}) (λy=>[(1,zp_ J 0),(2,i4_ y.1.2),(11,.slice (some ⟨B,0,none⟩) (List.length [x.left,x.right]) 2),(12,i4_ 2),(13,i4_ y.1.1)]) (λy=>Pu) (λy=>[X_ (some ⟨B,0,none⟩) (List.flatMap Con.cells [x.left,x.right]),Ax.memF x]) (λy=>List.length [x.left,x.right] - y.1.1) ⟨((0:Nat),0),by simp,(by simp[wgL])⟩ zl e_ zh ?_;rintro ⟨⟨i,M⟩,O,Q⟩;dsimp only at O Q ⊢;have a0:=wgL_bd (l:=List.take i [x.left,x.right]) (λc hc=>(lB_ F H I (ybr_ hc)).2);have X:(List.take i [x.left,x.right]).length<=2:=by rw[yaI_];exact Nat.min_le_right _ _
 refine Zi 2 (λS=>?_) λS=>?_
 .refine Zz 12 ?_
  refine d_ (aC_ rfl rfl rfl (bx_ zaj_ zaj_)) rfl ?_;refine Zz 12 ?_;refine B_ n_ D_ V_ rfl rfl rfl rfl rfl rfl λK=>?_;refine U_ (List.flatMap aa_ [x.role,x.a,x.b]) e_ rfl ?_;refine Zz 5 ?_;have hB:M=wgL [x.left,x.right]:=by rw[Q,yac_ zbA_]
  refine J_ (ι:={y:Nat×Int // y.1<=List.length [x.role,x.a,x.b]/\y.2=wgL [x.left,x.right]+(List.length x.roles:Int)+wgS (List.take y.1 [x.role,x.a,x.b])}) (λy=>[(1,zp_ J 0),(2,i4_ y.1.2),(11,.slice (some ⟨B,0,none⟩) (List.length [x.left,x.right]) 2),(12,i4_ 2),(13,i4_ i),(36,.slice (some ⟨K,0,none⟩) (List.length [x.role,x.a,x.b]) 3),(37,i4_ 3),(38,i4_ y.1.1)]) (λy=>Pu) (λy=>[X_ (some ⟨K,0,none⟩) (List.flatMap aa_ [x.role,x.a,x.b]),X_ (some ⟨B,0,none⟩) (List.flatMap Con.cells [x.left,x.right]),Ax.memF x]) (λy=>List.length [x.role,x.a,x.b] - y.1.1) ⟨((0:Nat),(M+(List.length x.roles:Int))),by simp,(by show (M+(List.length x.roles:Int))=_;rw[hB];simp[wgS])⟩ zl e_ zh ?_;rintro ⟨⟨j,T⟩,P,N⟩;dsimp only at P N ⊢;have U:=wgS_bd (List.take j [x.role,x.a,x.b]);have Z:(List.take j [x.role,x.a,x.b]).length<=3:=by rw[yaI_];exact Nat.min_le_right _ _
  refine Zi 2 (λe=>?_) λe=>?_
  .refine Zz 13 ?_
   exact ac_ results126 () (bi_ rfl (by rw[N,Ax.wgt_eq,yac_ zbA_])) i_ zt
  have m:j<List.length [x.role,x.a,x.b]:=by simp only[yak_,yay_]at *;omega
  obtain⟨W,C⟩:∃ L,[x.role,x.a,x.b][j]? = some L:=⟨_,yaa_ m⟩;refine Zz 11 ?_;refine d_ (bw_ (ad:=(some ⟨K,0,none⟩)) W_ rfl zf (A_ an_ C 0 _ rfl)) rfl (Zi 6 (λG=>?_) λG=>?_)
  .refine Zz 6 ?_
   refine d_ (aC_ rfl rfl rfl (bx_ zaj_ zaj_)) rfl ?_;refine Zz 3 ?_;exact w_ ⟨(j+1,T),m,(by show T=_;rw[sz_ C,yaq_ G];omega)⟩ zab_ zl e_ zh
  refine Zz 5 ?_;refine d_ (aC_ rfl rfl rfl (bx_ zaj_ zaj_)) rfl ?_;refine Zz 4 ?_;refine d_ (aC_ rfl rfl rfl (bx_ zaj_ zaj_)) rfl ?_;refine Zz 3 ?_;exact w_ ⟨(j+1,(T+1)),m,(by show (T+1)=_;rw[sz_ C,yag_ G];omega)⟩ zab_ zl e_ zh
 have k:i<List.length [x.left,x.right]:=by simp only[yak_,yay_]at *;omega
 obtain⟨E,A⟩:∃ L,[x.left,x.right][i]? = some L:=⟨_,yaa_ k⟩;have d:E∈[x.left,x.right]:=yab_ A;have hcz:=(lB_ F H I d).2;refine Zz 11 ?_;refine d_ (ak_ (ad:=(some ⟨B,0,none⟩)) (us:=Con.cells E) ae_ t_ rfl zf (Con.cells_len _) (A_ Con.cells_len A)) rfl (C_ ba_ rfl λK=>p_ 0 t_ rfl rfl rfl rfl rfl rfl (Zi 6 (λe=>?_) λe=>?_))
 .refine Zz 6 ?_
  refine d_ (aC_ rfl rfl rfl (bx_ zaj_ zaj_)) rfl ?_;refine Zz 3 ?_;exact w_ ⟨(i+1,M),k,(by show M=_;rw[sA_ A,yaq_ e];omega)⟩ zab_ zl (c_ e_) zh
 refine Zz 6 ?_;refine f_ (size_c E (lB_ F H I d).1 (lB_ F H I d).2) rfl i_ (λv _ h=>by exact⟨(Bj_ h.2.1 d),trivial⟩) rfl λ_=>?_;refine d_ (aC_ rfl rfl rfl (bx_ zaj_ zaj_)) rfl ?_;refine Zz 4 ?_;refine d_ (aC_ rfl rfl rfl (bx_ zaj_ zaj_)) rfl ?_;refine Zz 3 ?_;exact w_ ⟨(i+1,(M+(Con.sz E:Int))),k,(by show (M+(Con.sz E:Int))=_;rw[sA_ A,yag_ e];omega)⟩ zab_ zl (c_ e_) zh
theorem mS_ {G:Prop} (h:G:=by
 refine Zz 8 ?_;refine f_ (eE_ x.right y.right C A) rfl i_ (λv _ h=>by exact⟨h.2.1.2.1,h.2.2.1.2.1,trivial⟩) rfl λ_=>Zi 7 (λk=>?_) λk=>?_
 .exact iQ_
 refine Zz 10 ?_;exact hh_):G:=h
theorem hh_ {G:Prop} (h:G:=by
 exact ac_ results58 () (bi_ rfl (by unfold Ax.cmp;simp only[orF]at *;(repeat' split)<;>simp_all)) i_ zt):G:=h
theorem iQ_ {G:Prop} (h:G:=by
 refine Zz 7 ?_;refine G_ 7 [0,1,2,3,5,6,7,8,10,11,12,13,15,16,17,18] zk zs (Zz 17 ?_);refine m_ 4 rfl zk (f_ (Df_ x.roles y.roles x.ad y.ad x.cap y.cap (by have:=e.len;have:=e.cap;omega) (by have:=d.len;have:=d.cap;omega)) rfl i_ (λv _ h=>by exact⟨h.2.1.2.2,h.2.2.1.2.2,trivial⟩) rfl λ_=>?_);refine Zz 3 ?_;refine m_ 9 rfl zk (f_ (gY_ x.role y.role) rfl i_ zt rfl λ_=>Zz 3 ?_);refine m_ 14 rfl zk (f_ (gY_ x.a y.a) rfl i_ zt rfl λ_=>Zz 3 ?_);refine m_ 19 rfl zk (f_ (gY_ x.b y.b) rfl i_ zt rfl λ_=>Zz 3 ?_);refine m_ 20 rfl zk (B_ as_ R_ bJ_ rfl rfl rfl rfl rfl rfl λm=>?_);refine U_ (List.flatMap dl_ [(dW_ x.roles y.roles),(Lib.compareBytes x.role y.role),(Lib.compareBytes x.a y.a),(Lib.compareBytes x.b y.b)]) e_ rfl ?_;refine Zz 3 ?_;refine m_ 21 rfl zk (f_ (wt_ [(dW_ x.roles y.roles),(Lib.compareBytes x.role y.role),(Lib.compareBytes x.a y.a),(Lib.compareBytes x.b y.b)] (some ⟨m,0,none⟩) 4 zai_) rfl i_ zf rfl λ_=>Zz 3 ?_);refine G_ 0 [22] zk zs (Zz 5 ?_);exact hh_):G:=h
theorem wT_ (x y:Ax) (e:x.ok) (d:y.ok) (E:x.left.sz<=1000000) (C:x.right.sz<=1000000) (F:y.left.sz<=1000000) (A:y.right.sz<=1000000):Tri prog 58 #[Ax.val x,Ax.val y] [] [Ax.memF x,Ax.memF y] (λ_:Unit=>i4_ (Ax.cmp x y)) (λ_=>[]) (λ_=>[]):=by
 refine j_ func58 rfl rfl ntmps58 rfl λI=>?_;refine Zz 2 ?_;refine L_ rfl rfl λK=>L_ rfl rfl λJ=>Zz 5 ?_
 refine G_ 7 [0,2,5,6,7,8] zk zs (Zz 7 ?_);refine m_ 1 rfl zk (f_ (sB_ x e E C) rfl i_ zf rfl λ_=>Zz 3 ?_);refine m_ 3 rfl zk (f_ (sB_ y d F A) rfl i_ zf rfl λ_=>Zz 3 ?_);refine m_ 4 rfl zk (f_ (fg_ (Ax.wgt x) (Ax.wgt y)) rfl i_ zt rfl λ_=>Zz 3 ?_);refine m_ 9 rfl zk (f_ (fg_ x.kind y.kind) rfl i_ zt rfl λ_=>Zz 3 ?_);refine m_ 10 rfl zk (B_ as_ R_ bJ_ rfl rfl rfl rfl rfl rfl λH=>?_);refine U_ (List.flatMap dl_ [(Lib.compareInt (Ax.wgt x) (Ax.wgt y)),(Lib.compareInt x.kind y.kind)]) e_ rfl ?_;refine Zz 3 ?_;refine m_ 11 rfl zk (f_ (wt_ [(Lib.compareInt (Ax.wgt x) (Ax.wgt y)),(Lib.compareInt x.kind y.kind)] (some ⟨H,0,none⟩) 2 zai_) rfl i_ zf rfl λ_=>Zz 3 ?_);refine G_ 0 [12] zk zs (Zi 8 (λG=>?_) λG=>?_)
 .refine Zi 9 (λB=>?_) λB=>?_
  .refine Zi 9 (λk=>?_) λk=>?_
   .exact iQ_
   refine Zz 10 ?_;exact hh_
  exact mS_
 refine Zz 8 ?_;refine f_ (eE_ x.left y.left E F) rfl i_ (λv _ h=>by exact⟨h.2.1.1,h.2.2.1.1,trivial⟩) rfl λ_=>Zi 7 (λB=>?_) λB=>?_
 .refine Zi 9 (λk=>?_) λk=>?_
  .exact iQ_
  refine Zz 10 ?_;exact hh_
 exact mS_
theorem kU_ {a b:Str} (h:str a=str b):a=b:=by
  have d:=yae_ (λz:ByteArray=>z.data.toList) (Value.string.inj h);omega
def uy_ (P:Program) (gf:FuncId) (caps:List Value) (Hc:Hp) (Rc:List Str->Prop):Prop:=∀ {σ:Type} (l:Nat) (Gj:σ->Hp) (lst:σ->List Str),(∀ s x,(lst s).length<100000000->kG_ P l (str x) (Gj s) [] (λ_:{s':σ // lst s'=lst s++[x]}=>.bool true) (λs'=>Gj s'.1) (λ_=>[]))->∀ s0,lst s0=[]->
  Tri P gf (.func (.yield l) #[] #[]::caps).toArray (Hc++Gj s0) [] (λ_:{s':σ // Rc (lst s')}=>.tuple #[]) (λs'=>Hc++Gj s'.1) (λ_=>[])
theorem Cr_ {C Q:Hp} {c d e:Nat×Obj}:(C++(c::Q)++[d,e]).Perm (e::(C++(c::(Q++[d])))):=by
  have h:C++(c::Q)++[d,e]=(C++(c::(Q++[d])))++[e]:=by simp
  grind[List.perm_append_comm]
theorem pf_D10 {C Q:Hp} {c d:Nat×Obj}:(C++(c::(Q++[d]))).Perm ((C++Q)++[c,d]):=by
  have e:(C++Q)++[c,d]=C++((Q++[c])++[d]):=by simp
  grind[List.Perm.append_left,List.perm_append_comm]
theorem xr_ {L q:List Str} (h:L.Perm q) (k:q.Nodup):cg_ L=cg_ q:=by
  have strict:∀ l:List Str,l.Nodup->SrS (cg_ l):=λl hl=>by
    have e:=kW_ l;have d:(cg_ l).Nodup:=(ycp_ _ _).nodup_iff.2 hl;unfold List.Nodup at d;refine ycu_ (fun {a b} hab=>?_) (e.and d)
    grind
  grind[wi_,List.mem_mergeSort]
theorem Aw_ {σ:Type} {l:Nat} {H:σ->Hp} {lst:σ->List Str} (T:∀ s x,(lst s).length<100000000->kG_ prog l (str x) (H s) [] (λ_:{v:σ // lst v=lst s++[x]}=>.bool true) (λv=>H v.1) (λ_=>[])) (N:σ) (M:lst N=[]) (B F c:Nat) (es:Array MapEntry) (q:List Str) (hE:KeyE str es q) (hB:Born es c) (X:q.length<=100000000):Tri prog 193 #[.func (.yield l) #[] #[],zp_ F 0] ((F,.cells #[.map (some B)] 151 (0,0))::(B,.map es c)::H N) [] (λ_:{v:σ // (lst v).Perm q}=>.tuple #[]) (λv=>(F,.cells #[.map (some B)] 151 (0,0))::(B,.map es c)::H v.1) (λ_=>[]):=by
 refine j_ func193 rfl rfl ntmps193 rfl λU=>?_;refine Zz 3 ?_;refine qG_ 1 underlying151 rfl rfl rfl λJ=>Zz 3 ?_
 refine J_ (ι:={y:List Str×Array Nat×Nat×σ // ItS str es y.2.1 y.1/\c<=y.2.2.1/\lst y.2.2.2=y.1/\(∀ z∈y.1,z∈q)}) (λy=>[(0,.func (.yield l) #[] #[]),(1,zp_ F 0),(5,zp_ J 0)]) (λy=>((J,.mapIter (some B) c y.1.2.1 y.1.2.2.1)::((F,.cells #[.map (some B)] 151 (0,0))::((B,.map es c)::(H y.1.2.2.2))))) (λy=>[]) (λy=>q.length - y.1.1.length) ⟨([],#[],c,N),ItS.nil,yad_ _,M,by simp⟩ zl zp zt ?_;rintro ⟨⟨done,E,V,s⟩,O,I,C,h⟩;dsimp only at O I C h ⊢;refine Zz 2 ?_;refine tt_ 0 2 rfl rfl rfl hB.lt I rfl (λQ=>?_) (λe W=>?_)
 .refine Zz 7 ?_
  exact cj_ results193 ⟨s,by rw[C];exact O.endK (λ_ _=>kU_) hE Q⟩ rfl zp zt
 obtain⟨k,G,S,P,L,A⟩:=O.stepK (λ_ _=>kU_) hE hB W;refine Zz 10 ?_;refine d_ (ai_ (qi_ 0 2 rfl rfl rfl L hB) (show _=Value.tuple #[str k,e.val] by rw[P])) rfl (Zz 5 ?_);refine hF_ (ι:={v:σ // lst v=lst s++[k]}) (λ_=>[(0,.func (.yield l) #[] #[]),(1,zp_ F 0),(5,zp_ J 0),(13,.bool false)]) (λz=>((J,.mapIter (some B) c (E.push e.born) c)::((F,.cells #[.map (some B)] 151 (0,0))::((B,.map es c)::(H z.1))))) (λ_=>[]) ?_ ?_
 .refine bs_ ?_
  refine aO_ aP_ (ab_ rfl) rfl rfl ?_;refine aO_ aP_ (ab_ rfl) rfl rfl ?_;refine gO_ (T s k zaE_) rfl rfl (c_ (c_ E_)) zt rfl λz=>?_;refine aO_ aP_ (aK_ rfl) rfl rfl ?_;refine cp_ ?_;refine dx_ rfl ?_;exact dY_ z zl zp zh
 rintro ⟨v,K⟩;dsimp only;refine Zz 4 ?_;exact w_ ⟨(done++[k],E.push e.born,c,v),A,yad_ _,by rw[K,C],λz d=>by rcases yai_.1 d with d|d;exact h z d;rw[yam_]at d;exact d▸G⟩ zaz_ zl (l_ e_ (l_ e_ (l_ e_ Z_))) zt
theorem wC_ (h e c:Nat) (es:Array MapEntry) (q:List Str) (hE:KeyE str es q) (hB:Born es c) (k:q.length<=100000000):uy_ prog 193 [zp_ e 0] [(e,.cells #[.map (some h)] 151 (0,0)),(h,.map es c)] (λL=>L.Perm q) :=
  λl x lst v m d=>Aw_ v m d h e c es q hE hB k
theorem wA_ (e:Nat):Tri prog 108 #[.map (some e)] [] [] (λd:Nat=>.func (.func 193) #[] #[zp_ d 0]) (λd=>[(d,.cells #[.map (some e)] 151 (0,0))]) (λ_=>[]):=by
  refine j_ func108 rfl rfl ntmps108 rfl λh=>?_;refine Zz 2 ?_;refine L_ rfl rfl λb1=>Zz 5 ?_
  refine d_ (bo_ rfl rfl) rfl (Zz 4 ?_);exact ac_ results108 b1 rfl (F:=[]) (.refl _) zt
theorem Av_ {σ:Type} {l:Nat} {H:σ->Hp} {lst:σ->List Str} (T:∀ s x,(lst s).length<100000000->kG_ prog l (str x) (H s) [] (λ_:{v:σ // lst v=lst s++[x]}=>.bool true) (λv=>H v.1) (λ_=>[])) (N:σ) (M:lst N=[]) (B F c:Nat) (es:Array MapEntry) (q:List Str) (hE:KeyE str es q) (hB:Born es c) (X:q.length<=100000000):Tri prog 284 #[.func (.yield l) #[] #[],zp_ F 0] ((F,.cells #[.map (some B)] 186 (0,0))::(B,.map es c)::H N) [] (λ_:{v:σ // (lst v).Perm q}=>.tuple #[]) (λv=>(F,.cells #[.map (some B)] 186 (0,0))::(B,.map es c)::H v.1) (λ_=>[]):=by
 refine j_ func284 rfl rfl ntmps284 rfl λU=>?_;refine Zz 3 ?_;refine qG_ 1 underlying186 rfl rfl rfl λJ=>Zz 3 ?_
 refine J_ (ι:={y:List Str×Array Nat×Nat×σ // ItS str es y.2.1 y.1/\c<=y.2.2.1/\lst y.2.2.2=y.1/\(∀ z∈y.1,z∈q)}) (λy=>[(0,.func (.yield l) #[] #[]),(1,zp_ F 0),(5,zp_ J 0)]) (λy=>((J,.mapIter (some B) c y.1.2.1 y.1.2.2.1)::((F,.cells #[.map (some B)] 186 (0,0))::((B,.map es c)::(H y.1.2.2.2))))) (λy=>[]) (λy=>q.length - y.1.1.length) ⟨([],#[],c,N),ItS.nil,yad_ _,M,by simp⟩ zl zp zt ?_;rintro ⟨⟨done,E,V,s⟩,O,I,C,h⟩;dsimp only at O I C h ⊢;refine Zz 2 ?_;refine tt_ 0 2 rfl rfl rfl hB.lt I rfl (λQ=>?_) (λe W=>?_)
 .refine Zz 7 ?_
  exact cj_ results284 ⟨s,by rw[C];exact O.endK (λ_ _=>kU_) hE Q⟩ rfl zp zt
 obtain⟨k,G,S,P,L,A⟩:=O.stepK (λ_ _=>kU_) hE hB W;refine Zz 10 ?_;refine d_ (ai_ (qi_ 0 2 rfl rfl rfl L hB) (show _=Value.tuple #[str k,e.val] by rw[P])) rfl (Zz 5 ?_);refine hF_ (ι:={v:σ // lst v=lst s++[k]}) (λ_=>[(0,.func (.yield l) #[] #[]),(1,zp_ F 0),(5,zp_ J 0),(13,.bool false)]) (λz=>((J,.mapIter (some B) c (E.push e.born) c)::((F,.cells #[.map (some B)] 186 (0,0))::((B,.map es c)::(H z.1))))) (λ_=>[]) ?_ ?_
 .refine bs_ ?_
  refine aO_ aP_ (ab_ rfl) rfl rfl ?_;refine aO_ aP_ (ab_ rfl) rfl rfl ?_;refine gO_ (T s k zaE_) rfl rfl (c_ (c_ E_)) zt rfl λz=>?_;refine aO_ aP_ (aK_ rfl) rfl rfl ?_;refine cp_ ?_;refine dx_ rfl ?_;exact dY_ z zl zp zh
 rintro ⟨v,K⟩;dsimp only;refine Zz 4 ?_;exact w_ ⟨(done++[k],E.push e.born,c,v),A,yad_ _,by rw[K,C],λz d=>by rcases yai_.1 d with d|d;exact h z d;rw[yam_]at d;exact d▸G⟩ zaz_ zl (l_ e_ (l_ e_ (l_ e_ Z_))) zt
theorem CI_ (h e c:Nat) (es:Array MapEntry) (q:List Str) (hE:KeyE str es q) (hB:Born es c) (k:q.length<=100000000):uy_ prog 284 [zp_ e 0] [(e,.cells #[.map (some h)] 186 (0,0)),(h,.map es c)] (λL=>L.Perm q) :=
  λl x lst v m d=>Av_ v m d h e c es q hE hB k
theorem CB_ (e:Nat):Tri prog 210 #[.map (some e)] [] [] (λd:Nat=>.func (.func 284) #[] #[zp_ d 0]) (λd=>[(d,.cells #[.map (some e)] 186 (0,0))]) (λ_=>[]):=by
  refine j_ func210 rfl rfl ntmps210 rfl λh=>?_;refine Zz 2 ?_;refine L_ rfl rfl λb1=>Zz 5 ?_
  refine d_ (bo_ rfl rfl) rfl (Zz 4 ?_);exact ac_ results210 b1 rfl (F:=[]) (.refl _) zt
theorem zW_ {C Q G:Hp} {c:Nat×Obj}:(C++(c::Q)++G).Perm (c::(C++(Q++G))):=by
  have d:C++(c::Q)++G=C++([c]++(Q++G)):=by simp
  grind[List.perm_append_comm]
theorem yR_ (S:FuncId) (caps:List Value) (Hc:Hp) (Rc:List Str->Prop) (Q:uy_ prog S caps Hc Rc):Tri prog 274 #[.slice none 0 0,.func (.func S) #[] caps.toArray] Hc [] (λy:{y:Value×Hp×List Str // at_ 9 1 y.1 y.2.2.length (y.2.2.flatMap aa_) y.2.1/\Rc y.2.2}=>y.1.1) (λy=>Hc++y.1.2.1) (λ_=>[]):=by
 refine eX_ func274 rfl rfl ntmps274 rfl λE=>?_;refine Zz 2 ?_;refine L_ rfl rfl λd=>Zz 10 ?_
 refine bF_ [(2,zp_ d 0),(6,.func (.func S) #[] caps.toArray)] zl ?_;refine uO_ (σ:={y:Value×Hp×List Str // at_ 9 1 y.1 y.2.2.length (y.2.2.flatMap aa_) y.2.1}) (α:=Str) (xv:=λx=>str x) (good:=λs _=>s.1.2.2.length<100000000) (nx:=λx s M=>M.1.2.2=s.1.2.2++[x]) (Rc:=λs=>Rc s.1.2.2) (Γi:=[]) (Hj:=λy=>(d,.cells #[y.1.1] 25 (0,0))::y.1.2.1) (Hc:=Hc) (caps:=caps) ⟨(.slice none 0 0,[],[]),at_.nil _ _⟩ rfl (@List.perm_append_comm _ [_] _) zt ?_ ?_ ?_
 .rintro l D rec V O N Y I A ⟨⟨sv,k,L⟩,B⟩ x H
  dsimp only at B H ⊢;refine iS_ (ι:=Unit) (Hj:=λy:{y:Value×Hp×List Str // at_ 9 1 y.1 y.2.2.length (y.2.2.flatMap aa_) y.2.1}=>(d,.cells #[y.1.1] 25 (0,0))::y.1.2.1) (s:=⟨(sv,k,L),B⟩) (ok:=λM=>M.1.2.2=L++[x]) (Γ:=[]) (λ_=>[(2,zp_ d 0),(5,str x)]) (λ_=>(d,.cells #[sv] 25 (0,0))::k) V O N Y rfl ?_ ?_
  .intro n E P T
   rw[I];dsimp only;refine dH_.2 (u_ (H':=(d,.cells #[sv] 25 (0,0))::(k++T)) zai_ (dH_.1 ?_));refine bs_ ?_;refine aO_ (bI_ _) (ay_ rfl) rfl rfl ?_;refine cp_ ?_;refine dx_ rfl ?_;exact dY_ () zl (F:=[]) zaD_ zh
  intro n E P T _;rw[A];refine dH_.2 (u_ (H':=(d,.cells #[sv] 25 (0,0))::(k++T)) zai_ (dH_.1 ?_));refine gL_ ?_;refine bs_ ?_;refine aO_ (bI_ _) (bU_ 0 isAgg25 rfl rfl rfl) rfl rfl ?_;refine aO_ (bI_ _) (ab_ rfl) rfl rfl ?_;refine qK_ (bI_ _) n_ D_ V_ rfl rfl rfl rfl rfl rfl λX=>?_;refine nd_ (bI_ _) (news:=List.flatMap aa_ [x]) dj_ B rfl rfl zp rfl (bz_ 0 rfl) (λu hu=>aF_ cz_ hu) zal_ zaa_ rfl λC J K=>?_;have m:=zsa K;refine tx_ (S_ (g_ e_) (aW_ (g_ e_))) ?_;refine kc_ (bI_ _) 1 m dG_ rfl rfl rfl rfl ?_;refine cp_ ?_;refine dx_ rfl ?_;exact kr_ ⟨(C,J,(L++[x])),m⟩ rfl (uZ_ (l_ (c_ e_) (x_ (c_ s_) (x_ E_ e_))))
 .intro l Z hY
  exact Q l Z (λy=>y.1.2.2) (λs x h=>hY s x h) ⟨(.slice none 0 0,[],[]),at_.nil _ _⟩ rfl
 rintro ⟨⟨sv,k,L⟩,B⟩ W D l r;dsimp only at W B ⊢;refine lc_ (H':=(d,.cells #[sv] 25 (0,0))::(Hc++(k++HLp l D r))) (F:=[]) (by rw[yas_];exact zW_) zh ?_;refine da_ rfl ?_;refine fS_ ?_;refine bs_ ?_;refine aO_ aP_ (bU_ 0 isAgg25 rfl rfl rfl) rfl rfl ?_;refine aO_ aP_ (ay_ rfl) rfl rfl ?_;refine cp_ ?_;refine da_ rfl ?_;refine hG_ ?_;exact tc_ (G:=Hc++((d,.cells #[sv] 25 (0,0))::(k++[(l,.loop r)]))) ⟨(sv,k,L),B,W⟩ (λa v U h_2=>by have e:=U.val 4 sv rfl;simp[results,results274,e]) (zW_.symm.trans (by unfold HLp;exact Cr_)) ⟨_,pf_D10⟩ rfl
theorem vI_ (v:FuncId) (caps:List Value) (Hc:Hp) (Rc:List Str->Prop) (x:uy_ prog v caps Hc Rc):Tri prog 192 #[.func (.func v) #[] caps.toArray] Hc [] (λy:{y:Value×Hp×List Str // at_ 9 1 y.1 y.2.2.length (y.2.2.flatMap aa_) y.2.1/\Rc y.2.2}=>y.1.1) (λy=>Hc++y.1.2.1) (λ_=>[]):=by
  refine j_ func192 rfl rfl ntmps192 rfl λA=>?_;refine Zz 8 ?_;refine f_ (yR_ v caps Hc Rc x) rfl Z_ zt rfl λ⟨⟨k,h,m⟩,e,d⟩=>?_;dsimp only;dsimp only at e d ⊢;simp only[yap_,yas_];refine Zz 4 ?_;exact ac_ results192 ⟨(k,h,m),e,d⟩ rfl zp zt
theorem lJ_ (I:FuncId) (caps:List Value) (Hc:Hp) (q:List Str) (H:q.Nodup) (N:q.length<=100000000) (J:uy_ prog I caps Hc (λL=>L.Perm q)):Tri prog 107 #[.func (.func I) #[] caps.toArray] Hc [] (λy:{y:Ao×Nat // (cg_ q).length<=y.2/\y.2<=maxLen/\(y.1=none->y.2=0)}=>.slice y.1.1 (cg_ q).length y.1.2) (λ_=>Hc) (λy=>[X_ y.1.1 ((cg_ q).flatMap aa_)]):=by
  refine j_ func107 rfl rfl ntmps107 rfl λM=>?_;refine Zz 8 ?_;refine f_ (vI_ I caps Hc (λL=>L.Perm q) J) rfl Z_ zt rfl λ⟨⟨B,K,x⟩,m,d⟩=>?_;dsimp only;dsimp only at m d ⊢;simp only[yap_,yas_];refine Zz 6 ?_;refine f_ (rw_ m (by have:=d.length_eq;omega)) rfl aJ_ zt rfl λ⟨F,E⟩=>?_;dsimp only;have G:at_ 9 1 B (cg_ q).length (List.flatMap aa_ (cg_ q)) F:=by rw[<-xr_ d H,show (cg_ x).length=x.length from yaX_ _];exact E
  refine Zz 9 ?_;refine bQ_ G s_ λA C v e k h=>?_;exact ac_ results107 ⟨(A,C),e,k,h⟩ (ec_ rfl v) Z_ zf
theorem strt99:gr_ prog 99 [(0,16)] [i4_ 0,.bool false,i4_ 0,str [],i4_ 0,i4_ 0,.slice none 0 0,i4_ 0,str [],i4_ 0,i4_ 0,.slice none 0 0,.slice none 0 0,str [],str [],str []]:=⟨_,zeroValue99,runUnderlying99,λw=>by simp[I_]⟩
def pln (x:Ax):Prop:=x.kind=1/\x.left.kind=3/\x.right.kind=3
theorem yM_ {x:Ax} (d:x.ok) (e:x.check=0):Tri prog 53 #[x.val] [] [x.memF,bE_] (λ_:Unit=>i4_ 0) (λ_=>[]) (λ_=>[]):=by
  have h:=go_ x d;rw[e]at h;exact h
theorem Du_ (x y:Ax) (v:x.ok) (d:y.ok) (h:x.left.sz<=1000000) (k:x.right.sz<=1000000) (m:y.left.sz<=1000000) (e:y.right.sz<=1000000):Tri prog 65 #[.agg #[i4_ x.kind,.bool x.opn,i4_ x.left.kind,str x.left.name,i4_ x.left.lo,i4_ x.left.hi,.slice x.left.ad x.left.parts.length x.left.cap,i4_ x.right.kind,str x.right.name,i4_ x.right.lo,i4_ x.right.hi,.slice x.right.ad x.right.parts.length x.right.cap,.slice x.ad x.roles.length x.cap,str x.role,str x.a,str x.b],Ax.val y] [] [Ax.memF x,Ax.memF y] (λ_:Unit=>.bool (Ax.cmp x y==0)) (λ_=>[]) (λ_=>[]):=by
  refine j_ func65 rfl rfl ntmps65 rfl λC=>?_;refine Zz 2 ?_;refine L_ rfl rfl λb1=>L_ rfl rfl λb2=>Zz 8 ?_
  refine f_ (wT_ x y v d h k m e) rfl i_ zf rfl λ_=>F_ (aV_ rfl rfl) rfl λB A=>Zz 4 ?_
  exact ac_ results65 () (z_ rfl (by rw[<-A])) i_ zt
theorem CU_ (x y:Ax) (B:x.ok) (e:y.ok) (k:x.left.sz<=1000000) (v:x.right.sz<=1000000) (A:y.left.sz<=1000000) (h:y.right.sz<=1000000):Tri prog 57 #[.agg #[i4_ x.kind,.bool x.opn,i4_ x.left.kind,str x.left.name,i4_ x.left.lo,i4_ x.left.hi,.slice x.left.ad x.left.parts.length x.left.cap,i4_ x.right.kind,str x.right.name,i4_ x.right.lo,i4_ x.right.hi,.slice x.right.ad x.right.parts.length x.right.cap,.slice x.ad x.roles.length x.cap,str x.role,str x.a,str x.b],Ax.val y] [] [Ax.memF x,Ax.memF y] (λ_:Unit=>.bool ((x.opn==y.opn)&&(Ax.cmp x y==0))) (λ_=>[]) (λ_=>[]):=by
 refine j_ func57 rfl rfl ntmps57 rfl λE=>?_;refine Zz 2 ?_;refine L_ rfl rfl λG=>L_ rfl rfl λH=>Zz 10 ?_
 refine F_ (om_ sF_ rfl rfl) rfl λC d=>Zz 1 ?_
 cases C
 .refine Zz 8 ?_
  exact ac_ results57 () (z_ rfl zaH_) i_ zt
 refine Zz 5 ?_;refine aq_ (Du_ x y B e k v A h) rfl i_ zf rfl λF m=>Zz 5 ?_
 exact ac_ results57 () (z_ rfl (by rw[<-m];simp[d])) i_ zt
def wk_ (x:Ax):Bool:=(x.kind==5)||(x.kind==6)||(x.kind==7)
theorem iR_ {G:Prop} (h:G:=by
 exact ac_ results59 () (z_ rfl (by unfold wk_;simp_all)) i_ zt):G:=h
theorem vQ_ (x:Ax):Fn0 prog 59 #[Ax.val x] (.bool (wk_ x)):=by
 refine j_ func59 rfl rfl ntmps59 rfl λk=>?_;refine Zz 2 ?_;refine L_ rfl rfl λm=>Zi 7 (λd=>?_) λd=>?_
 .refine Zi 6 (λe=>?_) λe=>?_
  .refine Zz 7 ?_
   refine F_ (aV_ rfl rfl) rfl λv h=>Zz 5 ?_
   exact iR_
  refine Zz 10 ?_;exact iR_
 refine Zz 14 ?_;exact iR_
end Go.Proofs.YtbffkokbdeppaaaGreatDoor
