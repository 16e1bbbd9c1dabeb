/-
  Lemmas for the law TopChanges (no condition).
-/
import Derived.Test.YtfjcabalehamcaaGreatDoorQTopChanges11
import Derived.Lib.Bytealg
import Derived.Lib.Small
set_option linter.unusedVariables false
set_option linter.unusedSimpArgs false
set_option linter.unusedSectionVars false
set_option maxHeartbeats 1000000
namespace Go.Vs
open Go Go.Sx
def orF:List Int->Int
  | []=>0
  | x::l=>if x=0 then orF l else x
theorem xb_:∀ {l:List Int} {i:Nat} {x:Int},(∀ y∈l.take i,y=0)->l[i]? = some x->x≠0->orF l=x
  | [],_,_,_,h,_=>by simp at h
  | y::l,0,x,_,h,hx=>by simp at h;subst h;simp[orF,hx]
  | y::l,i+1,x,h0,h,hx=>by
    have d:y=0:=h0 y zai_;rw[orF,yaq_ d];exact xb_ (i:=i) (λz m=>h0 z (by rw[ybd_];exact yaA_ _ m)) zaQ_ hx
theorem rg_:∀ {l:List Int},(∀ y∈l,y=0)->orF l=0
  | [],_=>rfl
  | y::l,h=>by rw[orF,yaq_ (h y zai_)];exact rg_ λz d=>h z zaK_
theorem cI_neg (x y:Int):Lib.compareInt x y<0↔x<y:=by unfold Lib.compareInt;(repeat' split)<;>omega
theorem qe_ (x y:Int):Lib.compareInt x y=0↔x=y:=by unfold Lib.compareInt;(repeat' split)<;>omega
theorem yn_:∀ (x y:Str),Lib.compareBytes x y<0↔x<y
 | [],[]=>by simp[Lib.compareBytes]
 | [],b::y=>by simp[Lib.compareBytes]
 | a::x,[]=>by simp[Lib.compareBytes]
 | a::x,b::y=>by
   rw[Lib.compareBytes,ycp_]
   by_cases d:a<b
   . rw[yaq_ d];simp[d]
   . by_cases m:b<a
     . rw[yaf_ d,yaq_ m]
       have:a≠b:=λe=>by subst e;exact d m
       simp[d,this]
     . have e:a=b:=UInt8.le_antisymm (UInt8.not_lt.1 m) (UInt8.not_lt.1 d)
       rw[yaf_ d,yaf_ m,yn_ x y];simp[e]
theorem kw_:∀ (x y:Str),Lib.compareBytes x y=0↔x=y
 | [],[]=>by simp[Lib.compareBytes]
 | [],b::y=>by simp[Lib.compareBytes]
 | a::x,[]=>by simp[Lib.compareBytes]
 | a::x,b::y=>by
   rw[Lib.compareBytes]
   by_cases d:a<b
   . rw[yaq_ d]
     have:a≠b:=λe=>by subst e;exact absurd d (UInt8.lt_irrefl a)
     simp[this]
   . by_cases m:b<a
     . rw[yaf_ d,yaq_ m]
       have:a≠b:=λe=>by subst e;exact d m
       simp[this]
     . have e:a=b:=UInt8.le_antisymm (UInt8.not_lt.1 m) (UInt8.not_lt.1 d)
       rw[yaf_ d,yaf_ m,kw_ x y];simp[e]
theorem iM_ (x:Int) (l:List Int):orF (x::l)<0↔x<0\/x=0/\orF l<0:=by
  rw[orF];split<;>omega
theorem je_ (x:Int) (l:List Int):orF (x::l)=0↔x=0/\orF l=0:=by
  rw[orF];split<;>omega
theorem tV_:orF []=0:=rfl
theorem iY_ (x y:Int):Lib.compareInt y x=- Lib.compareInt x y:=by unfold Lib.compareInt;(repeat' split)<;>omega
theorem iX_:∀ (x y:Str),Lib.compareBytes y x=- Lib.compareBytes x y
 | [],[]=>by simp[Lib.compareBytes]
 | [],b::y=>by simp[Lib.compareBytes]
 | a::x,[]=>by simp[Lib.compareBytes]
 | a::x,b::y=>by
   rw[Lib.compareBytes,Lib.compareBytes]
   by_cases d:a<b
   . have m:¬ b<a:=λh=>absurd (UInt8.lt_trans d h) (UInt8.lt_irrefl a)
     rw[yaf_ m,yaq_ d,yaq_ d];rfl
   . by_cases m:b<a
     . rw[yaq_ m,yaf_ d,yaq_ m]
     . rw[yaf_ m,yaf_ d,yaf_ d,yaf_ m,iX_ x y]
theorem qd_:∀ (x y:Str),Lib.compareBytes x y=if x<y then -1 else if y<x then 1 else 0
 | [],[]=>by simp[Lib.compareBytes]
 | [],b::y=>by simp[Lib.compareBytes]
 | a::x,[]=>by simp[Lib.compareBytes]
 | a::x,b::y=>by
   rw[Lib.compareBytes]
   by_cases d:a<b
   . have l:a::x<b::y:=by rw[ycp_];exact .inl d
     rw[yaq_ d,yaq_ l]
   . by_cases m:b<a
     . have l:b::y<a::x:=by rw[ycp_];exact .inl m
       have v:¬ a::x<b::y:=λq=>absurd (ycq_ q l) (ycA_ _)
       rw[yaf_ d,yaq_ m,yaf_ v,yaq_ l]
     . have e:a=b:=UInt8.le_antisymm (UInt8.not_lt.1 m) (UInt8.not_lt.1 d)
       subst e;rw[yaf_ d,yaf_ m,qd_ x y];simp only[ycp_,d,false_or,ydt_]
theorem cR_ {x y:Int} {l m:List Int} (h:y=-x) (d:orF m=- orF l):orF (y::m)=- orF (x::l):=by
  rw[orF,orF];(repeat' split)<;>omega
def fx_:List Str->List Str->Int
  | [],[]=>0
  | [],_::_=>-1
  | _::_,[]=>1
  | x::xs,y::ys=>if Lib.compareBytes x y=0 then fx_ xs ys else Lib.compareBytes x y
theorem pa_:∀ a b,fx_ b a=- fx_ a b
  | [],[]=>rfl
  | [],_::_=>rfl
  | _::_,[]=>rfl
  | x::xs,y::ys=>by
    have d:=iX_ x y;have m:=pa_ xs ys;rw[fx_,fx_];(repeat' split)<;>omega
theorem oZ_:∀ a b,fx_ a b=0↔a=b
  | [],[]=>by simp[fx_]
  | [],_::_=>by simp[fx_]
  | _::_,[]=>by simp[fx_]
  | x::xs,y::ys=>by
    rw[fx_,ybt_,<-kw_,<-oZ_ xs ys]
    split<;>simp_all
namespace Con
def core:Con->Con
  | mk k n l h _ _ ps=>mk k n l h none 0 (cores ps)
where cores:List Con->List Con
  | []=>[]
  | p::ps=>core p::cores ps
theorem cores_map:∀ ps:List Con,core.cores ps=ps.map core
  | []=>rfl
  | p::ps=>by rw[core.cores,cores_map ps];rfl
theorem core_eq (c:Con):c.core=mk c.kind c.name c.lo c.hi none 0 (c.parts.map core):=by cases c;simp only[core,cores_map,kind,name,lo,hi,parts]
def cmp:Con->Con->Int
  | mk k n l h _ _ ps,d=>orF [Lib.compareInt ((1+sz.szs ps:Nat):Int) (d.sz:Int),Lib.compareInt k d.kind,Lib.compareBytes n d.name,Lib.compareInt l d.lo,Lib.compareInt h d.hi,cmps ps d.parts]
where cmps:List Con->List Con->Int
  | [],[]=>0
  | [],_::_=>-1
  | _::_,[]=>1
  | p::ps,q::qs=>if cmp p q=0 then cmps ps qs else cmp p q
theorem cmp_eq (c d:Con):cmp c d=orF [Lib.compareInt (c.sz:Int) (d.sz:Int),Lib.compareInt c.kind d.kind,Lib.compareBytes c.name d.name,Lib.compareInt c.lo d.lo,Lib.compareInt c.hi d.hi,cmp.cmps c.parts d.parts]:=by cases c;rfl
mutual
theorem cmp_anti:∀ c d:Con,cmp d c=- cmp c d
  | mk k n l h a cp ps,mk k' n' l' h' a' cp' ps'=>by
    rw[cmp,cmp];exact cR_ (iY_ _ _) (cR_ (iY_ _ _) (cR_ (iX_ _ _) (cR_ (iY_ _ _) (cR_ (iY_ _ _) (cR_ (oX_ ps ps') rfl)))))
theorem oX_:∀ ps m:List Con,cmp.cmps m ps=- cmp.cmps ps m
  | [],[]=>rfl
  | [],_::_=>rfl
  | _::_,[]=>rfl
  | p::ps,q::m=>by
    have v:=cmp_anti p q;have x:=oX_ ps m;rw[cmp.cmps,cmp.cmps];(repeat' split)<;>omega
end
mutual
theorem cmp_zero:∀ a b:Con,cmp a b=0↔a.core=b.core
  | mk k n l h a cp ps,mk k' n' l' h' a' cp' ps'=>by
    rw[cmp,core,core];simp only[je_,tV_];simp only[qe_,kw_,oW_ ps ps',ydF_,mk.injEq,kind,name,lo,hi,parts,ydt_];constructor
    . rintro ⟨_,m,B,v,A,d⟩;exact⟨m,B,v,A,d⟩
    . rintro ⟨m,B,v,A,d⟩
      refine⟨?_,m,B,v,A,d⟩;have:=szs_core ps ps' d;simp only[sz];omega
theorem oW_:∀ a b:List Con,cmp.cmps a b=0↔core.cores a=core.cores b
  | [],[]=>by simp[cmp.cmps]
  | [],_::_=>by simp[cmp.cmps,core.cores]
  | _::_,[]=>by simp[cmp.cmps,core.cores]
  | x::xs,y::ys=>by
    rw[cmp.cmps,core.cores,core.cores,ybt_,<-cmp_zero x y,<-oW_ xs ys]
    split<;>simp_all
theorem sz_core:∀ a b:Con,a.core=b.core->a.sz=b.sz
  | mk k n l h a cp ps,mk k' n' l' h' a' cp' ps'=>by
    rw[core,core,mk.injEq];rintro ⟨_,_,_,_,_,_,d⟩;have:=szs_core ps ps' d;simp only[sz];omega
theorem szs_core:∀ a b:List Con,core.cores a=core.cores b->sz.szs a=sz.szs b
  | [],[]=>λ_=>rfl
  | [],_::_=>by simp[core.cores]
  | _::_,[]=>by simp[core.cores]
  | x::xs,y::ys=>by
    rw[core.cores,core.cores,ybt_];rintro ⟨C,m⟩;have:=sz_core x y C;have:=szs_core xs ys m;simp only[sz.szs];omega
end
end Con
def Ax.wgt (x:Ax):Int:=(if x.left.kind=0 then 0 else (x.left.sz:Int))+(if x.right.kind=0 then 0 else (x.right.sz:Int))+(x.roles.length:Int)+(if x.role=[] then 0 else 1)+(if x.a=[] then 0 else 1)+(if x.b=[] then 0 else 1)
def Ax.cmp (x y:Ax):Int:=orF [Lib.compareInt x.wgt y.wgt,Lib.compareInt x.kind y.kind,Con.cmp x.left y.left,Con.cmp x.right y.right,fx_ x.roles y.roles,Lib.compareBytes x.role y.role,Lib.compareBytes x.a y.a,Lib.compareBytes x.b y.b]
theorem Ax.cmp_anti (x y:Ax):cmp y x=- cmp x y :=
  cR_ (iY_ _ _) (cR_ (iY_ _ _) (cR_ (Con.cmp_anti _ _) (cR_ (Con.cmp_anti _ _) (cR_ (pa_ _ _) (cR_ (iX_ _ _) (cR_ (iX_ _ _) (cR_ (iX_ _ _) rfl)))))))
def Ax.alk (x y:Ax):Prop:=x.kind=y.kind/\x.left.core=y.left.core/\x.right.core=y.right.core/\x.roles=y.roles/\x.role=y.role/\x.a=y.a/\x.b=y.b
theorem Con.core_kind {a b:Con} (h:a.core=b.core):a.kind=b.kind:=by
  rw[Con.core_eq,Con.core_eq,Con.mk.injEq]at h;exact h.1
theorem Ax.cmp_zero (x y:Ax):cmp x y=0↔x.alk y:=by
 unfold cmp alk;simp only[je_,tV_];simp only[qe_,kw_,Con.cmp_zero,oZ_,ydF_];constructor
 .rintro ⟨_,h⟩;exact h
 rintro ⟨E,d,m,A,C,v,B⟩;refine⟨?_,E,d,m,A,C,v,B⟩;unfold wgt;rw[Con.core_kind d,Con.core_kind m,Con.sz_core _ _ d,Con.sz_core _ _ m,A,C,v,B]
theorem Ax.cmp_self (x:Ax):cmp x x=0:=(cmp_zero x x).2 ⟨rfl,rfl,rfl,rfl,rfl,rfl,rfl⟩
end Go.Vs
namespace Go.Proofs.YtfjcabalehamcaaGreatDoor
open Go Go.Sx Go.Proofs Tryz
attribute [local irreducible] Code.wp wpList wpAnyH
open Go.Vs
instance:Inhabited Fc:=⟨⟨0,[],[],[],0,0⟩⟩
theorem eD_ (x y:Int):Fn0 prog 84 #[i4_ x,i4_ y] (i4_ (Lib.compareInt x y)) :=
  dl_ (callable func84 rfl rfl) λv _ _=>(Tryz.cmp_Compare_int x y v.w).mono zao_
theorem gf_ (x y:Str):Fn0 prog 85 #[str x,str y] (i4_ (Lib.compareBytes x y)) :=
  dl_ (callable func85 rfl rfl) λv _ _=>(Tryz.strings_Compare ⟨x.toArray⟩ ⟨y.toArray⟩ v.w).mono zao_
def md_ (x y:Fc):Int:=orF [Lib.compareInt x.kind y.kind,Lib.compareBytes x.a y.a,Lib.compareBytes x.b y.b,Lib.compareBytes x.r y.r,Lib.compareInt x.lo y.lo,Lib.compareInt x.hi y.hi]
theorem yh_ (x y:Fc):md_ x y<0↔x.lt y:=by
  unfold md_ Fc.lt;rw[iM_,iM_,iM_,iM_,iM_,iM_];simp only[cI_neg,qe_,yn_,kw_,orF,Int.lt_irrefl,and_false,ybG_]
theorem tW_ (l:List Int) (ad:Ao) (cap:Nat) (hl:l.length<=1000):Tri prog 83 #[.slice ad l.length cap] [] [L_ ad (l.flatMap aY_)] (λ_:Unit=>i4_ (orF l)) (λ_=>[]) (λ_=>[]):=by
 refine g_ func83 rfl rfl ntmps83 rfl λE=>?_;refine Zz 19 ?_;refine I_ (ι:={y:Nat // y<=l.length/\∀ z∈l.take y,z=0}) (λy=>[(3,i4_ 0),(6,.slice ad l.length cap),(7,i4_ (List.length l:Int)),(8,i4_ y.1)]) (λy=>([])) (λy=>[L_ ad (l.flatMap aY_)]) (λy=>l.length - y.1) ⟨(0:Nat),by simp,by simp⟩ zl i_ zh ?_;rintro ⟨i,hi,d⟩;dsimp only at hi d ⊢;refine Zi 2 (λA=>?_) λA=>?_
 .refine Zz 13 ?_
  exact ac_ results83 () (bd_ rfl (rg_ λy v=>d y (by rw[yad_ zaa_];exact v)).symm) i_ zt
 obtain⟨x,F,m,C⟩:=zge (show i<l.length by omega);refine Zi 19 (λB=>?_) λB=>?_
 .refine Zz 10 ?_
  exact C_ ⟨i+1,x,λy v=>by rw[yao_,m]at v;simp only[yaC_,yag_,yak_]at v;rcases v with v|rfl;exact d y v;omega⟩ zab_ zl i_ zh
 refine Zz 10 ?_;exact ac_ results83 () (bd_ rfl (xb_ d m zae_).symm) i_ zt
theorem cmpF_c (x y:Fc):Fn0 prog 35 #[Fc.val x,Fc.val y] (i4_ (md_ x y)):=by
  refine g_ func35 rfl rfl ntmps35 rfl λm=>?_;refine Zz 2 ?_;refine F_ rfl rfl λv=>F_ rfl rfl λA=>Zz 5 ?_
  refine s_ 9 [0,1,2,3,5,6,7,8,10,11,12,13,15,16,17,18,20,21,22,23,25,26,27,28] zk zs (Zz 25 ?_);refine l_ 4 rfl zk (f_ (eD_ x.kind y.kind) rfl i_ zt rfl λ_=>Zz 3 ?_);refine l_ 9 rfl zk (f_ (gf_ x.a y.a) rfl i_ zt rfl λ_=>Zz 3 ?_);refine l_ 14 rfl zk (f_ (gf_ x.b y.b) rfl i_ zt rfl λ_=>Zz 3 ?_);refine l_ 19 rfl zk (f_ (gf_ x.r y.r) rfl i_ zt rfl λ_=>Zz 3 ?_);refine l_ 24 rfl zk (f_ (eD_ x.lo y.lo) rfl i_ zt rfl λ_=>Zz 3 ?_);refine l_ 29 rfl zk (f_ (eD_ x.hi y.hi) rfl i_ zt rfl λ_=>Zz 3 ?_);refine l_ 30 rfl zk (M_ J_ K_ aN_ rfl rfl rfl rfl rfl rfl λd=>?_);refine aL_ (List.flatMap aY_ [(Lib.compareInt x.kind y.kind),(Lib.compareBytes x.a y.a),(Lib.compareBytes x.b y.b),(Lib.compareBytes x.r y.r),(Lib.compareInt x.lo y.lo),(Lib.compareInt x.hi y.hi)]) d_ rfl ?_;refine Zz 3 ?_;refine l_ 31 rfl zk (f_ (tW_ [(Lib.compareInt x.kind y.kind),(Lib.compareBytes x.a y.a),(Lib.compareBytes x.b y.b),(Lib.compareBytes x.r y.r),(Lib.compareInt x.lo y.lo),(Lib.compareInt x.hi y.hi)] (some ⟨d,0,none⟩) 6 zai_) rfl i_ zf rfl λ_=>Zz 3 ?_);refine s_ 0 [32] zk zs (Zz 5 ?_);exact ac_ results35 () (bd_ rfl (by rfl)) i_ zt
theorem dT {p:Prop} {i:Decidable p} (h:@decide p i=true):p:=ybf_ h
theorem dF {p:Prop} {i:Decidable p} (h:@decide p i=false):¬ p:=of_decide_eq_false h
structure Cl where
  atoms:List Str
  aad:Ao
  acap:Nat
  facts:List Fc
  fad:Ao
  fcap:Nat
def Cl.cells (c:Cl):List Value:=[.slice c.aad c.atoms.length c.acap,.slice c.fad c.facts.length c.fcap]
def Cl.val (c:Cl):Value:=.agg c.cells.toArray
def Cl.row (c:Cl):List Fct:=[L_ c.aad (c.atoms.flatMap ar_),L_ c.fad (c.facts.flatMap Fc.cells)]
def Cl.no:Cl:=Cl.mk [] none 0 [] none 0
structure Cl.ok (c:Cl):Prop where
  al:c.atoms.length<=c.acap
  am:c.acap<=maxLen
  az:c.aad=none->c.acap=0
  fl:c.facts.length<=c.fcap
  fm:c.fcap<=maxLen
  fz:c.fad=none->c.fcap=0
theorem Cl.no_ok:Cl.no.ok:=⟨yae_ _,by simp[Cl.no],λ_=>rfl,yae_ _,by simp[Cl.no],λ_=>rfl⟩
theorem zr_ {s:Str} (h:ck_ s=true):s≠[]:=λe=>by subst e;revert h;decide
theorem vf_ {s:Str} (h:aJ_ s=true):s≠[]:=λe=>by subst e;revert h;decide
theorem uC_ {p:Pc} (h:p.valid=true):p.vok:=by
 unfold Pc.valid at h
 split at h
 .simp at h
 rename_i d
 split at h
 .simp at h
 rename_i m
 split at h
 .simp at h
 have x:∀ {b:Bool} {s:Str},bT_ b s ck_=true->b=true->s≠[]:=λd m=>by
   subst m;simp[bT_]at d;exact zr_ d
 have y:∀ {b:Bool} {s:Str},bT_ b s aJ_=true->b=true->s≠[]:=λd m=>by
   subst m;simp[bT_]at d;exact vf_ d
 simp only[yaS_]at h;obtain⟨⟨⟨⟨⟨_,_⟩,_⟩,v⟩,B⟩,A⟩:=h;unfold Pc.rok at *;refine⟨⟨λq=>?_,λq=>?_,λq=>?_⟩,λq=>?_⟩
 .rcases q with q|q|q|q|q|q|q<;>rw[q]at v
  .exact x v zac_
  .exact x v zac_
  .exact x v zac_
  .exact y v zac_
  .exact x v zac_
  .exact x v zac_
  exact y v zac_
 .rw[q]at B A;exact⟨x B zac_,x A zac_⟩
 .rw[q]at A;exact x A zac_
 rcases q with q|q<;>rw[q]at m<;>have:(nus 8).numbers=true/\(nus 9).numbers=true:=by decide
 all_goals simp only[this.1,this.2,ydt_]at m;omega
theorem kv_ {p:List Pc} (h:bq_ p=0):p.length<=16384/\p.all Pc.valid=true:=by
 unfold bq_ at h
 split at h
 .simp at h
 split at h
 .exact⟨by omega,by assumption⟩
 simp at h
theorem pc_ {p:List Pc} (h:bq_ p=0):∀ x∈p,x.vok:=λx d=>uC_ (yaQ_.1 (kv_ h).2 x d)
section
variable {P:Program} {N:Nf} {v0:Vw} {H0:Hp} {fr:Fr} {H F Ha Hu Ho Hi Hr Hm Hs:Hp} {Γ:List Fct}
theorem dS_ {fn:Func} {t s b n:Nat} {ty T:TypeId} {us:List Value} {u:Value} (i:Nat) (x:fn.results=#[.cell t ty,.tmp s]) (I:∀ w,(isAgg ty).run P w=.ok true w) (B:∀ w,(sizeOf ty).run P w=.ok n w) (E:us.length=n) (C:Fr.get fr t=some (zp_ b 0)) (A:Fr.get fr s=some u)
    (hi:H[i]? = some (b,.cells us.toArray T (0,0))) (a:Act) (v:Vw) (d:Fr.sat N fr a) (m:v.sat H):(results fn a.tmps).run P v.w=.ok (.tuple #[.agg us.toArray,u]) v.w:=by
  have e:=d.val t _ C;have J:=d.val s _ A;have hl:=cy_ (t:=ty) (w:=v.w) (b:=b) (off:=0) I B E (λj y G=>by rw[yba_,fm_ m hi];simpa using G);simp[results,x,e,J,asAddr,hl]
theorem pf_six (h:H.Perm ((Ha++(Hu++(Ho++(Hi++(Hr++(Hm++Hs))))))++F)):H.Perm (((Ha++(Hu++(Ho++(Hi++(Hr++Hm)))))++Hs)++F):=by simpa [yap_] using h
theorem zA_:(((Ha++(Hu++(Ho++(Hi++(Hr++Hm)))))++Hs)++F).Perm (Ha++(Hu++(Ho++(Hi++(Hr++(Hm++(Hs++F))))))):=by simp[yap_]
theorem zB_ {a b c:Nat×Obj} {d:Hp}:((Ha++(Hu++(Ho++(Hi++(Hr++(Hm++(a::b::([c]++d))))))))++F).Perm (Ha++(Hu++(Ho++(Hi++(Hr++(Hm++(a::b::([c]++(d++F))))))))):=by simp[yap_]
end
theorem jp_:fH_ prog 37 [(0,1),(1,1)] [.slice none 0 0,.slice none 0 0]:=⟨_,gk_,runUnderlying37,λw=>by simp[ft_,pn_]⟩
end Go.Proofs.YtfjcabalehamcaaGreatDoor
namespace Go.Proofs.YtfjcabalehamcaaGreatDoor
open Go Go.Sx Go.Proofs Tryz
attribute [local irreducible] Code.wp wpList wpAnyH
open Go.Vs Go.Shelf Go.RowKit
theorem qr_ {v d:Vw} (h:v.to [] d []) (E:¬ v.sl):∃ q os,d.w=Sort.grow (v.w.drewN q) os:=by
 have B:v.w.drawn<=d.w.drawn:=h.dr.resolve_left E;refine⟨d.w.drawn - v.w.drawn,d.w.heap.extract v.w.heap.size d.w.heap.size,?_⟩
 have A:d.w.heap=v.w.heap++d.w.heap.extract v.w.heap.size d.w.heap.size:=by
   apply yco_
   intro i;have H:=h.size;rw[Array.getElem?_append]
   split
   . rename_i hi;exact h.block i hi zai_
   . rename_i hi
     rw[Array.getElem?_extract]
     split
     . congr 1;omega
     . rw[Array.getElem?_eq_none zaa_]
 have m:=h.os;have y:=h.tape;have x:=h.output;obtain⟨C,⟨I,K,J,F,L⟩,G⟩:=d;simp only at m y x A B;simp only[Sort.grow,World.drewN,World.mk.injEq];exact⟨A,y,by omega,m,x⟩
theorem At_ (d off size:Nat) (w:World):CmpLays prog 35 #[] Fc.cells 6 md_ d off size w:=λm os B _ x y=>by
  have h:=(cmpF_c x y).run ⟨λ_=>False,sortWorldK Fc.cells 6 w d off m B os,False⟩ ⟨by simp,by simp,λ_ h=>h.elim⟩ trivial;refine h.mono ?_;rintro e w' ⟨_,E,rfl,rfl,_,_,C⟩;obtain⟨q,v,A⟩:=qr_ C (λh=>h);exact⟨rfl,q,v,A⟩
theorem ltF (x y:Fc):ltOf md_ x y=decide (x.lt y):=by unfold ltOf;rw[ydc_];exact yh_ x y
theorem swoF:Sort.SWO (ltOf md_) where
 irrefl x:=by rw[ltF];exact ybi_ x.lt_irr
 trans x y z h1 h2:=by rw[ltF,ybo_]at *;exact Fc.lt_trans h1 h2
 ntrans x y z h1 h2:=by
   rw[ltF,ybB_]at *;intro h;rcases Fc.lt_tri x y with g|g|g
   . exact h1 g
   . subst g;exact h2 h
   . exact h2 (Fc.lt_trans g h)
theorem totF (x y:Fc) (d:ltOf md_ x y=false) (m:ltOf md_ y x=false):x=y:=by
 rw[ltF,ybB_]at d m;rcases Fc.lt_tri x y with g|g|g
 .exact absurd g d
 .exact g
 exact absurd g m
theorem nI_ (xs:List Fc):Sort.flatK Fc.cells 6 xs.toArray=(xs.flatMap Fc.cells).toArray:=by
 apply yco_
 intro t;have d:(xs.flatMap Fc.cells).toArray[t]? = (xs.flatMap Fc.cells)[t]? := by simp
 rw[d]
 by_cases v:t<xs.length*6
 .have m:t / 6<xs.length:=by omega
  have:=kW_ Fc.cells 6 Fc.cells_len xs (t / 6) (t%6) xs[t / 6] (yaa_ m) (Nat.mod_lt _ zac_);rw[show t / 6*6+t%6=t by omega]at this;rw[this];simp only[Sort.flatK,Array.getElem?_map,ybF_];rw[yct_ zaZ_];simp only[Array.getElem_range,yaX_];rw[getElem!_pos xs.toArray (t / 6) zaY_];have hl:t%6<(Fc.cells xs[t / 6]).length:=by rw[Fc.cells_len];omega
  rw[yaa_ hl];simp only[List.getElem_toArray];rw[getElem!_pos (Fc.cells xs[t / 6]) (t%6) hl]
 rw[ybu_ (by rw[cK_ Fc.cells 6 Fc.cells_len];omega),Array.getElem?_eq_none (by simp[Sort.flatK];omega)]
theorem qy_ {P:Program} {Γ:List Fct} {f:FuncId} {args:Array Value} {r:Value} {g:Nat} {cur:Array Value} {T:TypeId} {d:Array Value} (J:gj_ P f)
    (h:∀ v:Vw,v.sat [(g,.cells cur T (0,0))]->Calls P f args v.w λe w'=>e=.returned r/\∃ n os,w'=Sort.grow (Sort.putRow id (Sort.ahead v.w n) g 0 d) os) :
    Tri P f args [(g,.cells cur T (0,0))] Γ (λ_:Unit=>r) (λ_=>[(g,.cells (Sort.putCells id 0 d cur) T (0,0))]) (λ_=>[]) :=
  ⟨J,λv E _=>(h v E).mono λe w' ⟨I,n,os,x⟩=>by
    have C:=(E.own _ yau_);have B:g<v.w.heap.size:=(yaD_.1 C.1).1
    have A:∀ b,b<v.w.heap.size->w'.heap[b]? = if b=g then some (.cells (Sort.putCells id 0 d cur) T (0,0)) else v.w.heap[b]? := λb A=>by
      rw[x];simp only[Sort.grow,Sort.putRow,Sort.mapBlock,Sort.ahead];rw[ybH_ zba_,yby_]
      by_cases e:b=g
      . subst e
        simp only[yck_,C.1,yaX_,Sort.onCells]
      . rw[yaf_ (λq=>e q.symm),yaf_ e]
    have y:v.w.heap.size<=w'.heap.size:=by rw[x];simp[Sort.grow,Sort.putRow,Sort.mapBlock,Sort.ahead]
    refine⟨(),⟨v.im,w',v.sl⟩,I,rfl,⟨λp G=>?_,by simp,λb m=>ycs_ (E.lt b m) y⟩,trivial,⟨by rw[x];rfl,by rw[x];rfl,by rw[x];rfl,y,λb m H=>?_,λ_ h=>h,λ_ h=>.inl h,λb hm=>.inl (by simpa using hm),rfl,.inr (by rw[x];exact ydx_ _ _)⟩⟩
    . simp only[yak_]at G
      subst G;exact⟨by show w'.heap[g]? = _;rw[A g B,yaq_ rfl],C.2⟩
    . have F:b≠g:=by simpa using H
      show w'.heap[b]? = _
      rw[A b m,yaf_ F]⟩
theorem uT_ {cur:Array Value} {d:List Value} (v:d.length<=cur.size):(Sort.putCells id 0 d.toArray cur).toList.take d.length=d:=by
 apply ybx_
 intro j;rw[ybg_]
 split
 .rename_i m
  simp only[Sort.putCells,ybe_,Array.getElem?_mapIdx];rw[yct_ zaa_];simp only[yaX_,ycg_,ydt_,yba_,ybF_,m,yck_,ydj_];rw[yaa_ m,getElem!_pos d.toArray j zaY_];rfl
 rename_i m
 rw[ybu_ zaa_]
theorem uU_ {cur d:Array Value}:(Sort.putCells id 0 d cur).size=cur.size:=by simp[Sort.putCells]
theorem holdsV {g:Nat} {cur:Array Value} {T:TypeId} {xs:List Value} {v:Vw} (y:v.sat [(g,.cells cur T (0,0))]) (x:cur.toList.take xs.length=xs):Sort.Holds id v.w g 0 xs.toArray:=by
 intro j d;have m:=(y.own _ yau_).1;simp only[ybF_]at d
 have A:cur[j]? = some xs[j]:=by
   have:=yah_ (λl=>l[j]?) x;simp only[ybg_,d,yck_,ybe_]at this;rw[this,yaa_ d]
 refine⟨?_,?_⟩
 .simp only[World.cell?,yba_,m,ycS_,ybl_,yca_]
  rw[A,getElem!_pos xs.toArray j zbg_];rfl
 simp[World.frozen?,m]
def jq_ (xs:List Fc):List Fc:=xs.mergeSort λx y=>!(ltOf md_) y x
theorem gN_ (xs:List Fc):(jq_ xs).length=xs.length:=ybz_ _
theorem wr_ (xs:List Fc) (x:Fc):x∈jq_ xs↔x∈xs:=ycD_
theorem wq_ {xs:List Fc} (h:xs.Nodup):Srt (jq_ xs):=by
 have m:(jq_ xs).Pairwise λx y=>(!(ltOf md_) y x)=true:=List.pairwise_mergeSort
   (λa b c m d=>by simp only[ybV_]at *;exact swoF.ntrans c b a d m)
   (λa b=>by
     simp only[ybK_,ybV_];rw[ltF,ltF,ybB_,ybB_];rcases Fc.lt_tri a b with g|g|g
     . exact .inl λq=>Fc.lt_irr a (Fc.lt_trans g q)
     . subst g;exact .inl a.lt_irr
     . exact .inr λq=>Fc.lt_irr a (Fc.lt_trans q g)) xs
 have d:(jq_ xs).Nodup:=(List.mergeSort_perm xs _).nodup_iff.2 h;refine (m.and d).imp ?_;rintro x y ⟨a,b⟩;simp only[ybV_,ltF,ybB_]at a;rcases Fc.lt_tri x y with g|g|g
 .exact g
 .exact absurd g b
 exact absurd g a
theorem zg_ {sv:Value} {xs:List Fc} {Hr:Hp} (h:ad_ 87 6 sv xs.length (xs.flatMap Fc.cells) Hr) (hl:xs.length<=1000000000000) :
    Tri prog 34 #[sv,.func (.func 35) #[] #[]] Hr [] (λ_:{y:Hp // ad_ 87 6 sv (jq_ xs).length ((jq_ xs).flatMap Fc.cells) y}=>.tuple #[]) (λy=>y.1) (λ_=>[]):=by
  rcases h.2 with⟨rfl,L,rfl⟩|⟨g,cap,cur,rfl,rfl,I,K,F,M⟩
  . obtain rfl:xs=[]:=yaz_ L
    have T:=dl_ (P:=prog) (H:=[]) (Γ:=[]) (callable func34 rfl rfl) (λv _ _=>(AnyF.slices_SortFunc_none Tryz.sortFc none 0 (.func (.func 35) #[] #[]) v.w).mono zao_);exact⟨T.callable,λv a b=>(T.run v a b).mono (by rintro e w' ⟨x,G,m,A,C,B,E⟩;exact⟨⟨[],by simpa [jq_] using ad_.nil _ _⟩,G,m,A,C,B,E⟩)⟩
  . have R:(xs.flatMap Fc.cells).length=xs.length*6:=cK_ Fc.cells 6 Fc.cells_len xs
    have T:=qy_ (P:=prog) (Γ:=[]) (r:=.tuple #[]) (g:=g) (cur:=cur) (T:=87) (d:=((jq_ xs).flatMap Fc.cells).toArray) (f:=34) (args:=#[.slice (some ⟨g,0,none⟩) xs.length cap,.func (.func 35) #[] #[]]) (callable func34 rfl rfl) (λv N=>by
      have O:=AnyQ.slices_SortFunc_total Tryz.sortFc 6 cp_ N_ Fc.cells Fc.cells_len (λx u Q=>yaQ_.1 x.cells_one u Q) md_ swoF 35 #[] g 0 cap xs.toArray v.w (λargs w=>(callable func35 rfl rfl) args w) (At_ g 0 _ v.w) (by unfold Sort.HoldsK;rw[nI_];exact holdsV N (by rw[R];exact M)) (yaD_.1 (N.own _ yau_).1).1 zal_ totF;refine O.mono ?_;rintro e w' ⟨rfl,n,os,rfl⟩;refine⟨rfl,n,os,?_⟩;unfold sortWorldK Sort.putRowK;rw[show ((xs.toArray.toList.mergeSort λx y=>!(ltOf md_) y x))=jq_ xs from rfl,nI_])
    refine⟨T.callable,λv a b=>(T.run v a b).mono ?_⟩;rintro e w' ⟨x,G,m,A,C,B,E⟩;have J:((jq_ xs).flatMap Fc.cells).length=xs.length*6:=by rw[cK_ Fc.cells 6 Fc.cells_len,gN_]
    refine⟨⟨_,by rw[J,gN_],.inr ⟨g,cap,_,by rw[gN_],rfl,by rw[gN_];exact I,K,by rw[uU_];exact F,?_⟩⟩,G,m,A,C,B,E⟩;have:=uT_ (cur:=cur) (d:=(jq_ xs).flatMap Fc.cells) (by rw[J,F];omega);rw[J]at this;rw[gN_];exact this
section
variable {P:Program} {N:Nf} {v0:Vw} {H0:Hp} {fr:Fr} {H F:Hp} {Γ:List Fct} {K D:Type} [DecidableEq K]
theorem nG_:∀ (B:Hp) {v:Vw},Z_ (B.map λp=>cf_ p.1 p.2) v->∀ p∈B,v.im p.1/\v.w.heap[p.1]? = some p.2
 | [],_,_,_,h=>by simp at h
 | q::B,v,h,p,d=>by
   rcases yan_.1 d with rfl|d
   . exact h.1
   . exact nG_ B h.2 p d
theorem xe_ {k:Act->World->Prop} {kv:K->Value} {cells:D->List Value} {kt e:TypeId} {sz x:Nat} {l:List (K×D)} {d:Hp} (C:KeyT P kt kv) (hm:cs_ kv cells e sz l x d) (A:H.Perm (d++F))
    (h:∀ adr,Ok N v0 H0 k fr F (mlF P kt kv cells x l adr::Γ)):Ok N v0 H0 k fr H Γ:=by
  obtain⟨adr,B⟩:=hm.lent C;refine kd_ d A (gS_ (λv _ m=>?_) (h adr));rw[dP_]at m;refine⟨B v λp y=>?_,m.2⟩;have:=m.1;exact nG_ d.reverse (by rw[List.map_reverse]at *;exact this) p (List.mem_reverse.2 y)
theorem mD_ {m:TypeId} {E:Emt P m} {nw fm:List Fc} {Hs:Hp} {ty t kt G:TypeId} {x:Operand} (hS:E.St nw fm Hs) (A:∀ w,(underlying t).run P w=.ok (.map kt G) w) (B:Fr.ev fr x=some (.map (some E.kb))) (d:H.Perm (Hs++F)) :
    Yld P N fr H Γ (.call ⟨.builtin .len,#[x],#[t]⟩) ty (i4_ ((E.kof nw).length:Int)):=by
  obtain⟨es,c,y,C⟩:=E.known hS;exact mC_ C A B λv h _=>ne_ d y h
end
def sR_ (x:Ix) (n:Nat):Prop:=x.above.length<=n/\x.under.length<=n/\x.frm.length<=n/\x.into.length<=n/\x.ranges.length<=n/\x.firms.length<=n
theorem xE_:sR_ Ix.nil 0:=by simp[sR_,Ix.nil]
theorem kj_ {x:Ix} {n:Nat} (h:sR_ x n) (b:Bool) (f:Fc):sR_ (x.add b f) (n+1):=by
 obtain⟨m,v,y,d,A,B⟩:=h;unfold Ix.add sR_
 split
 .simp;omega
 split
 .simp;omega
 split
 .cases b<;>simp<;>omega
 omega
theorem rz_ {x:Ix} {n:Nat} (h:sR_ x n) (C:n<=1000000000):(∀ k,(lat x.above k).length<=1000000000/\(lat x.under k).length<=1000000000)/\(∀ k,(lat x.frm k).length<=1000000000/\(lat x.into k).length<=1000000000/\(lat x.ranges k).length<=1000000000/\(lat x.firms k).length<=1000000000):=by
 obtain⟨m,v,y,d,A,B⟩:=h;refine⟨λk=>⟨?_,?_⟩,λk=>⟨?_,?_,?_,?_⟩⟩
 .have:=eB_ x.above k;omega
 .have:=eB_ x.under k;omega
 .have:=eB_ x.frm k;omega
 .have:=eB_ x.into k;omega
 .have:=eB_ x.ranges k;omega
 have:=eB_ x.firms k;omega
theorem zq_ (B:EngB) (E:Emt prog 87) (L:EngA) (pm:List (Ky×Pc)) (x:Ix) (f:Fc) (nw fm:List Fc) (Hs:Hp) (hS:E.St nw fm Hs) (C J A G Hr I:Hp) (O:IxO 9 87 B x ⟨C,J,A,G,Hr,I⟩) (m:∀ k,(lat pm k).length<=1000000000) (d:∀ k,(lat x.above k).length<=1000000000/\(lat x.under k).length<=1000000000) (v:∀ k,(lat x.frm k).length<=1000000000/\(lat x.into k).length<=1000000000/\(lat x.ranges k).length<=1000000000/\(lat x.firms k).length<=1000000000) (M:f.kind=3->-1099511627776<=f.lo/\f.lo<=f.hi/\f.hi<=1099511627776) (R:f.kind=3->∀ y∈lat pm (Ky.mk 9 f.r []),-1099511627776<=y.lo/\y.lo<=y.hi/\y.hi<=1099511627776) (Q:f.kind=1):∀ (j:Nat) {fv:Value},(rlV B.g 1)[j]? = some fv->∃ n:Nat,fv=.func (.func n) #[zp_ B.g 0] #[]/\Tri prog n #[zp_ B.g 0,f.val] ((C++(J++(A++(G++(Hr++I)))))++Hs) [gF B E,pF B pm L,E.ef] (λ_:{H':Hp // E.St (rl E.stp E.kof pm x f j (nw,fm)).1 (rl E.stp E.kof pm x f j (nw,fm)).2 H'}=>.tuple #[]) (λy=>(C++(J++(A++(G++(Hr++I)))))++y.1) (λ_=>[])
  | 0,_,h=>⟨69,(ybk_ h).symm,rl10_c B E L pm x f nw fm Hs hS C J A G Hr I O m d v M R Q⟩
  | 1,_,h=>⟨70,(ybk_ h).symm,rl11_c B E L pm x f nw fm Hs hS C J A G Hr I O m d v M R Q⟩
  | 2,_,h=>⟨71,(ybk_ h).symm,rl12_c B E L pm x f nw fm Hs hS C J A G Hr I O m d v M R Q⟩
  | 3,_,h=>⟨72,(ybk_ h).symm,rl13_c B E L pm x f nw fm Hs hS C J A G Hr I O m d v M R Q⟩
  | 4,_,h=>⟨73,(ybk_ h).symm,rl14_c B E L pm x f nw fm Hs hS C J A G Hr I O m d v M R Q⟩
  | 5,_,h=>⟨74,(ybk_ h).symm,rl15_c B E L pm x f nw fm Hs hS C J A G Hr I O m d v M R Q⟩
  | j+6,_,h=>by simp[rlV]at h
theorem zo_ (B:EngB) (E:Emt prog 87) (L:EngA) (pm:List (Ky×Pc)) (x:Ix) (f:Fc) (nw fm:List Fc) (Hs:Hp) (hS:E.St nw fm Hs) (C J A G Hr I:Hp) (O:IxO 9 87 B x ⟨C,J,A,G,Hr,I⟩) (m:∀ k,(lat pm k).length<=1000000000) (d:∀ k,(lat x.above k).length<=1000000000/\(lat x.under k).length<=1000000000) (v:∀ k,(lat x.frm k).length<=1000000000/\(lat x.into k).length<=1000000000/\(lat x.ranges k).length<=1000000000/\(lat x.firms k).length<=1000000000) (M:f.kind=3->-1099511627776<=f.lo/\f.lo<=f.hi/\f.hi<=1099511627776) (R:f.kind=3->∀ y∈lat pm (Ky.mk 9 f.r []),-1099511627776<=y.lo/\y.lo<=y.hi/\y.hi<=1099511627776) (Q:f.kind=2):∀ (j:Nat) {fv:Value},(rlV B.g 2)[j]? = some fv->∃ n:Nat,fv=.func (.func n) #[zp_ B.g 0] #[]/\Tri prog n #[zp_ B.g 0,f.val] ((C++(J++(A++(G++(Hr++I)))))++Hs) [gF B E,pF B pm L,E.ef] (λ_:{H':Hp // E.St (rl E.stp E.kof pm x f j (nw,fm)).1 (rl E.stp E.kof pm x f j (nw,fm)).2 H'}=>.tuple #[]) (λy=>(C++(J++(A++(G++(Hr++I)))))++y.1) (λ_=>[])
  | 0,_,h=>⟨75,(ybk_ h).symm,rl20_c B E L pm x f nw fm Hs hS C J A G Hr I O m d v M R Q⟩
  | 1,_,h=>⟨76,(ybk_ h).symm,rl21_c B E L pm x f nw fm Hs hS C J A G Hr I O m d v M R Q⟩
  | 2,_,h=>⟨77,(ybk_ h).symm,rl22_c B E L pm x f nw fm Hs hS C J A G Hr I O m d v M R Q⟩
  | 3,_,h=>⟨78,(ybk_ h).symm,rl23_c B E L pm x f nw fm Hs hS C J A G Hr I O m d v M R Q⟩
  | j+4,_,h=>by simp[rlV]at h
theorem zn_ (B:EngB) (E:Emt prog 87) (L:EngA) (pm:List (Ky×Pc)) (x:Ix) (f:Fc) (nw fm:List Fc) (Hs:Hp) (hS:E.St nw fm Hs) (v J d C Hr I:Hp) (O:IxO 9 87 B x ⟨v,J,d,C,Hr,I⟩) (A:∀ k,(lat pm k).length<=1000000000) (m:∀ k,(lat x.above k).length<=1000000000/\(lat x.under k).length<=1000000000) (G:∀ k,(lat x.frm k).length<=1000000000/\(lat x.into k).length<=1000000000/\(lat x.ranges k).length<=1000000000/\(lat x.firms k).length<=1000000000) (M:f.kind=3->-1099511627776<=f.lo/\f.lo<=f.hi/\f.hi<=1099511627776) (R:f.kind=3->∀ y∈lat pm (Ky.mk 9 f.r []),-1099511627776<=y.lo/\y.lo<=y.hi/\y.hi<=1099511627776) (Q:f.kind=3):∀ (j:Nat) {fv:Value},(rlV B.g 3)[j]? = some fv->∃ n:Nat,fv=.func (.func n) #[zp_ B.g 0] #[]/\Tri prog n #[zp_ B.g 0,f.val] ((v++(J++(d++(C++(Hr++I)))))++Hs) [gF B E,pF B pm L,E.ef] (λ_:{H':Hp // E.St (rl E.stp E.kof pm x f j (nw,fm)).1 (rl E.stp E.kof pm x f j (nw,fm)).2 H'}=>.tuple #[]) (λy=>(v++(J++(d++(C++(Hr++I)))))++y.1) (λ_=>[])
  | 0,_,h=>⟨79,(ybk_ h).symm,rl30_c B E L pm x f nw fm Hs hS v J d C Hr I O A m G M R Q⟩
  | 1,_,h=>⟨80,(ybk_ h).symm,rl31_c B E L pm x f nw fm Hs hS v J d C Hr I O A m G M R Q⟩
  | j+2,_,h=>by simp[rlV]at h
def cC_ (p:List Pc) (bu:Int) (c:Cl) (e:Int):Prop :=
  if bq_ p≠0 then c=Cl.no/\e=bq_ p
  else if bu<0\/1073741824<bu then c=Cl.no/\e=1
  else (e=0/\c.ok/\c.atoms=atS p/\fr_ p (atS p) (min bu 65536).toNat (some c.facts))\/(c=Cl.no/\e=(if bu<65536 then 3 else 2)/\fr_ p (atS p) (min bu 65536).toNat none)
theorem yu_ {p:List Pc} {d:Int} (h:bq_ p≠0):cC_ p d Cl.no (bq_ p):=by unfold cC_;rw[yaq_ h];exact⟨rfl,rfl⟩
theorem yv_ {p:List Pc} {d:Int} (h:bq_ p=0) (m:d<0\/1073741824<d):cC_ p d Cl.no 1:=by unfold cC_;rw[yaf_ (by simp[h]),yaq_ m];exact⟨rfl,rfl⟩
theorem AG_ {p:List Pc} {d:Int} {m n:Nat} {c:Cl} {q fm:List Fc} {x:Ix} (G:bq_ p=0) (J:¬ d<0) (I:¬ 1073741824<d) (hm:min d 65536=(m:Int)) (C:c.ok) (E:c.atoms=atS p) (v:LoopA (uniq [] p) (atS p) m n q fm x) (B:q.length<=n) (hl:q.length<=m) (A:c.facts=jq_ q):cC_ p d c 0:=by
  unfold cC_;rw[yaf_ (by simp[G]),yaf_ zaa_];have e:n=q.length:=Nat.le_antisymm v.le B;subst e;refine .inl ⟨rfl,C,E,?_⟩;rw[hm,A];exact⟨wq_ v.nd,λy=>by rw[wr_,<-sM_ v hl,qw_],by rw[gN_];simpa using hl⟩
theorem ja_ {p:List Pc} {d:Int} {m:Nat} {e:Int} {M:List Fc} (B:bq_ p=0) (E:¬ d<0) (C:¬ 1073741824<d) (hm:min d 65536=(m:Int)) (x:e=if d<65536 then 3 else 2) (nd:M.Nodup) (v:∀ y∈M,Der (uniq [] p) (atS p) y) (hl:m<M.length):cC_ p d Cl.no e:=by
  unfold cC_;rw[yaf_ (by simp[B]),yaf_ zaa_];exact .inr ⟨rfl,x,M,nd,λy A=>qw_.1 (v y A),by rw[hm];simpa using hl⟩
end Go.Proofs.YtfjcabalehamcaaGreatDoor
namespace Go.Proofs.YtfjcabalehamcaaGreatDoor
open Go Go.Sx Go.Proofs Tryz
attribute [local irreducible] Code.wp wpList wpAnyH
open Go.Vs
theorem jI_ {G:Prop} (h:G:=by
 refine e_ (w_ jp_ rfl rfl) rfl (n_ 0 aW_ rfl rfl rfl rfl rfl rfl (Zz 4 ?_));exact dI_ ⟨((Cl.mk [] none 0 [] none 0),1),yv_ zae_ zaa_⟩ (λaa v C B=>dS_ (us:=Cl.cells (Cl.mk [] none 0 [] none 0)) 0 io_ gl_ aW_ rfl rfl rfl rfl aa v C B) i_ (λv _ h=>by exact⟨.inl rfl,.inl rfl,trivial⟩)):G:=h
theorem hh_ {G:Prop} (h:G:=by
 refine T_ (first:=[zp_ g 0]) (vs:=[Fc.val f]) (cap:=[]) hT rfl rfl (pf_six (G_ (c_ (c_ (c_ x_))) (G_ (c_ (c_ (c_ x_))) (G_ (c_ (c_ (c_ x_))) (G_ (c_ (c_ (c_ x_))) (G_ (c_ (c_ (c_ x_))) (G_ (c_ (c_ (c_ x_))) (c_ (c_ E_))))))))) (λv _ h=>by exact⟨h.2.2.2.2.2.1,h.2.2.2.2.1,⟨h.2.2.2.2.2.2.2.1,h.2.2.2.2.2.2.1,h.2.2.2.2.2.1⟩,trivial⟩) rfl λ⟨V,W⟩=>t_ zA_ (Zz 2 ?_)
 refine t_ (X_ (j_ (j_ (j_ (j_ (j_ (j_ (j_ d_))))))) (X_ (j_ (j_ (j_ (j_ (j_ (j_ (j_ d_))))))) (be_ (j_ (j_ (j_ (j_ (j_ (j_ bg_))))))))) (Zz 2 ?_);refine s_ 0 [0,1,2,3,4,5,6] zk zs (Zz 4 ?_);refine S_ rfl (aj_ (mD_ (E:=(EA m hm (EngB.mk g pb ab ub ob ib rb sb lad lcap (ap_ (uniq [] p))) A F d kb fb)) (nw:=(rls (bm_ m) idk (aC_ (uniq [] p)) (Ix.add x (decide (f∈fm)) f) f (j+1) (q,fm)).1) (Hs:=V) W bj_ rfl zp) (show _=i4_ (List.length (rls (bm_ m) idk (aC_ (uniq [] p)) (Ix.add x (decide (f∈fm)) f) f (j+1) (q,fm)).1:Int) from rfl)) rfl (Zi 1 (λhr_6=>?_) λhr_6=>?_)
 .refine Zz 11 ?_
  exact C_ ⟨(j+1,V),a6,by exact W,.inr zab_⟩ zab_ zl zp zh
 refine Zz 9 ?_;refine s_ 0 [0,1,2,3,4,5,6] zk zs (Zz 4 ?_);refine S_ rfl (aj_ (mD_ (E:=(EA m hm (EngB.mk g pb ab ub ob ib rb sb lad lcap (ap_ (uniq [] p))) A F d kb fb)) (nw:=(rls (bm_ m) idk (aC_ (uniq [] p)) (Ix.add x (decide (f∈fm)) f) f (j+1) (q,fm)).1) (Hs:=V) W bj_ rfl zp) (show _=i4_ (List.length (rls (bm_ m) idk (aC_ (uniq [] p)) (Ix.add x (decide (f∈fm)) f) f (j+1) (q,fm)).1:Int) from rfl)) rfl (Zi 1 (λhr_7=>?_) λhr_7=>?_)
 .omega
 refine Zi 8 (λhr_8=>?_) λhr_8=>?_
 .refine Zz 7 ?_
  refine e_ (w_ jp_ rfl rfl) rfl (n_ 0 aW_ rfl rfl rfl rfl rfl rfl (Zz 4 ?_));exact dI_ ⟨((Cl.mk [] none 0 [] none 0),2),ja_ X Z a1 Y (by rw[yaf_ zae_]) (gc_ L hL hf (j+1) rfl).1 (gc_ L hL hf (j+1) rfl).2.2.1 zaa_⟩ (λaa v C B=>dS_ (us:=Cl.cells (Cl.mk [] none 0 [] none 0)) 0 io_ gl_ aW_ rfl rfl rfl rfl aa v C B) i_ (λv _ h=>by exact⟨.inl rfl,.inl rfl,trivial⟩)
 refine Zz 5 ?_;refine e_ (w_ jp_ rfl rfl) rfl (n_ 0 aW_ rfl rfl rfl rfl rfl rfl (Zz 4 ?_));exact dI_ ⟨((Cl.mk [] none 0 [] none 0),3),ja_ X Z a1 Y (by rw[yaq_ zae_]) (gc_ L hL hf (j+1) rfl).1 (gc_ L hL hf (j+1) rfl).2.2.1 zaa_⟩ (λaa v C B=>dS_ (us:=Cl.cells (Cl.mk [] none 0 [] none 0)) 0 io_ gl_ aW_ rfl rfl rfl rfl aa v C B) i_ (λv _ h=>by exact⟨.inl rfl,.inl rfl,trivial⟩)):G:=h
set_option maxHeartbeats 4000000 in
theorem us_ (p:List Pc) (pad:Ao) (pcap:Nat) (bu:Int) (hsm:∀ x∈p,x.sm) (hp:p.length<=100000000):Tri prog 11 #[.slice pad p.length pcap,i4_ bu] [] [L_ pad (p.flatMap Pc.cells),dA_] (λy:{y:Cl×Int // cC_ p bu y.1 y.2}=>.tuple #[y.1.1.val,i4_ y.1.2]) (λ_=>[]) (λy=>y.1.1.row):=by
 refine g_ func11 rfl rfl ntmps11 rfl λv_1=>?_;refine Zz 2 ?_;refine u_ gk_ rfl λb_1=>Zz 3 ?_
 refine os_ (Zz 4 ?_);refine f_ (qb_ p pad pcap zaa_ hsm) rfl i_ zf rfl λ_=>Zi 6 (λhr_1=>?_) λhr_1=>?_
 .have X:=hr_1
  refine Zi 9 (λhr_2=>?_) λhr_2=>?_
  .have Z:=hr_2
   refine Zi 4 (λhr_3=>?_) λhr_3=>?_
   .have a1:=hr_3
    refine Zz 7 ?_;obtain⟨m,Y⟩:∃ m:Nat,min bu 65536=(m:Int):=⟨(min bu 65536).toNat,by omega⟩;have hm:m<=65536:=by omega
    have L:=wg_ (pc_ X);have hpl:∀ k,(lat (aC_ (uniq [] p)) k).length<=1000000000:=λk=>by have C:=eB_ (aC_ (uniq [] p)) k;have B:=nb_ (uniq [] p);have h_3:=jM_ p [];simp only[yaB_]at h_3;omega
    refine Zz 2 ?_;refine f_ (ro_ p pad pcap zaa_) rfl i_ zf rfl λ⟨⟨g,pb,kb,ab,ub,ob,ib,rb,sb,fb,lv,hm_1,hl_1⟩,hy⟩=>?_;dsimp only;dsimp only[NewE.own,NewE.ok]at hy ⊢;obtain⟨hym,hyl⟩:=hy;simp only[yav_,yap_];refine aZ_ hyl (c_ (c_ (c_ (c_ (c_ (c_ (c_ (c_ (c_ (j_ x_)))))))))) λlad lcap hlad hclad hmlad hzlad=>?_;subst hlad;refine u_ zeroValue84 rfl λA=>t_ (X_ d_ (X_ d_ (X_ d_ (X_ d_ (X_ d_ (X_ d_ (X_ d_ (X_ d_ (X_ d_ (X_ d_ (be_ bg_))))))))))) (n_ 0 sizeOf84 rfl rfl rfl rfl rfl rfl (Zz 5 ?_))
    refine e_ (aj_ (jJ_ rfl rfl) (yah_ (i4_) Y)) rfl (u_ aN_ rfl λF=>n_ 0 K_ rfl rfl rfl rfl rfl rfl (Zz 4 ?_));refine u_ qn_ rfl λd=>Zz 5 ?_
    refine e_ (aR_ rfl rfl) rfl (Zz 2 ?_);refine n_ 3 fs_ rfl rfl rfl rfl rfl rfl (Zz 3 ?_);refine hy_ (cf_ A (.cells #[zp_ g 0] 84 (0,0))) (be_ (c_ (c_ d_))) (λ_ C B _=>⟨C,B⟩) ?_;refine hy_ (cf_ F (.cells #[i4_ m] 3 (0,0))) (be_ (c_ d_)) (λ_ C B _=>⟨C,B⟩) ?_;refine hy_ (cf_ g (.cells #[.map (some pb),.slice lad (ap_ (uniq [] p)).length lcap,.map (some kb),.func (.func 29) #[] #[zp_ A 0,zp_ F 0,zp_ d 0],.map (some ab),.map (some ub),.map (some ob),.map (some ib),.map (some rb),.map (some sb),.map (some fb)] 94 (0,0))) (be_ (c_ d_)) (λ_ C B _=>⟨C,B⟩) ?_;refine xe_ hM_ hym (c_ (c_ (c_ (c_ (c_ (c_ (c_ (c_ (c_ E_))))))))) λadr=>?_;refine Zz 2 ?_;refine f_ (atS_c p pad pcap zaa_) rfl i_ zf rfl λ⟨⟨aad,acap⟩,hac,ham,haz⟩=>?_;dsimp only;refine Zz 7 ?_;refine f_ (Ay_ (EngB.mk g pb ab ub ob ib rb sb lad lcap (ap_ (uniq [] p))) (EA m hm (EngB.mk g pb ab ub ob ib rb sb lad lcap (ap_ (uniq [] p))) A F d kb fb) [] [] [(d,.cells #[.slice none 0 0] 35 (0,0)),(kb,.map #[] 0),(fb,.map #[] 0)] ⟨.slice none 0 0,#[],0,#[],0,[],[],rfl,ad_.nil _ _,SetE.nil,SetE.nil,by simp⟩ (atS p) aad acap (by have:=qf_ p;omega) (by have:=lO_ (uniq [] p);have h_3:=jM_ p [];simp only[yaB_]at h_3;show (ap_ (uniq [] p)).length<=_;omega)) rfl (m_ d_ (m_ d_ (c_ (c_ (c_ (c_ (c_ (c_ d_)))))))) (λv _ h=>by exact⟨h.2.2.1,h.2.2.2.2.2.1,h.1,⟨h.2.2.2.2.1,h.2.2.2.1,h.2.2.1⟩,trivial⟩) rfl λ⟨Hs_1,hS_1⟩=>?_;dsimp only;refine Zz 2 ?_;refine t_ (X_ (j_ d_) (X_ (j_ d_) (X_ (j_ d_) (X_ (j_ d_) (X_ (j_ d_) (X_ (j_ d_) (be_ bg_))))))) (Zz 3 ?_);refine f_ (zm_ g) rfl i_ zt rfl λ⟨a5,a3,a4⟩=>?_;dsimp only;refine u_ zeroValue98 rfl λa0=>n_ 0 sizeOf98 rfl rfl rfl rfl rfl rfl (Zz 3 ?_)
    refine ou_ (Zz 8 ?_);refine I_ (ι:={y:Nat×List Fc×List Fc×Ix×Hp×Hp×Hp×Hp×Hp×Hp×Hp // LoopA (uniq [] p) (atS p) m y.1 y.2.1 y.2.2.1 y.2.2.2.1/\((EA m hm (EngB.mk g pb ab ub ob ib rb sb lad lcap (ap_ (uniq [] p))) A F d kb fb)).St y.2.1 y.2.2.1 y.2.2.2.2.2.2.2.2.2.2/\IxO 9 87 (EngB.mk g pb ab ub ob ib rb sb lad lcap (ap_ (uniq [] p))) y.2.2.2.1 ⟨y.2.2.2.2.1,y.2.2.2.2.2.1,y.2.2.2.2.2.2.1,y.2.2.2.2.2.2.2.1,y.2.2.2.2.2.2.2.2.1,y.2.2.2.2.2.2.2.2.2.1⟩/\sR_ y.2.2.2.1 y.1}) (λy=>[(0,.slice pad p.length pcap),(1,i4_ bu),(4,zp_ b_1 0),(7,zp_ A 0),(8,zp_ F 0),(9,zp_ d 0),(10,.slice aad (atS p).length acap),(11,zp_ a0 0),(12,i4_ y.1.1)]) (λy=>((b_1,.cells #[.slice none 0 0,.slice none 0 0] 37 (0,0))::((a0,.cells #[.slice none 0 0,.slice (some ⟨a5,0,none⟩) 6 6,.slice (some ⟨a3,0,none⟩) 4 4,.slice (some ⟨a4,0,none⟩) 2 2] 98 (0,0))::(y.1.2.2.2.2.1++(y.1.2.2.2.2.2.1++(y.1.2.2.2.2.2.2.1++(y.1.2.2.2.2.2.2.2.1++(y.1.2.2.2.2.2.2.2.2.1++(y.1.2.2.2.2.2.2.2.2.2.1++y.1.2.2.2.2.2.2.2.2.2.2))))))))) (λy=>[L_ (some ⟨a5,0,none⟩) (List.flatMap fvC (rlV g 1)),L_ (some ⟨a3,0,none⟩) (List.flatMap fvC (rlV g 2)),L_ (some ⟨a4,0,none⟩) (List.flatMap fvC (rlV g 3)),L_ aad (List.flatMap ar_ (atS p)),mlF prog 195 Ky.val Pc.cells pb (aC_ (uniq [] p)) adr,cf_ g (.cells #[.map (some pb),.slice lad (ap_ (uniq [] p)).length lcap,.map (some kb),.func (.func 29) #[] #[zp_ A 0,zp_ F 0,zp_ d 0],.map (some ab),.map (some ub),.map (some ob),.map (some ib),.map (some rb),.map (some sb),.map (some fb)] 94 (0,0)),cf_ F (.cells #[i4_ m] 3 (0,0)),cf_ A (.cells #[zp_ g 0] 84 (0,0)),L_ lad (List.flatMap ar_ (ap_ (uniq [] p))),L_ pad (p.flatMap Pc.cells),dA_]) (λy=>m+1 - y.1.1) ⟨((0:Nat),(emits (bm_ m) (eZ_ (ap_ (uniq [] p)) (atS p)) []),([]:List Fc),Ix.nil,[(ab,.map #[] 0)],[(ub,.map #[] 0)],[(ob,.map #[] 0)],[(ib,.map #[] 0)],[(rb,.map #[] 0)],[(sb,.map #[] 0)],Hs_1),ru_ L rfl,by exact hS_1,⟨cs_.nil _ _,cs_.nil _ _,cs_.nil _ _,cs_.nil _ _,cs_.nil _ _,cs_.nil _ _⟩,xE_⟩ zl (m_ (c_ (c_ (c_ (c_ (c_ (c_ (c_ d_))))))) (m_ d_ (m_ d_ (m_ d_ (m_ d_ (m_ d_ (m_ d_ (m_ d_ af_)))))))) zh ?_;rintro ⟨⟨n,q,fm,x,Ha,Hu,Ho,Hi,Hr,Hm,Hs⟩,hL,hS,hI,hz⟩;dsimp only at hL hS hI hz ⊢;obtain⟨M,K,I,J,N,qf_1,H,hHs_1,O,hEk_1,hEf_1,hqf_1⟩:=hS;subst hHs_1;have hqm:=hL.len;have hnq:=hL.le;obtain⟨hxl,hyl⟩:=rz_ hz zaa_;refine bb_ (t_ (X_ d_ (X_ d_ (X_ (j_ (j_ (j_ (j_ (j_ (j_ d_)))))) (be_ (j_ (j_ (j_ (j_ (j_ (j_ d_)))))))))) (Zz 4 ?_));refine e_ (bU_ O ai_ rfl) rfl ?_;refine Zi 0 (λhr_4=>?_) λhr_4=>?_
    .refine Zz 8 ?_
     refine s_ 0 [0,1,2,3,4,5,6] zk zs (Zz 4 ?_);refine S_ rfl (aj_ (mD_ (E:=(EA m hm (EngB.mk g pb ab ub ob ib rb sb lad lcap (ap_ (uniq [] p))) A F d kb fb)) (nw:=q) (Hs:=((d,.cells #[M] 35 (0,0))::(kb,.map K I)::([(fb,.map J N)]++H))) ⟨M,K,I,J,N,qf_1,H,rfl,O,hEk_1,hEf_1,hqf_1⟩ bj_ rfl zp) (show _=i4_ (List.length q:Int) from rfl)) rfl (Zi 1 (λhr_5=>?_) λhr_5=>?_)
     .refine Zz 9 ?_
      refine f_ (zg_ O zaa_) rfl zp zt rfl λ⟨Hq_2,hq_1⟩=>?_;dsimp only;refine Zz 2 ?_;refine t_ (X_ (j_ d_) (X_ (j_ d_) (X_ (j_ d_) (be_ (j_ d_))))) (bb_ (aZ_ hq_1 (c_ (c_ (c_ (c_ x_)))) λfad fcap hfad hcfad hmfad hzfad=>?_));subst hfad;refine Zz 3 ?_;refine e_ (w_ jp_ rfl rfl) rfl (n_ 0 aW_ rfl rfl rfl rfl rfl rfl (Zz 4 ?_));exact dI_ ⟨((Cl.mk (atS p) aad acap (jq_ q) fad fcap),0),AG_ X Z a1 Y ⟨hac,ham,haz,hcfad,hmfad,hzfad⟩ rfl hL zaa_ zaa_ rfl⟩ (λaa v C B=>dS_ (us:=Cl.cells (Cl.mk (atS p) aad acap (jq_ q) fad fcap)) 0 io_ gl_ aW_ rfl rfl rfl rfl aa v C B) i_ zf
     refine Zi 8 (λhr_6=>?_) λhr_6=>?_
     .refine Zz 7 ?_
      refine e_ (w_ jp_ rfl rfl) rfl (n_ 0 aW_ rfl rfl rfl rfl rfl rfl (Zz 4 ?_));exact dI_ ⟨((Cl.mk [] none 0 [] none 0),2),ja_ X Z a1 Y (by rw[yaf_ zae_]) hL.nd hL.der zaa_⟩ (λaa v C B=>dS_ (us:=Cl.cells (Cl.mk [] none 0 [] none 0)) 0 io_ gl_ aW_ rfl rfl rfl rfl aa v C B) i_ (λv _ h=>by exact⟨.inl rfl,.inl rfl,trivial⟩)
     refine Zz 5 ?_;refine e_ (w_ jp_ rfl rfl) rfl (n_ 0 aW_ rfl rfl rfl rfl rfl rfl (Zz 4 ?_));exact dI_ ⟨((Cl.mk [] none 0 [] none 0),3),ja_ X Z a1 Y (by rw[yaq_ zae_]) hL.nd hL.der zaa_⟩ (λaa v C B=>dS_ (us:=Cl.cells (Cl.mk [] none 0 [] none 0)) 0 io_ gl_ aW_ rfl rfl rfl rfl aa v C B) i_ (λv _ h=>by exact⟨.inl rfl,.inl rfl,trivial⟩)
    have hlf:n<q.length:=by omega
    obtain⟨f,hf⟩:∃ e_1,q[n]? = some e_1:=⟨_,yaa_ hlf⟩;have hmf:f∈q:=yac_ hf;have hfd:=hL.der f hmf;have hform:=hfd.form L;obtain⟨hxl_1,hyl_1⟩:=rz_ (kj_ hz (decide (f∈fm)) f) zaa_;refine Zz 11 ?_;refine e_ (aE_ O ai_ N_ rfl rfl zaa_ zaa_) rfl (e_ (gK_ O zp cp_ N_ rfl (Fc.cells_len _) zac_ (y_ Fc.cells_len hf)) rfl (u_ W_ rfl λb_6=>n_ 0 N_ rfl rfl rfl rfl rfl rfl (Zz 6 ?_)));refine f_ (Aa_ (EngB.mk g pb ab ub ob ib rb sb lad lcap (ap_ (uniq [] p))) (EA m hm (EngB.mk g pb ab ub ob ib rb sb lad lcap (ap_ (uniq [] p))) A F d kb fb) x f q fm ((d,.cells #[M] 35 (0,0))::(kb,.map K I)::([(fb,.map J N)]++H)) ⟨M,K,I,J,N,qf_1,H,rfl,O,hEk_1,hEf_1,hqf_1⟩ Ha Hu Ho Hi Hr Hm hI hxl hyl) rfl (G_ (c_ (c_ (c_ (c_ (c_ x_))))) (G_ (c_ (c_ (c_ (c_ (c_ x_))))) (G_ (c_ (c_ (c_ (c_ (c_ x_))))) (G_ (c_ (c_ (c_ (c_ (c_ x_))))) (G_ (c_ (c_ (c_ (c_ (c_ x_))))) (G_ (c_ (c_ (c_ (c_ (c_ x_))))) (m_ (c_ (c_ (c_ d_))) (m_ (c_ (c_ (c_ d_))) (G_ (c_ (c_ (c_ x_))) (c_ (c_ E_))))))))))) zf rfl λ⟨⟨T,R,P,Q,U,S⟩,hI_1⟩=>?_;dsimp only;refine t_ zB_ (Zz 2 ?_);refine t_ (X_ (j_ (j_ (j_ (j_ (j_ (j_ d_)))))) (X_ (j_ (j_ (j_ (j_ (j_ (j_ d_)))))) (X_ (j_ (j_ (j_ (j_ (j_ (j_ (j_ (j_ d_)))))))) (X_ (j_ (j_ (j_ (j_ (j_ (j_ (j_ (j_ d_)))))))) (be_ (j_ (j_ (j_ (j_ (j_ (j_ (j_ bg_)))))))))))) (Zz 4 ?_);rcases iT_ hform with hk|hk|hk
    .refine e_ (aj_ (dk_ wD_ sizeOf97 rfl rfl zaa_ zaa_) (show _=zp_ a0 1 from by rw[hk];rfl)) rfl ?_
     refine Zz 6 ?_;refine dO_ (H':=((b_1,.cells #[.slice none 0 0,.slice none 0 0] 37 (0,0))::((a0,.cells #[.slice none 0 0,.slice (some ⟨a5,0,none⟩) 6 6,.slice (some ⟨a3,0,none⟩) 4 4,.slice (some ⟨a4,0,none⟩) 2 2] 98 (0,0))::((b_6,.cells #[i4_ f.kind,str f.a,str f.b,str f.r,i4_ f.lo,i4_ f.hi] 87 (0,0))::(T++(R++(P++(Q++(U++(S++((d,.cells #[M] 35 (0,0))::(kb,.map K I)::([(fb,.map J N)]++H)))))))))))) (m_ (c_ (c_ (c_ d_))) (m_ (c_ (c_ (c_ d_))) (m_ (c_ (c_ d_)) (G_ (c_ (c_ x_)) (G_ (c_ (c_ x_)) (G_ (c_ (c_ x_)) (G_ (c_ (c_ x_)) (G_ (c_ (c_ x_)) (G_ (c_ (c_ x_)) (m_ d_ (m_ d_ (G_ x_ af_)))))))))))) (λv _ h=>h) ?_;refine I_ (ι:={y:Nat×Hp // y.1<=6/\((EA m hm (EngB.mk g pb ab ub ob ib rb sb lad lcap (ap_ (uniq [] p))) A F d kb fb)).St (rls (bm_ m) idk (aC_ (uniq [] p)) (Ix.add x (decide (f∈fm)) f) f y.1 (q,fm)).1 (rls (bm_ m) idk (aC_ (uniq [] p)) (Ix.add x (decide (f∈fm)) f) f y.1 (q,fm)).2 y.2/\(y.1=0\/((rls (bm_ m) idk (aC_ (uniq [] p)) (Ix.add x (decide (f∈fm)) f) f y.1 (q,fm)).1).length<=m)}) (λy=>[(0,.slice pad p.length pcap),(1,i4_ bu),(4,zp_ b_1 0),(7,zp_ A 0),(8,zp_ F 0),(9,zp_ d 0),(10,.slice aad (atS p).length acap),(11,zp_ a0 0),(12,i4_ n),(13,zp_ b_6 0),(60,.slice (some ⟨a5,0,none⟩) 6 6),(61,i4_ 6),(62,i4_ y.1.1)]) (λy=>((b_1,.cells #[.slice none 0 0,.slice none 0 0] 37 (0,0))::((a0,.cells #[.slice none 0 0,.slice (some ⟨a5,0,none⟩) 6 6,.slice (some ⟨a3,0,none⟩) 4 4,.slice (some ⟨a4,0,none⟩) 2 2] 98 (0,0))::((b_6,.cells #[i4_ f.kind,str f.a,str f.b,str f.r,i4_ f.lo,i4_ f.hi] 87 (0,0))::(T++(R++(P++(Q++(U++(S++y.1.2)))))))))) (λy=>[L_ (some ⟨a5,0,none⟩) (List.flatMap fvC (rlV g 1)),L_ (some ⟨a3,0,none⟩) (List.flatMap fvC (rlV g 2)),L_ (some ⟨a4,0,none⟩) (List.flatMap fvC (rlV g 3)),L_ aad (List.flatMap ar_ (atS p)),mlF prog 195 Ky.val Pc.cells pb (aC_ (uniq [] p)) adr,cf_ g (.cells #[.map (some pb),.slice lad (ap_ (uniq [] p)).length lcap,.map (some kb),.func (.func 29) #[] #[zp_ A 0,zp_ F 0,zp_ d 0],.map (some ab),.map (some ub),.map (some ob),.map (some ib),.map (some rb),.map (some sb),.map (some fb)] 94 (0,0)),cf_ F (.cells #[i4_ m] 3 (0,0)),cf_ A (.cells #[zp_ g 0] 84 (0,0)),L_ lad (List.flatMap ar_ (ap_ (uniq [] p))),L_ pad (p.flatMap Pc.cells),dA_]) (λy=>6 - y.1.1) ⟨((0:Nat),((d,.cells #[M] 35 (0,0))::(kb,.map K I)::([(fb,.map J N)]++H))),by omega,by exact⟨M,K,I,J,N,qf_1,H,rfl,O,hEk_1,hEf_1,hqf_1⟩,.inl rfl⟩ zl zp zh ?_;rintro ⟨⟨j,Hs⟩,hj,G,hjm⟩;dsimp only at hj G hjm ⊢;refine Zi 2 (λhr_5=>?_) λhr_5=>?_
     .have ej:j=6:=by omega
      have hjl:((rls (bm_ m) idk (aC_ (uniq [] p)) (Ix.add x (decide (f∈fm)) f) f j (q,fm)).1).length<=m:=hjm.resolve_left zaa_;rw[ej]at hjl G;refine Zz 12 ?_;exact C_ ⟨(n+1,(rls (bm_ m) idk (aC_ (uniq [] p)) (Ix.add x (decide (f∈fm)) f) f 6 (q,fm)).1,(rls (bm_ m) idk (aC_ (uniq [] p)) (Ix.add x (decide (f∈fm)) f) f 6 (q,fm)).2,(Ix.add x (decide (f∈fm)) f),T,R,P,Q,U,S,Hs),(jy_ L hL hf (by have e:nrl f=6:=(by unfold nrl;simp[hk]);rw[e]) zaa_),(by exact G),hI_1,(kj_ hz _ f)⟩ zab_ zl (m_ d_ (m_ d_ (G_ (c_ x_) (G_ (c_ x_) (G_ (c_ x_) (G_ (c_ x_) (G_ (c_ x_) (G_ (c_ x_) E_)))))))) zh
     have a6:j<List.length (rlV g 1):=by show j<6;omega
     obtain⟨fv,a2⟩:∃ e_1,(rlV g 1)[j]? = some e_1:=⟨_,yaa_ a6⟩;have hmfv:fv∈(rlV g 1):=yac_ a2;refine Zz 10 ?_;refine e_ (Y_ dZ_ fs_ rfl rfl (λv _ h=>az_ (n:=1) iS_ zac_ (by exact h.1) a2) zaa_ zaa_) rfl (e_ (bN_ (ad:=(some ⟨a5,0,none⟩)) isAgg89 rfl zf (y_ iS_ a2 0 _ rfl)) rfl (Zz 7 ?_));obtain⟨nr,rfl,hT⟩:=zq_ (EngB.mk g pb ab ub ob ib rb sb lad lcap (ap_ (uniq [] p))) (EA m hm (EngB.mk g pb ab ub ob ib rb sb lad lcap (ap_ (uniq [] p))) A F d kb fb) (EngA.mk adr (λ_=>(none,0)) (λ_=>(none,0)) (λ_=>(none,0)) (λ_=>(none,0)) (λ_=>(none,0)) (λ_=>(none,0))) (aC_ (uniq [] p)) (Ix.add x (decide (f∈fm)) f) f (rls (bm_ m) idk (aC_ (uniq [] p)) (Ix.add x (decide (f∈fm)) f) f j (q,fm)).1 (rls (bm_ m) idk (aC_ (uniq [] p)) (Ix.add x (decide (f∈fm)) f) f j (q,fm)).2 Hs G T R P Q U S hI_1 hpl hxl_1 hyl_1 (λhk=>(hN_ hform hk).2.2) (λ_ y hy=>(L y (pm9.1 hy).1).num (.inr (pm9.1 hy).2.1)) hk j a2;exact hh_
    .refine e_ (aj_ (dk_ wD_ sizeOf97 rfl rfl zaa_ zaa_) (show _=zp_ a0 2 from by rw[hk];rfl)) rfl ?_
     refine Zz 6 ?_;refine dO_ (H':=((b_1,.cells #[.slice none 0 0,.slice none 0 0] 37 (0,0))::((a0,.cells #[.slice none 0 0,.slice (some ⟨a5,0,none⟩) 6 6,.slice (some ⟨a3,0,none⟩) 4 4,.slice (some ⟨a4,0,none⟩) 2 2] 98 (0,0))::((b_6,.cells #[i4_ f.kind,str f.a,str f.b,str f.r,i4_ f.lo,i4_ f.hi] 87 (0,0))::(T++(R++(P++(Q++(U++(S++((d,.cells #[M] 35 (0,0))::(kb,.map K I)::([(fb,.map J N)]++H)))))))))))) (m_ (c_ (c_ (c_ d_))) (m_ (c_ (c_ (c_ d_))) (m_ (c_ (c_ d_)) (G_ (c_ (c_ x_)) (G_ (c_ (c_ x_)) (G_ (c_ (c_ x_)) (G_ (c_ (c_ x_)) (G_ (c_ (c_ x_)) (G_ (c_ (c_ x_)) (m_ d_ (m_ d_ (G_ x_ af_)))))))))))) (λv _ h=>h) ?_;refine I_ (ι:={y:Nat×Hp // y.1<=4/\((EA m hm (EngB.mk g pb ab ub ob ib rb sb lad lcap (ap_ (uniq [] p))) A F d kb fb)).St (rls (bm_ m) idk (aC_ (uniq [] p)) (Ix.add x (decide (f∈fm)) f) f y.1 (q,fm)).1 (rls (bm_ m) idk (aC_ (uniq [] p)) (Ix.add x (decide (f∈fm)) f) f y.1 (q,fm)).2 y.2/\(y.1=0\/((rls (bm_ m) idk (aC_ (uniq [] p)) (Ix.add x (decide (f∈fm)) f) f y.1 (q,fm)).1).length<=m)}) (λy=>[(0,.slice pad p.length pcap),(1,i4_ bu),(4,zp_ b_1 0),(7,zp_ A 0),(8,zp_ F 0),(9,zp_ d 0),(10,.slice aad (atS p).length acap),(11,zp_ a0 0),(12,i4_ n),(13,zp_ b_6 0),(60,.slice (some ⟨a3,0,none⟩) 4 4),(61,i4_ 4),(62,i4_ y.1.1)]) (λy=>((b_1,.cells #[.slice none 0 0,.slice none 0 0] 37 (0,0))::((a0,.cells #[.slice none 0 0,.slice (some ⟨a5,0,none⟩) 6 6,.slice (some ⟨a3,0,none⟩) 4 4,.slice (some ⟨a4,0,none⟩) 2 2] 98 (0,0))::((b_6,.cells #[i4_ f.kind,str f.a,str f.b,str f.r,i4_ f.lo,i4_ f.hi] 87 (0,0))::(T++(R++(P++(Q++(U++(S++y.1.2)))))))))) (λy=>[L_ (some ⟨a5,0,none⟩) (List.flatMap fvC (rlV g 1)),L_ (some ⟨a3,0,none⟩) (List.flatMap fvC (rlV g 2)),L_ (some ⟨a4,0,none⟩) (List.flatMap fvC (rlV g 3)),L_ aad (List.flatMap ar_ (atS p)),mlF prog 195 Ky.val Pc.cells pb (aC_ (uniq [] p)) adr,cf_ g (.cells #[.map (some pb),.slice lad (ap_ (uniq [] p)).length lcap,.map (some kb),.func (.func 29) #[] #[zp_ A 0,zp_ F 0,zp_ d 0],.map (some ab),.map (some ub),.map (some ob),.map (some ib),.map (some rb),.map (some sb),.map (some fb)] 94 (0,0)),cf_ F (.cells #[i4_ m] 3 (0,0)),cf_ A (.cells #[zp_ g 0] 84 (0,0)),L_ lad (List.flatMap ar_ (ap_ (uniq [] p))),L_ pad (p.flatMap Pc.cells),dA_]) (λy=>4 - y.1.1) ⟨((0:Nat),((d,.cells #[M] 35 (0,0))::(kb,.map K I)::([(fb,.map J N)]++H))),by omega,by exact⟨M,K,I,J,N,qf_1,H,rfl,O,hEk_1,hEf_1,hqf_1⟩,.inl rfl⟩ zl zp zh ?_;rintro ⟨⟨j,Hs⟩,hj,G,hjm⟩;dsimp only at hj G hjm ⊢;refine Zi 2 (λhr_5=>?_) λhr_5=>?_
     .have ej:j=4:=by omega
      have hjl:((rls (bm_ m) idk (aC_ (uniq [] p)) (Ix.add x (decide (f∈fm)) f) f j (q,fm)).1).length<=m:=hjm.resolve_left zaa_;rw[ej]at hjl G;refine Zz 12 ?_;exact C_ ⟨(n+1,(rls (bm_ m) idk (aC_ (uniq [] p)) (Ix.add x (decide (f∈fm)) f) f 4 (q,fm)).1,(rls (bm_ m) idk (aC_ (uniq [] p)) (Ix.add x (decide (f∈fm)) f) f 4 (q,fm)).2,(Ix.add x (decide (f∈fm)) f),T,R,P,Q,U,S,Hs),(jy_ L hL hf (by have e:nrl f=4:=(by unfold nrl;simp[hk]);rw[e]) zaa_),(by exact G),hI_1,(kj_ hz _ f)⟩ zab_ zl (m_ d_ (m_ d_ (G_ (c_ x_) (G_ (c_ x_) (G_ (c_ x_) (G_ (c_ x_) (G_ (c_ x_) (G_ (c_ x_) E_)))))))) zh
     have a6:j<List.length (rlV g 2):=by show j<4;omega
     obtain⟨fv,a2⟩:∃ e_1,(rlV g 2)[j]? = some e_1:=⟨_,yaa_ a6⟩;have hmfv:fv∈(rlV g 2):=yac_ a2;refine Zz 10 ?_;refine e_ (Y_ dZ_ fs_ rfl rfl (λv _ h=>az_ (n:=1) iS_ zac_ (by exact h.2.1) a2) zaa_ zaa_) rfl (e_ (bN_ (ad:=(some ⟨a3,0,none⟩)) isAgg89 rfl zf (y_ iS_ a2 0 _ rfl)) rfl (Zz 7 ?_));obtain⟨nr,rfl,hT⟩:=zo_ (EngB.mk g pb ab ub ob ib rb sb lad lcap (ap_ (uniq [] p))) (EA m hm (EngB.mk g pb ab ub ob ib rb sb lad lcap (ap_ (uniq [] p))) A F d kb fb) (EngA.mk adr (λ_=>(none,0)) (λ_=>(none,0)) (λ_=>(none,0)) (λ_=>(none,0)) (λ_=>(none,0)) (λ_=>(none,0))) (aC_ (uniq [] p)) (Ix.add x (decide (f∈fm)) f) f (rls (bm_ m) idk (aC_ (uniq [] p)) (Ix.add x (decide (f∈fm)) f) f j (q,fm)).1 (rls (bm_ m) idk (aC_ (uniq [] p)) (Ix.add x (decide (f∈fm)) f) f j (q,fm)).2 Hs G T R P Q U S hI_1 hpl hxl_1 hyl_1 (λhk=>(hN_ hform hk).2.2) (λ_ y hy=>(L y (pm9.1 hy).1).num (.inr (pm9.1 hy).2.1)) hk j a2;exact hh_
    refine e_ (aj_ (dk_ wD_ sizeOf97 rfl rfl zaa_ zaa_) (show _=zp_ a0 3 from by rw[hk];rfl)) rfl ?_;refine Zz 6 ?_;refine dO_ (H':=((b_1,.cells #[.slice none 0 0,.slice none 0 0] 37 (0,0))::((a0,.cells #[.slice none 0 0,.slice (some ⟨a5,0,none⟩) 6 6,.slice (some ⟨a3,0,none⟩) 4 4,.slice (some ⟨a4,0,none⟩) 2 2] 98 (0,0))::((b_6,.cells #[i4_ f.kind,str f.a,str f.b,str f.r,i4_ f.lo,i4_ f.hi] 87 (0,0))::(T++(R++(P++(Q++(U++(S++((d,.cells #[M] 35 (0,0))::(kb,.map K I)::([(fb,.map J N)]++H)))))))))))) (m_ (c_ (c_ (c_ d_))) (m_ (c_ (c_ (c_ d_))) (m_ (c_ (c_ d_)) (G_ (c_ (c_ x_)) (G_ (c_ (c_ x_)) (G_ (c_ (c_ x_)) (G_ (c_ (c_ x_)) (G_ (c_ (c_ x_)) (G_ (c_ (c_ x_)) (m_ d_ (m_ d_ (G_ x_ af_)))))))))))) (λv _ h=>h) ?_;refine I_ (ι:={y:Nat×Hp // y.1<=2/\((EA m hm (EngB.mk g pb ab ub ob ib rb sb lad lcap (ap_ (uniq [] p))) A F d kb fb)).St (rls (bm_ m) idk (aC_ (uniq [] p)) (Ix.add x (decide (f∈fm)) f) f y.1 (q,fm)).1 (rls (bm_ m) idk (aC_ (uniq [] p)) (Ix.add x (decide (f∈fm)) f) f y.1 (q,fm)).2 y.2/\(y.1=0\/((rls (bm_ m) idk (aC_ (uniq [] p)) (Ix.add x (decide (f∈fm)) f) f y.1 (q,fm)).1).length<=m)}) (λy=>[(0,.slice pad p.length pcap),(1,i4_ bu),(4,zp_ b_1 0),(7,zp_ A 0),(8,zp_ F 0),(9,zp_ d 0),(10,.slice aad (atS p).length acap),(11,zp_ a0 0),(12,i4_ n),(13,zp_ b_6 0),(60,.slice (some ⟨a4,0,none⟩) 2 2),(61,i4_ 2),(62,i4_ y.1.1)]) (λy=>((b_1,.cells #[.slice none 0 0,.slice none 0 0] 37 (0,0))::((a0,.cells #[.slice none 0 0,.slice (some ⟨a5,0,none⟩) 6 6,.slice (some ⟨a3,0,none⟩) 4 4,.slice (some ⟨a4,0,none⟩) 2 2] 98 (0,0))::((b_6,.cells #[i4_ f.kind,str f.a,str f.b,str f.r,i4_ f.lo,i4_ f.hi] 87 (0,0))::(T++(R++(P++(Q++(U++(S++y.1.2)))))))))) (λy=>[L_ (some ⟨a5,0,none⟩) (List.flatMap fvC (rlV g 1)),L_ (some ⟨a3,0,none⟩) (List.flatMap fvC (rlV g 2)),L_ (some ⟨a4,0,none⟩) (List.flatMap fvC (rlV g 3)),L_ aad (List.flatMap ar_ (atS p)),mlF prog 195 Ky.val Pc.cells pb (aC_ (uniq [] p)) adr,cf_ g (.cells #[.map (some pb),.slice lad (ap_ (uniq [] p)).length lcap,.map (some kb),.func (.func 29) #[] #[zp_ A 0,zp_ F 0,zp_ d 0],.map (some ab),.map (some ub),.map (some ob),.map (some ib),.map (some rb),.map (some sb),.map (some fb)] 94 (0,0)),cf_ F (.cells #[i4_ m] 3 (0,0)),cf_ A (.cells #[zp_ g 0] 84 (0,0)),L_ lad (List.flatMap ar_ (ap_ (uniq [] p))),L_ pad (p.flatMap Pc.cells),dA_]) (λy=>2 - y.1.1) ⟨((0:Nat),((d,.cells #[M] 35 (0,0))::(kb,.map K I)::([(fb,.map J N)]++H))),by omega,by exact⟨M,K,I,J,N,qf_1,H,rfl,O,hEk_1,hEf_1,hqf_1⟩,.inl rfl⟩ zl zp zh ?_;rintro ⟨⟨j,Hs⟩,hj,G,hjm⟩;dsimp only at hj G hjm ⊢;refine Zi 2 (λhr_5=>?_) λhr_5=>?_
    .have ej:j=2:=by omega
     have hjl:((rls (bm_ m) idk (aC_ (uniq [] p)) (Ix.add x (decide (f∈fm)) f) f j (q,fm)).1).length<=m:=hjm.resolve_left zaa_;rw[ej]at hjl G;refine Zz 12 ?_;exact C_ ⟨(n+1,(rls (bm_ m) idk (aC_ (uniq [] p)) (Ix.add x (decide (f∈fm)) f) f 2 (q,fm)).1,(rls (bm_ m) idk (aC_ (uniq [] p)) (Ix.add x (decide (f∈fm)) f) f 2 (q,fm)).2,(Ix.add x (decide (f∈fm)) f),T,R,P,Q,U,S,Hs),(jy_ L hL hf (by have e:nrl f=2:=(by unfold nrl;simp[hk]);rw[e]) zaa_),(by exact G),hI_1,(kj_ hz _ f)⟩ zab_ zl (m_ d_ (m_ d_ (G_ (c_ x_) (G_ (c_ x_) (G_ (c_ x_) (G_ (c_ x_) (G_ (c_ x_) (G_ (c_ x_) E_)))))))) zh
    have a6:j<List.length (rlV g 3):=by show j<2;omega
    obtain⟨fv,a2⟩:∃ e_1,(rlV g 3)[j]? = some e_1:=⟨_,yaa_ a6⟩;have hmfv:fv∈(rlV g 3):=yac_ a2;refine Zz 10 ?_;refine e_ (Y_ dZ_ fs_ rfl rfl (λv _ h=>az_ (n:=1) iS_ zac_ (by exact h.2.2.1) a2) zaa_ zaa_) rfl (e_ (bN_ (ad:=(some ⟨a4,0,none⟩)) isAgg89 rfl zf (y_ iS_ a2 0 _ rfl)) rfl (Zz 7 ?_));obtain⟨nr,rfl,hT⟩:=zn_ (EngB.mk g pb ab ub ob ib rb sb lad lcap (ap_ (uniq [] p))) (EA m hm (EngB.mk g pb ab ub ob ib rb sb lad lcap (ap_ (uniq [] p))) A F d kb fb) (EngA.mk adr (λ_=>(none,0)) (λ_=>(none,0)) (λ_=>(none,0)) (λ_=>(none,0)) (λ_=>(none,0)) (λ_=>(none,0))) (aC_ (uniq [] p)) (Ix.add x (decide (f∈fm)) f) f (rls (bm_ m) idk (aC_ (uniq [] p)) (Ix.add x (decide (f∈fm)) f) f j (q,fm)).1 (rls (bm_ m) idk (aC_ (uniq [] p)) (Ix.add x (decide (f∈fm)) f) f j (q,fm)).2 Hs G T R P Q U S hI_1 hpl hxl_1 hyl_1 (λhk=>(hN_ hform hk).2.2) (λ_ y hy=>(L y (pm9.1 hy).1).num (.inr (pm9.1 hy).2.1)) hk j a2;exact hh_
   refine Zz 6 ?_;exact jI_
  refine Zz 9 ?_;exact jI_
 refine Zz 5 ?_;refine e_ (w_ jp_ rfl rfl) rfl (Zz 1 ?_);refine n_ 0 aW_ rfl rfl rfl rfl rfl rfl (Zz 4 ?_);exact dI_ ⟨((Cl.mk [] none 0 [] none 0),(bq_ p)),yu_ zae_⟩ (λaa v C B=>dS_ (us:=Cl.cells (Cl.mk [] none 0 [] none 0)) 0 io_ gl_ aW_ rfl rfl rfl rfl aa v C B) i_ (λv _ h=>by exact⟨.inl rfl,.inl rfl,trivial⟩)
theorem zt_ {α:Type} {lt:α->α->Prop} (B:∀ {x y z},lt x y->lt y z->lt x z) {l:List α} {k:Nat} {a b:α} (h:(l.take (k+1)).Pairwise lt) (A:l[k]? = some a) (C:l[k+1]? = some b) (m:lt a b):(l.take (k+2)).Pairwise lt:=by
 rw[yao_,C,yaC_,ycH_];refine⟨h,by simp,λx d y v=>?_⟩;rw[yak_]at v;subst v;rw[yao_,A,yaC_]at h d;rcases yag_.1 d with d|d
 .exact B ((ycH_.1 h).2.2 x d a zai_) m
 rw[yak_]at d;subst d;exact m
theorem pw_not {α:Type} {lt:α->α->Prop} {l:List α} {k:Nat} {a b:α} (m:l[k]? = some a) (B:l[k+1]? = some b) (d:¬ lt a b):¬ l.Pairwise lt:=λh=>by
  obtain⟨y,v⟩:=yab_.1 m;obtain⟨A,x⟩:=yab_.1 B;have:=yaN_.1 h k (k+1) y A zaa_;rw[v,x]at this;exact d this
theorem pw_one {α:Type} {lt:α->α->Prop} (l:List α):(l.take 1).Pairwise lt:=by
  cases l<;>simp
def ob_ (fs:List Fc) (f:Fc):Bool:=fs.any λx=>(decide (x=f)||decide (x=Q_ f.a [33]))||((decide (f=ag_ f.a f.r f.lo f.hi)&&decide (x=ag_ f.a f.r x.lo x.hi))&&(decide (f.lo<=x.lo)&&decide (x.hi<=f.hi)))
def nM_ (f x:Fc):Bool:=(decide (x=f)||decide (x=Q_ f.a [33]))||((decide (f=ag_ f.a f.r f.lo f.hi)&&decide (x=ag_ f.a f.r x.lo x.hi))&&(decide (f.lo<=x.lo)&&decide (x.hi<=f.hi)))
theorem any_no {α:Type} {p:α->Bool} {l:List α} {j:Nat} {x:α} (h:∀ y∈l.take j,p y=false) (v:l[j]? = some x) (m:p x=false):∀ y∈l.take (j+1),p y=false:=λy d=>by
 rw[yao_,v]at d;simp only[yaC_,yag_,yak_]at d;rcases d with d|rfl
 .exact h y d
 exact m
theorem uq_ {α:Type} {p:α->Bool} {l:List α} {j:Nat} (h:∀ y∈l.take j,p y=false) (d:l.length<=j):false=l.any p:=by
  rw[yad_ d]at h
  symm;rw[ycY_];exact λy m=>by simp[h y m]
theorem iE_ {α:Type} {p:α->Bool} {l:List α} {x:α} (m:x∈l) (d:p x=true):true=l.any p:=(ycl_.2 ⟨x,m,d⟩).symm
theorem AS_ (c:Cl) (f:Fc) (hf:c.facts.length<=1000000000000):Tri prog 99 #[Cl.val c,Fc.val f] [] [L_ c.fad (c.facts.flatMap Fc.cells)] (λ_:Unit=>.bool (ob_ c.facts f)) (λ_=>[]) (λ_=>[]):=by
 refine g_ func99 rfl rfl ntmps99 rfl λZ=>?_;refine Zz 2 ?_;refine F_ rfl rfl λQ=>F_ rfl rfl λP=>Zz 7 ?_
 refine f_ (fU_ f.a [33]) rfl i_ zt rfl λ_=>u_ W_ rfl λR=>n_ 0 N_ rfl rfl rfl rfl rfl rfl (Zz 4 ?_)
 refine s_ 3 [0,1,2,3,4,5,6,7,8] zk zs (Zz 10 ?_);refine l_ 9 rfl zk (f_ (mS_ f.a f.r f.lo f.hi) rfl i_ zt rfl λ_=>Zz 3 ?_);refine s_ 0 [10,11] zk zs (ef_ rfl (cL_ (p:=f) (q:=(ag_ f.a f.r f.lo f.hi)) rfl rfl) rfl λW v=>Zz 14 ?_);cases W
 .replace v:=zdf v
  refine I_ (ι:={y:Nat // y<=List.length c.facts/\∀ z∈List.take y c.facts,nM_ f z=false}) (λy=>[(2,zp_ Q 0),(3,zp_ P 0),(5,zp_ R 0),(6,.bool false),(24,.slice c.fad c.facts.length c.fcap),(25,i4_ (List.length c.facts:Int)),(26,i4_ y.1)]) (λy=>((R,.cells #[i4_ (Fc.kind (Q_ f.a [33])),str (Fc.a (Q_ f.a [33])),str (Fc.b (Q_ f.a [33])),str (Fc.r (Q_ f.a [33])),i4_ (Fc.lo (Q_ f.a [33])),i4_ (Fc.hi (Q_ f.a [33]))] 87 (0,0))::((P,.cells #[i4_ f.kind,str f.a,str f.b,str f.r,i4_ f.lo,i4_ f.hi] 87 (0,0))::((Q,.cells #[.slice c.aad c.atoms.length c.acap,.slice c.fad c.facts.length c.fcap] 37 (0,0))::[])))) (λy=>[L_ c.fad (c.facts.flatMap Fc.cells)]) (λy=>c.facts.length - y.1) ⟨(0:Nat),by simp,by simp⟩ zl zp zh ?_;rintro ⟨j,Y,E⟩;dsimp only at Y E ⊢;refine Zi 2 (λx=>?_) λx=>?_
  .refine Zz 12 ?_
   exact ac_ in_ () (p_ rfl (uq_ E zaa_)) i_ zt
  obtain⟨I,J,K,G⟩:=zge (show j<c.facts.length by omega);refine Zz 12 ?_;refine u_ W_ rfl λV=>n_ 0 N_ rfl rfl rfl rfl rfl rfl (Zz 7 ?_)
  refine P_ (cL_ (p:=J) (q:=f) rfl rfl) rfl λT d=>Zz 1 ?_
  cases T
  .replace d:=zdf d
   refine Zz 5 ?_;refine P_ (cL_ (p:=J) (q:=(Q_ f.a [33])) rfl rfl) rfl λU m=>Zz 3 ?_
   cases U
   .replace m:=zdf m
    refine Zz 5 ?_;refine s_ 0 [0,1,2,3,4,5,6,7,8,9,10,11,12,13,14,15,16,17,18,19,20,21,22,23,24,25,26,27] zk zs (Zz 39 ?_);exact C_ ⟨j+1,I,any_no E K (by have B:=yci_ v;have C:=yce_ x;have A:=yci_ d;have F:=yci_ m;simp[nM_,B,C,A,F])⟩ zab_ zl (m_ (c_ d_) (m_ (c_ d_) (c_ d_))) zh
   replace m:=zdt m;refine Zz 7 ?_;exact ac_ in_ () (p_ rfl (iE_ G (by have B:=yci_ v;have C:=yce_ x;have A:=yci_ d;have F:=yce_ m;simp[nM_,B,C,A,F]))) i_ zt
  replace d:=zdt d;refine Zz 13 ?_;exact ac_ in_ () (p_ rfl (iE_ G (by have B:=yci_ v;have C:=yce_ x;have A:=yce_ d;simp[nM_,B,C,A]))) i_ zt
 replace v:=zdt v;refine I_ (ι:={y:Nat // y<=List.length c.facts/\∀ z∈List.take y c.facts,nM_ f z=false}) (λy=>[(2,zp_ Q 0),(3,zp_ P 0),(5,zp_ R 0),(6,.bool true),(24,.slice c.fad c.facts.length c.fcap),(25,i4_ (List.length c.facts:Int)),(26,i4_ y.1)]) (λy=>((R,.cells #[i4_ (Fc.kind (Q_ f.a [33])),str (Fc.a (Q_ f.a [33])),str (Fc.b (Q_ f.a [33])),str (Fc.r (Q_ f.a [33])),i4_ (Fc.lo (Q_ f.a [33])),i4_ (Fc.hi (Q_ f.a [33]))] 87 (0,0))::((P,.cells #[i4_ f.kind,str f.a,str f.b,str f.r,i4_ f.lo,i4_ f.hi] 87 (0,0))::((Q,.cells #[.slice c.aad c.atoms.length c.acap,.slice c.fad c.facts.length c.fcap] 37 (0,0))::[])))) (λy=>[L_ c.fad (c.facts.flatMap Fc.cells)]) (λy=>c.facts.length - y.1) ⟨(0:Nat),by simp,by simp⟩ zl zp zh ?_;rintro ⟨j,Y,E⟩;dsimp only at Y E ⊢;refine Zi 2 (λx=>?_) λx=>?_
 .refine Zz 12 ?_
  exact ac_ in_ () (p_ rfl (uq_ E zaa_)) i_ zt
 obtain⟨I,J,K,G⟩:=zge (show j<c.facts.length by omega);refine Zz 12 ?_;refine u_ W_ rfl λV=>n_ 0 N_ rfl rfl rfl rfl rfl rfl (Zz 7 ?_)
 refine P_ (cL_ (p:=J) (q:=f) rfl rfl) rfl λT d=>Zz 1 ?_
 cases T
 .replace d:=zdf d
  refine Zz 5 ?_;refine P_ (cL_ (p:=J) (q:=(Q_ f.a [33])) rfl rfl) rfl λU m=>Zz 3 ?_
  cases U
  .replace m:=zdf m
   refine Zz 5 ?_;refine s_ 17 [0,1,2,3,4,5,6,7,8,9,10] zk zs (Zz 12 ?_);refine l_ 11 rfl zk (aP_ rfl rfl (f_ (mS_ f.a f.r J.lo J.hi) rfl i_ zt rfl λ_=>Zz 3 ?_));refine s_ 13 [12,13,14] zk zs (dq_ rfl rfl rfl (cL_ (p:=J) (q:=(ag_ f.a f.r J.lo J.hi)) rfl rfl) rfl λX H=>Zz 3 ?_);cases X
   .replace H:=zdf H
    refine s_ 0 [15,16,17,18,19,20,21,22,23,24,25,26,27] zk zs (Zz 24 ?_);exact C_ ⟨j+1,I,any_no E K (by have B:=yce_ v;have C:=yce_ x;have A:=yci_ d;have F:=yci_ m;have L:=yci_ H;simp[nM_,B,C,A,F,L])⟩ zab_ zl (m_ (c_ d_) (m_ (c_ d_) (c_ d_))) zh
   replace H:=zdt H;refine s_ 6 [15,16,17,18,19,20,21] zk zs (Zi 4 (λM=>?_) λM=>?_)
   .refine Zz 3 ?_
    refine s_ 0 [22,23,24,25,26,27] zk zs (Zz 17 ?_);exact C_ ⟨j+1,I,any_no E K (by have B:=yce_ v;have C:=yce_ x;have A:=yci_ d;have F:=yci_ m;have L:=yce_ H;have N:=yci_ M;simp[nM_,B,C,A,F,L,N])⟩ zab_ zl (m_ (c_ d_) (m_ (c_ d_) (c_ d_))) zh
   refine Zz 3 ?_;refine s_ 0 [22,23,24,25,26,27] zk zs (Zi 4 (λO=>?_) λO=>?_)
   .refine Zz 12 ?_
    exact C_ ⟨j+1,I,any_no E K (by have B:=yce_ v;have C:=yce_ x;have A:=yci_ d;have F:=yci_ m;have L:=yce_ H;have N:=yce_ M;have S:=yci_ O;simp[nM_,B,C,A,F,L,N,S])⟩ zab_ zl (m_ (c_ d_) (m_ (c_ d_) (c_ d_))) zh
   refine Zz 11 ?_;exact ac_ in_ () (p_ rfl (iE_ G (by have B:=yce_ v;have C:=yce_ x;have A:=yci_ d;have F:=yci_ m;have L:=yce_ H;have N:=yce_ M;have S:=yce_ O;simp[nM_,B,C,A,F,L,N,S]))) i_ zt
  replace m:=zdt m;refine Zz 7 ?_;exact ac_ in_ () (p_ rfl (iE_ G (by have B:=yce_ v;have C:=yce_ x;have A:=yci_ d;have F:=yce_ m;simp[nM_,B,C,A,F]))) i_ zt
 replace d:=zdt d;refine Zz 13 ?_;exact ac_ in_ () (p_ rfl (iE_ G (by have B:=yce_ v;have C:=yce_ x;have A:=yce_ d;simp[nM_,B,C,A]))) i_ zt
theorem zj_ (l m:List Str) (ad F:Ao) (cap A:Nat) (hl:l.length<=1000000000000) (hm:m.length<=1000000000000):Tri prog 36 #[.slice ad l.length cap,.slice F m.length A] [] [L_ ad (l.flatMap ar_),L_ F (m.flatMap ar_)] (λ_:Unit=>.bool (decide (l=m))) (λ_=>[]) (λ_=>[]):=by
 refine g_ func36 rfl rfl ntmps36 rfl λK=>?_;refine Zi 12 (λE=>?_) λE=>?_
 .refine Zz 12 ?_
  refine I_ (ι:={y:Nat // y<=l.length/\l.take y=m.take y}) (λy=>[(0,.slice ad l.length cap),(1,.slice F m.length A),(5,i4_ y.1)]) (λy=>([])) (λy=>[L_ ad (l.flatMap ar_),L_ F (m.flatMap ar_)]) (λy=>l.length - y.1) ⟨(0:Nat),by simp,by simp⟩ zl i_ zh ?_;rintro ⟨i,hi,J⟩;dsimp only at hi J ⊢;have L:l.length=m.length:=by omega
  refine Zi 6 (λC=>?_) λC=>?_
  .refine Zz 11 ?_
   exact ac_ results36 () (p_ rfl (by symm;apply yaE_;rwa [yad_ zaa_,yad_ zaa_]at J)) i_ zt
  have d:i<l.length:=by omega
  obtain⟨M,v⟩:∃ G,l[i]? = some G:=⟨_,yaa_ d⟩;obtain⟨H,N,x,I⟩:=zge (show i<m.length by omega);refine Zz 9 ?_;refine s_ 0 [0,1,2,3,4,5,6,7,8] zk zs (Zi 8 (λB=>?_) λB=>?_)
  .refine Zz 12 ?_
   exact C_ ⟨i+1,d,by rw[yao_,v,yao_,x,J];simp_all⟩ zab_ zl i_ zh
  refine Zz 10 ?_;exact ac_ results36 () (p_ rfl (by symm;apply ybi_;intro e;subst e;rw[v]at x;simp_all)) i_ zt
 refine Zz 9 ?_;exact ac_ results36 () (p_ rfl zbC_) i_ zt
theorem zk_ (l m:List Fc) (ad F:Ao) (cap B:Nat) (hl:l.length<=1000000000000) (hm:m.length<=1000000000000):Tri prog 37 #[.slice ad l.length cap,.slice F m.length B] [] [L_ ad (l.flatMap Fc.cells),L_ F (m.flatMap Fc.cells)] (λ_:Unit=>.bool (decide (l=m))) (λ_=>[]) (λ_=>[]):=by
 refine g_ func37 rfl rfl ntmps37 rfl λN=>?_;refine Zi 12 (λE=>?_) λE=>?_
 .refine Zz 12 ?_
  refine I_ (ι:={y:Nat // y<=l.length/\l.take y=m.take y}) (λy=>[(0,.slice ad l.length cap),(1,.slice F m.length B),(5,i4_ y.1)]) (λy=>([])) (λy=>[L_ ad (l.flatMap Fc.cells),L_ F (m.flatMap Fc.cells)]) (λy=>l.length - y.1) ⟨(0:Nat),by simp,by simp⟩ zl i_ zh ?_;rintro ⟨i,hi,K⟩;dsimp only at hi K ⊢;have O:l.length=m.length:=by omega
  refine Zi 6 (λC=>?_) λC=>?_
  .refine Zz 11 ?_
   exact ac_ results37 () (p_ rfl (by symm;apply yaE_;rwa [yad_ zaa_,yad_ zaa_]at K)) i_ zt
  have v:i<l.length:=by omega
  obtain⟨J,x⟩:∃ G,l[i]? = some G:=⟨_,yaa_ v⟩;obtain⟨H,L,A,I⟩:=zge (show i<m.length by omega);refine Zz 9 ?_;refine s_ 0 [0,1,2,3,4,5,6,7,8] zk zs (Zz 8 ?_);refine ef_ rfl (fI_ (p:=J) (q:=L) rfl rfl) rfl λM d=>Zz 3 ?_
  cases M
  .replace d:=zdf d
   refine Zz 9 ?_;exact C_ ⟨i+1,v,by rw[yao_,x,yao_,A,K];simp_all⟩ zab_ zl i_ zh
  replace d:=zdt d;refine Zz 7 ?_;exact ac_ results37 () (p_ rfl (by symm;apply ybi_;intro e;subst e;rw[x]at A;simp_all)) i_ zt
 refine Zz 9 ?_;exact ac_ results37 () (p_ rfl zbC_) i_ zt
theorem zl_ (c d:Cl) (H:c.atoms.length<=1000000000000) (F:c.facts.length<=1000000000000) (I:d.atoms.length<=1000000000000) (G:d.facts.length<=1000000000000):Tri prog 12 #[Cl.val c,Cl.val d] [] [L_ c.aad (c.atoms.flatMap ar_),L_ c.fad (c.facts.flatMap Fc.cells),L_ d.aad (d.atoms.flatMap ar_),L_ d.fad (d.facts.flatMap Fc.cells)] (λ_:Unit=>.bool (decide (c.atoms=d.atoms)&&decide (c.facts=d.facts))) (λ_=>[]) (λ_=>[]):=by
 refine g_ func12 rfl rfl ntmps12 rfl λA=>?_;refine Zz 2 ?_;refine F_ rfl rfl λC=>F_ rfl rfl λE=>Zz 9 ?_
 refine aa_ (zj_ c.atoms d.atoms c.aad d.aad c.acap d.acap zaa_ zaa_) rfl i_ zf rfl λy m=>Zz 1 ?_
 cases y
 .replace m:=zdf m
  refine Zz 10 ?_;exact ac_ results12 () (p_ rfl (by have v:=yci_ m;simp[v])) i_ zt
 replace m:=zdt m;refine Zz 9 ?_;refine aa_ (zk_ c.facts d.facts c.fad d.fad c.fcap d.fcap zaa_ zaa_) rfl i_ zf rfl λB x=>Zz 5 ?_
 exact ac_ results12 () (p_ rfl (by have v:=yce_ m;rw[<-x];simp[v])) i_ zt
theorem AB_ (p:List Pc):[42]∈atS p:=(kz_ p _).2 (.inr (.inl rfl))
theorem AC_ (p:List Pc):[33]∈atS p:=(kz_ p _).2 (.inr (.inr rfl))
theorem at_of {p:List Pc} {x:Pc} (m:x∈p) {s:Str} (d:s=x.a\/s=x.b\/s=x.c) (v:s≠[]):s∈atS p:=by
  refine (kz_ p s).2 (.inl ((gg_ p s).2 ?_));refine yar_.2 ⟨x,m,ybh_.2 ⟨?_,by simpa using v⟩⟩;rcases d with rfl|rfl|rfl<;>simp
theorem cC_.good {p:List Pc} {m:Int} {c:Cl} (h:cC_ p m c 0):bq_ p=0/\0<=m/\m<=1073741824/\c.ok/\c.atoms=atS p/\fr_ p (atS p) (min m 65536).toNat (some c.facts):=by
 unfold cC_ at h
 split at h
 .rename_i d;exact absurd h.2.symm d
 rename_i d
 split at h
 .exact absurd h.2 zac_
 rename_i v
 rcases h with h|h
 .exact⟨by simpa using d,by omega,by omega,h.2⟩
 have:=h.2.1;split at this<;>exact absurd this zac_
theorem cC_.bad {p:List Pc} {d:Int} {c:Cl} {e:Int} (h:cC_ p d c e) (m:e≠0):c=Cl.no:=by
 unfold cC_ at h
 split at h
 .exact h.1
 split at h
 .exact h.1
 rcases h with h|h
 .exact absurd h.1 m
 exact h.1
theorem cC_.ok {p:List Pc} {m:Int} {c:Cl} {e:Int} (h:cC_ p m c e):c.ok:=by
 by_cases d:e=0
 .subst d;exact h.good.2.2.2.1
 rw[h.bad d];exact Cl.no_ok
theorem cC_.len {p:List Pc} {x:Int} {c:Cl} {e:Int} (h:cC_ p x c e):c.atoms.length<=3*p.length+2/\c.facts.length<=65536:=by
 by_cases v:e=0
 .subst v
  obtain⟨_,_,_,_,d,m⟩:=h.good;refine⟨by rw[d];exact qf_ p,?_⟩;have:=m.2.2;omega
 rw[h.bad v];simp[Cl.no]
theorem qh_ {p:List Pc} {x:Int} {c:Cl} {e:Int} {r:Option (List Fc)} (h:cC_ p x c e) (E:bq_ p=0) (F:0<=x) (C:x<=1073741824) (B:fr_ p (atS p) (min x 65536).toNat r):(∀ L,r=some L->e=0/\c.facts=L/\c.atoms=atS p)/\(r=none->c=Cl.no/\e=if x<65536 then 3 else 2):=by
 unfold cC_ at h;rw[yaf_ (by simp[E]),yaf_ zaa_]at h;rcases h with⟨m,v,d,y⟩|⟨m,v,d⟩
 .have e:=fr_.uniq y B
  subst e;exact⟨λL A=>⟨m,ybk_ A,d⟩,λh=>(by cases h)⟩
 have e:=fr_.uniq d B;subst e;exact⟨λL A=>(by cases A),λ_=>⟨m,v⟩⟩
def iG_ (p q:List Pc):Prop:=∀ x∈p,∃ y∈q,∃ n,{ y with frm:=n }=x
theorem iG_.at' {p q:List Pc} (h:iG_ p q):∀ s∈atS p,s∈atS q:=λs m=>by
 rw[kz_,gg_]at m ⊢;rcases m with d|d
 .obtain⟨x,B,v⟩:=yar_.1 d
  obtain⟨y,A,n,e⟩:=h x B;subst e;exact .inl (yar_.2 ⟨y,A,v⟩)
 exact .inr d
theorem iG_.der {p q:List Pc} (h:iG_ p q) {y:Fc} (d:Der p (atS p) y):Der q (atS q) y:=d.mono h h.at'
theorem iG_.atS_eq {p q:List Pc} (h:iG_ p q) (d:iG_ q p):atS p=atS q :=
  hr_ pk_ ycq_ (tt_ p) (tt_ q) λx=>⟨h.at' x,d.at' x⟩
theorem fr_.congrP {p q:List Pc} {m:Nat} {r:Option (List Fc)} (h:iG_ p q) (v:iG_ q p) (d:fr_ p (atS p) m r):fr_ q (atS q) m r:=by
  cases r with
  | none=>obtain⟨M,B,x,C⟩:=d;exact⟨M,B,λy A=>h.der (x y A),C⟩
  | some L=>exact⟨d.1,λy=>(d.2.1 y).trans ⟨h.der,v.der⟩,d.2.2⟩
theorem tm_ {p q:List Pc} (d:bq_ p=0) (hl:q.length<=p.length) (h:∀ x∈q,x∈p):bq_ q=0:=by
  obtain⟨y,m⟩:=kv_ d;unfold bq_;rw[yaf_ zaa_,yaq_ (yaQ_.2 λx v=>yaQ_.1 m x (h x v))]
theorem ut_ {p:List Pc} {d:Int} {c:Cl} {e:Int} (h:cC_ p d c e) (A:bq_ p=0) (B:0<=d) (m:d<=1073741824):(e=0/\c.atoms=atS p/\fr_ p (atS p) (min d 65536).toNat (some c.facts))\/(c=Cl.no/\e=(if d<65536 then 3 else 2)/\fr_ p (atS p) (min d 65536).toNat none):=by
 unfold cC_ at h;rw[yaf_ zbu_,yaf_ zaa_]at h;rcases h with⟨x,_,v,y⟩|h
 .exact .inl ⟨x,v,y⟩
 exact .inr h
theorem vR_ {p q:List Pc} {C:Int} {c d:Cl} {e f:Int} (h:iG_ p q) (G:iG_ q p) (J:cC_ p C c e) (I:cC_ q C d f) (K:bq_ p=0) (H:bq_ q=0) (E:0<=C) (y:C<=1073741824):c.atoms=d.atoms/\c.facts=d.facts/\e=f:=by
 rcases ut_ J K E y with⟨A,m,x⟩|⟨A,m,x⟩
 .obtain⟨v,B,F⟩:=(qh_ I H E y (fr_.congrP h G x)).1 _ rfl
  exact⟨by rw[m,F,h.atS_eq G],B.symm,by rw[A,v]⟩
 obtain⟨v,B⟩:=(qh_ I H E y (fr_.congrP h G x)).2 rfl;subst A v;exact⟨rfl,rfl,by rw[m,B]⟩
theorem iG_.trans {p q r:List Pc} (h:iG_ p q) (k:iG_ q r):iG_ p r:=λx v=>by
  obtain⟨y,d,n,rfl⟩:=h x v;obtain⟨z,A,m,rfl⟩:=k y d;exact⟨z,A,n,rfl⟩
end Go.Proofs.YtfjcabalehamcaaGreatDoor
