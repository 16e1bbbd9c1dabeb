/-
  Lemmas for the law CanonTells (no condition).
-/
import Derived.Test.YtbffkokbdeppaaaGreatDoorQCanonTells6
set_option linter.unusedVariables false
set_option linter.unusedSimpArgs false
set_option linter.unusedSectionVars false
set_option maxHeartbeats 1000000
namespace Go.Vs
open Go Go.Sx
def X_ (a b:Str):Fc:=⟨1,a,b,[],0,0⟩
def ae_ (a r b:Str):Fc:=⟨2,a,b,r,0,0⟩
def an_ (a r:Str) (lo hi:Int):Fc:=⟨3,a,[],r,lo,hi⟩
inductive One (p:List Pc) (A:List Str) (S:Fc->Prop) (M:Fc->Fc->Prop):Fc->Prop
  | r1 {a:Str} (h:a∈A):One p A S M (X_ a a)
  | r2 {a:Str} (h:a∈A):One p A S M (X_ a [42])
  | r10 {a:Str} {x:Pc} (hx:x∈p) (hk:x.kind=7) (h:a∈A):One p A S M (ae_ a x.r a)
  | r3 {a:Str} {x:Pc} (hx:x∈p) (hk:x.kind=1) (h:S (X_ a x.a)):One p A S M (X_ a x.c)
  | r4 {a:Str} {x:Pc} (hx:x∈p) (hk:x.kind=2) (h:S (X_ a x.a)) (h':S (X_ a x.b)):One p A S M (X_ a x.c)
  | r5 {a:Str} {x:Pc} (hx:x∈p) (hk:x.kind=3) (h:S (X_ a x.a)):One p A S M (ae_ a x.r x.c)
  | r6 {a b:Str} {x:Pc} (hx:x∈p) (hk:x.kind=5) (h:S (ae_ a x.r b)):One p A S M (ae_ a x.t b)
  | r7 {a b c:Str} {x:Pc} (hx:x∈p) (hk:x.kind=6) (h:S (ae_ a x.r b)) (h':S (ae_ b x.s c)):One p A S M (ae_ a x.t c)
  | r8 {a b:Str} {x:Pc} (hx:x∈p) (hk:x.kind=4) (h:S (ae_ a x.r b)) (h':S (X_ b x.a)):One p A S M (X_ a x.c)
  | r9 {a r b:Str} (h:S (ae_ a r b)) (h':S (X_ b [33])):One p A S M (X_ a [33])
  | r11 {a:Str} {x:Pc} (hx:x∈p) (hk:x.kind=8) (h:S (X_ a x.a)):One p A S M (an_ a x.r x.lo x.hi)
  | r12 {a r:Str} {lo hi lo' hi':Int} (h:S (an_ a r lo hi)) (h':S (an_ a r lo' hi')) (hm:M (an_ a r lo hi) (an_ a r lo' hi')) (hl:max lo lo'<=min hi hi'):One p A S M (an_ a r (max lo lo') (min hi hi'))
  | r13 {a r:Str} {lo hi lo' hi':Int} (h:S (an_ a r lo hi)) (h':S (an_ a r lo' hi')) (hm:M (an_ a r lo hi) (an_ a r lo' hi')) (hl:min hi hi'<max lo lo'):One p A S M (X_ a [33])
  | r14 {a:Str} {lo hi:Int} {x:Pc} (hx:x∈p) (hk:x.kind=9) (h:S (an_ a x.r lo hi)) (h1:x.lo<=lo) (h2:hi<=x.hi):One p A S M (X_ a x.c)
abbrev hX_ (p:List Pc) (A:List Str) (S:Fc->Prop):Fc->Prop:=One p A S (λ_ _=>True)
theorem One.mono {p v:List Pc} {A E:List Str} {S q:Fc->Prop} {M C:Fc->Fc->Prop} (e:∀ x∈p,∃ y∈v,∃ n,{ y with frm:=n }=x) (m:∀ a∈A,a∈E) (hS:∀ y,S y->q y) (B:∀ x y,M x y->C x y) {y:Fc} (h:One p A S M y):One v E q C y:=by
  cases h with
  | r1 h=>exact .r1 (m _ h)
  | r2 h=>exact .r2 (m _ h)
  | r10 hx hk h=>obtain⟨z,d,n,rfl⟩:=e _ hx;exact One.r10 (x:=z) d hk (m _ h)
  | r3 hx hk h=>obtain⟨z,d,n,rfl⟩:=e _ hx;exact One.r3 (x:=z) d hk (hS _ h)
  | r4 hx hk h h'=>obtain⟨z,d,n,rfl⟩:=e _ hx;exact One.r4 (x:=z) d hk (hS _ h) (hS _ h')
  | r5 hx hk h=>obtain⟨z,d,n,rfl⟩:=e _ hx;exact One.r5 (x:=z) d hk (hS _ h)
  | r6 hx hk h=>obtain⟨z,d,n,rfl⟩:=e _ hx;exact One.r6 (x:=z) d hk (hS _ h)
  | r7 hx hk h h'=>obtain⟨z,d,n,rfl⟩:=e _ hx;exact One.r7 (x:=z) d hk (hS _ h) (hS _ h')
  | r8 hx hk h h'=>obtain⟨z,d,n,rfl⟩:=e _ hx;exact One.r8 (x:=z) d hk (hS _ h) (hS _ h')
  | r9 h h'=>exact .r9 (hS _ h) (hS _ h')
  | r11 hx hk h=>obtain⟨z,d,n,rfl⟩:=e _ hx;exact One.r11 (x:=z) d hk (hS _ h)
  | r12 h h' hm hl=>exact .r12 (hS _ h) (hS _ h') (B _ _ hm) hl
  | r13 h h' hm hl=>exact .r13 (hS _ h) (hS _ h') (B _ _ hm) hl
  | r14 hx hk h h1 h2=>obtain⟨z,d,n,rfl⟩:=e _ hx;exact One.r14 (x:=z) d hk (hS _ h) h1 h2
def Der (p:List Pc) (A:List Str) (y:Fc):Prop:=∀ T:Fc->Prop,(∀ y,hX_ p A T y->T y)->T y
theorem Der.step {p:List Pc} {A:List Str} {y:Fc} (h:hX_ p A (Der p A) y):Der p A y :=
  λT d=>d y (h.mono (λx e=>⟨x,e,x.frm,rfl⟩) (λ_ h=>h) (λz m=>m T d) (λ_ _ h=>h))
theorem Der.mono {p d:List Pc} {A e:List Str} (m:∀ x∈p,∃ y∈d,∃ n,{ y with frm:=n }=x) (q:∀ a∈A,a∈e) {y:Fc} (h:Der p A y):Der d e y :=
  h _ λ_ v=>Der.step (v.mono m q (λ_ h=>h) (λ_ _ h=>h))
theorem Der.least {p:List Pc} {A:List Str} {T:Fc->Prop} (d:∀ y,hX_ p A T y->T y) {y:Fc} (h:Der p A y):T y:=h T d
structure Ky where
  kind:Int
  role:Str
  atom:Str
deriving DecidableEq
abbrev kt_:=Str×Str
def lat {K D:Type} [DecidableEq K] (l:List (K×D)) (k:K):List D:=(l.filter λe=>decide (e.1=k)).map (·.2)
theorem cb_ {K D:Type} [DecidableEq K] {l:List (K×D)} {k:K} {d:D}:d∈lat l k↔(k,d)∈l:=by
  unfold lat;simp only[yap_,yaX_,yaI_];exact⟨λ⟨⟨a,b⟩,⟨m,e⟩,q⟩=>by subst e;subst q;exact m,λh=>⟨(k,d),⟨h,rfl⟩,rfl⟩⟩
theorem oA_ {K D:Type} [DecidableEq K] (l m:List (K×D)) (k:K):lat (l++m) k=lat l k++lat m k:=by simp[lat]
theorem dv_ {K D:Type} [DecidableEq K] (l:List (K×D)) (k:K):(lat l k).length<=l.length:=by
  simp only[lat,yaF_];exact yba_ _ _
def dd_ (x:Pc):List (Ky×Pc) :=
  if x.kind=1\/x.kind=3\/x.kind=8 then [(⟨x.kind,[],x.a⟩,x)]
  else if x.kind=2 then if x.b≠x.a then [(⟨x.kind,[],x.a⟩,x),(⟨x.kind,[],x.b⟩,x)] else [(⟨x.kind,[],x.a⟩,x)]
  else if x.kind=4 then [(⟨x.kind,[],x.a⟩,x),(⟨x.kind,x.r,x.a⟩,x)]
  else if x.kind=5\/x.kind=9 then [(⟨x.kind,x.r,[]⟩,x)]
  else if x.kind=6 then [(⟨x.kind,x.r,[]⟩,x),(⟨x.kind,[],x.s⟩,x)]
  else []
def Pc.zf (x:Pc):Pc:={ x with frm:=0 }
def uniq:List Pc->List Pc->List Pc
  | l,[]=>l
  | l,x::r=>uniq (if x.zf∈l then l else l++[x.zf]) r
theorem kB_:∀ (r l:List Pc) (x:Pc),x∈uniq l r↔x∈l\/∃ y∈r,y.zf=x
 | [],l,x=>by simp[uniq]
 | y::r,l,x=>by
   rw[uniq,kB_ r]
   by_cases h:y.zf∈l
   . rw[yao_ h]
     constructor
     . rintro (d|⟨z,d,e⟩)
       . exact .inl d
       . exact .inr ⟨z,by simp[d],e⟩
     . rintro (d|⟨z,d,e⟩)
       . exact .inl d
       . rcases yan_.1 d with rfl|d
         . exact .inl (e▸h)
         . exact .inr ⟨z,d,e⟩
   . rw[yag_ h]
     simp only[yah_,yan_,yaM_,ybW_];constructor
     . rintro ((d|d)|⟨z,d,e⟩)
       . exact .inl d
       . exact .inr ⟨y,.inl rfl,d.symm⟩
       . exact .inr ⟨z,.inr d,e⟩
     . rintro (d|⟨z,d|d,e⟩)
       . exact .inl (.inl d)
       . subst d;exact .inl (.inr e.symm)
       . exact .inr ⟨z,d,e⟩
theorem kC_:∀ (r l:List Pc),(uniq l r).length<=l.length+r.length
  | [],l=>by simp[uniq]
  | y::r,l=>by
    rw[uniq];have:=kC_ r (if y.zf∈l then l else l++[y.zf]);have d:(if y.zf∈l then l else l++[y.zf]).length<=l.length+1:=by split<;>simp
    simp only[yal_];omega
def aT_ (ps:List Pc):List (Ky×Pc):=ps.flatMap dd_
def aB_ (ps:List Pc):List Str:=(ps.filter λx=>decide (x.kind=7)).map (·.r)
theorem yu_ (x:Pc):∀ e∈dd_ x,e.2=x/\e.1.kind=x.kind:=by
  unfold dd_
  repeat' split
  all_goals simp
theorem dX_ {x y:Pc} {k:Ky} (h:(k,y)∈dd_ x):y=x/\k.kind=x.kind:=yu_ x _ h
def Pc.rok (x:Pc):Prop:=(x.kind=4\/x.kind=5\/x.kind=6\/x.kind=9\/x.kind=3\/x.kind=7\/x.kind=8->x.r≠[])/\(x.kind=6->x.s≠[]/\x.t≠[])/\(x.kind=5->x.t≠[])
theorem gO_ {ps:List Pc} {k:Ky} {x:Pc}:x∈lat (aT_ ps) k↔x∈ps/\(k,x)∈dd_ x:=by
 rw[cb_,aT_,yas_];constructor
 .rintro ⟨y,e,h⟩
  obtain⟨rfl,_⟩:=dX_ h;exact⟨e,h⟩
 rintro ⟨m,d⟩;exact⟨x,m,d⟩
theorem pm1 {ps:List Pc} {b:Str} {x:Pc}:x∈lat (aT_ ps) ⟨1,[],b⟩↔x∈ps/\x.kind=1/\x.a=b:=by
 rw[gO_];refine ybS_ λ_=>⟨λh=>?_,λ⟨h,d⟩=>?_⟩
 .have hk:=(dX_ h).2
  simp only at hk;simp[dd_,<-hk]at h
  exact⟨hk.symm,h.symm⟩
 subst d;simp[dd_,h]
theorem pm2 {ps:List Pc} {b:Str} {x:Pc}:x∈lat (aT_ ps) ⟨2,[],b⟩↔x∈ps/\x.kind=2/\(x.a=b\/x.b=b):=by
 rw[gO_];refine ybS_ λ_=>⟨λh=>?_,λ⟨h,d⟩=>?_⟩
 .have hk:=(dX_ h).2
  simp only at hk;simp[dd_,<-hk]at h
  split at h
  .simp at h;exact⟨hk.symm,.inl h.symm⟩
  simp at h;rcases h with h|h
  .exact⟨hk.symm,.inl h.symm⟩
  exact⟨hk.symm,.inr h.symm⟩
 by_cases e:x.b=x.a
 .have:x.a=b:=d.elim id (λq=>e▸q)
  subst this;simp[dd_,h,e]
 rcases d with rfl|rfl<;>simp[dd_,h,e]
theorem pm3 {ps:List Pc} {b:Str} {x:Pc}:x∈lat (aT_ ps) ⟨3,[],b⟩↔x∈ps/\x.kind=3/\x.a=b:=by
 rw[gO_];refine ybS_ λ_=>⟨λh=>?_,λ⟨h,d⟩=>?_⟩
 .have hk:=(dX_ h).2
  simp only at hk;simp[dd_,<-hk]at h
  exact⟨hk.symm,h.symm⟩
 subst d;simp[dd_,h]
theorem pm8 {ps:List Pc} {b:Str} {x:Pc}:x∈lat (aT_ ps) ⟨8,[],b⟩↔x∈ps/\x.kind=8/\x.a=b:=by
 rw[gO_];refine ybS_ λ_=>⟨λh=>?_,λ⟨h,d⟩=>?_⟩
 .have hk:=(dX_ h).2
  simp only at hk;simp[dd_,<-hk]at h
  exact⟨hk.symm,h.symm⟩
 subst d;simp[dd_,h]
theorem pm5 {ps:List Pc} {r:Str} {x:Pc}:x∈lat (aT_ ps) ⟨5,r,[]⟩↔x∈ps/\x.kind=5/\x.r=r:=by
 rw[gO_];refine ybS_ λ_=>⟨λh=>?_,λ⟨h,d⟩=>?_⟩
 .have hk:=(dX_ h).2
  simp only at hk;simp[dd_,<-hk]at h
  exact⟨hk.symm,h.symm⟩
 subst d;simp[dd_,h]
theorem pm9 {ps:List Pc} {r:Str} {x:Pc}:x∈lat (aT_ ps) ⟨9,r,[]⟩↔x∈ps/\x.kind=9/\x.r=r:=by
 rw[gO_];refine ybS_ λ_=>⟨λh=>?_,λ⟨h,d⟩=>?_⟩
 .have hk:=(dX_ h).2
  simp only at hk;simp[dd_,<-hk]at h
  exact⟨hk.symm,h.symm⟩
 subst d;simp[dd_,h]
theorem pm6 {ps:List Pc} {r:Str} (e:r≠[]) {x:Pc}:x∈lat (aT_ ps) ⟨6,r,[]⟩↔x∈ps/\x.kind=6/\x.r=r:=by
 rw[gO_];refine ybS_ λm=>⟨λh=>?_,λ⟨h,d⟩=>?_⟩
 .have hk:=(dX_ h).2
  simp only at hk;simp[dd_,<-hk,e]at h
  exact⟨hk.symm,h.symm⟩
 subst d;simp[dd_,h]
theorem pm6' {ps:List Pc} {s:Str} {x:Pc} (e:s≠[]):x∈lat (aT_ ps) ⟨6,[],s⟩↔x∈ps/\x.kind=6/\x.s=s:=by
 rw[gO_];refine ybS_ λm=>⟨λh=>?_,λ⟨h,d⟩=>?_⟩
 .have hk:=(dX_ h).2
  simp only at hk;simp[dd_,<-hk,e]at h
  exact⟨hk.symm,h.symm⟩
 subst d;simp[dd_,h]
theorem pm4 {ps:List Pc} (e:∀ x∈ps,x.rok) {b:Str} {x:Pc}:x∈lat (aT_ ps) ⟨4,[],b⟩↔x∈ps/\x.kind=4/\x.a=b:=by
 rw[gO_];refine ybS_ λv=>⟨λh=>?_,λ⟨h,d⟩=>?_⟩
 .have hk:=(dX_ h).2
  simp only at hk;have m:=(e x v).1 (.inl hk.symm);simp[dd_,<-hk]at h
  refine⟨hk.symm,h.elim (λq=>q.symm) (λq=>absurd q.1 m)⟩
 subst d;simp[dd_,h]
theorem pm4' {ps:List Pc} {r b:Str} (m:r≠[]) {x:Pc}:x∈lat (aT_ ps) ⟨4,r,b⟩↔x∈ps/\x.kind=4/\x.r=r/\x.a=b:=by
 rw[gO_];refine ybS_ λq=>⟨λh=>?_,λ⟨h,e,d⟩=>?_⟩
 .have hk:=(dX_ h).2
  simp only at hk;simp[dd_,<-hk,m]at h
  exact⟨hk.symm,h.1.symm,h.2.symm⟩
 subst e d;simp[dd_,h]
structure Ix where
  above:List (Str×Str)
  under:List (Str×Str)
  frm:List (kt_×Str)
  into:List (kt_×Str)
  ranges:List (kt_×Fc)
  firms:List (kt_×Fc)
def Ix.nil:Ix:=⟨[],[],[],[],[],[]⟩
def Ix.add (x:Ix) (firm:Bool) (f:Fc):Ix :=
  if f.kind=1 then { x with above:=x.above++[(f.a,f.b)] }
  else if f.kind=2 then { x with under:=x.under++[(f.b,f.a)],frm:=x.frm++[((f.a,f.r),f.b)],into:=x.into++[((f.b,f.r),f.a)] }
  else if f.kind=3 then { x with ranges:=x.ranges++[((f.a,f.r),f)],firms:=if firm then x.firms++[((f.a,f.r),f)] else x.firms }
  else x
structure Ix.of (x:Ix) (S Fm:Fc->Prop):Prop where
  above:∀ a b,(a,b)∈x.above↔∃ f,S f/\f.kind=1/\f.a=a/\f.b=b
  under:∀ b a,(b,a)∈x.under↔∃ f,S f/\f.kind=2/\f.a=a/\f.b=b
  frm:∀ a r b,((a,r),b)∈x.frm↔∃ f,S f/\f.kind=2/\f.a=a/\f.r=r/\f.b=b
  into:∀ a r b,((b,r),a)∈x.into↔∃ f,S f/\f.kind=2/\f.a=a/\f.r=r/\f.b=b
  ranges:∀ a r f,((a,r),f)∈x.ranges↔S f/\f.kind=3/\f.a=a/\f.r=r
  firms:∀ a r f,((a,r),f)∈x.firms↔S f/\Fm f/\f.kind=3/\f.a=a/\f.r=r
theorem Ix.of_nil (Fm:Fc->Prop):Ix.nil.of (λ_=>False) Fm:=by
  constructor<;>simp[Ix.nil]
theorem Ix.of_add {x:Ix} {S Fm:Fc->Prop} (h:x.of S Fm) (f:Fc) {b:Bool} (C:b=true↔Fm f):(x.add b f).of (λy=>S y\/y=f) Fm:=by
 have d:∀ (Q:Fc->Prop),(∃ y,(S y\/y=f)/\Q y)↔(∃ y,S y/\Q y)\/Q f:=λQ=>by
   constructor
   . rintro ⟨y,v|rfl,m⟩
     . exact .inl ⟨y,v,m⟩
     . exact .inr m
   . rintro (⟨y,v,m⟩|m)
     . exact⟨y,.inl v,m⟩
     . exact⟨f,.inr rfl,m⟩
 unfold Ix.add
 split
 .rename_i hk
  constructor
  .intro a c;rw[d,<-h.above];simp[hk];exact ydx_ ⟨λ⟨p,q⟩=>⟨p.symm,q.symm⟩,λ⟨p,q⟩=>⟨p.symm,q.symm⟩⟩
  .intro a c;rw[d,<-h.under];simp[hk]
  .intro a r c;rw[d,<-h.frm];simp[hk]
  .intro a r c;rw[d,<-h.into];simp[hk]
  .intro a r y;rw[h.ranges];constructor
   .exact λq=>⟨.inl q.1,q.2⟩
   rintro ⟨q|rfl,e⟩
   .exact⟨q,e⟩
   rw[hk]at e;exact absurd e.1 zae_
  intro a r y;rw[h.firms];constructor
  .exact λq=>⟨.inl q.1,q.2⟩
  rintro ⟨q|rfl,e⟩
  .exact⟨q,e⟩
  rw[hk]at e;exact absurd e.2.1 zae_
 split
 .rename_i hk
  constructor
  .intro a c;rw[d,<-h.above];simp[hk]
  .intro a c;rw[d,<-h.under];simp[hk];exact ydx_ ⟨λ⟨p,q⟩=>⟨q.symm,p.symm⟩,λ⟨p,q⟩=>⟨q.symm,p.symm⟩⟩
  .intro a r c;rw[d,<-h.frm];simp[hk];exact ydx_ ⟨λ⟨⟨p,q⟩,s⟩=>⟨p.symm,q.symm,s.symm⟩,λ⟨p,q,s⟩=>⟨⟨p.symm,q.symm⟩,s.symm⟩⟩
  .intro a r c;rw[d,<-h.into];simp[hk];exact ydx_ ⟨λ⟨⟨p,q⟩,s⟩=>⟨s.symm,q.symm,p.symm⟩,λ⟨p,q,s⟩=>⟨⟨s.symm,q.symm⟩,p.symm⟩⟩
  .intro a r y;rw[h.ranges];constructor
   .exact λq=>⟨.inl q.1,q.2⟩
   rintro ⟨q|rfl,e⟩
   .exact⟨q,e⟩
   rw[hk]at e;exact absurd e.1 zae_
  intro a r y;rw[h.firms];constructor
  .exact λq=>⟨.inl q.1,q.2⟩
  rintro ⟨q|rfl,e⟩
  .exact⟨q,e⟩
  rw[hk]at e;exact absurd e.2.1 zae_
 split
 .rename_i hk
  constructor
  .intro a c;rw[d,<-h.above];simp[hk]
  .intro a c;rw[d,<-h.under];simp[hk]
  .intro a r c;rw[d,<-h.frm];simp[hk]
  .intro a r c;rw[d,<-h.into];simp[hk]
  .intro a r y
   simp only[yah_,yai_,h.ranges,ybV_];constructor
   .rintro (⟨q,e⟩|⟨⟨rfl,rfl⟩,rfl⟩)
    .exact⟨.inl q,e⟩
    exact⟨.inr rfl,hk,rfl,rfl⟩
   rintro ⟨q|rfl,e,rfl,rfl⟩
   .exact .inl ⟨q,e,rfl,rfl⟩
   exact .inr ⟨⟨rfl,rfl⟩,rfl⟩
  intro a r y;cases b with
  | false =>
    simp only[ybn_,yce_,h.firms];constructor
    . exact λq=>⟨.inl q.1,q.2⟩
    . rintro ⟨q|rfl,e⟩
      . exact⟨q,e⟩
      . exact absurd (C.2 e.1) zae_
  | true =>
    simp only[ycn_,yah_,yai_,h.firms,ybV_];constructor
    . rintro (⟨q,e⟩|⟨⟨rfl,rfl⟩,rfl⟩)
      . exact⟨.inl q,e⟩
      . exact⟨.inr rfl,C.1 rfl,hk,rfl,rfl⟩
    . rintro ⟨q|rfl,e,E,rfl,rfl⟩
      . exact .inl ⟨q,e,E,rfl,rfl⟩
      . exact .inr ⟨⟨rfl,rfl⟩,rfl⟩
 rename_i v m B
 constructor
 .intro a c;rw[d,<-h.above];simp[v]
 .intro a c;rw[d,<-h.under];simp[m]
 .intro a r c;rw[d,<-h.frm];simp[m]
 .intro a r c;rw[d,<-h.into];simp[m]
 .intro a r y;rw[h.ranges];constructor
  .exact λq=>⟨.inl q.1,q.2⟩
  rintro ⟨q|rfl,e⟩
  .exact⟨q,e⟩
  exact absurd e.1 B
 intro a r y;rw[h.firms];constructor
 .exact λq=>⟨.inl q.1,q.2⟩
 rintro ⟨q|rfl,e⟩
 .exact⟨q,e⟩
 exact absurd e.2.1 B
theorem Ix.of_firm {x:Ix} {S Fm d:Fc->Prop} (h:x.of S Fm) (e:∀ y,S y->(Fm y↔d y)):x.of S d :=
  ⟨h.above,h.under,h.frm,h.into,h.ranges,λa r f=>by rw[h.firms];exact ybS_ λm=>by rw[e f m]⟩
section
variable (pm:List (Ky×Pc)) (x:Ix) (f:Fc)
def hk_:List Fc:=(lat pm ⟨1,[],f.b⟩).map λy=>X_ f.a y.c
def pG_:List Fc:=(lat pm ⟨3,[],f.b⟩).map λy=>ae_ f.a y.r y.c
def hh_:List Fc:=(lat pm ⟨5,f.r,[]⟩).map λy=>ae_ f.a y.t f.b
def fT_:List Fc:=(lat pm ⟨6,f.r,[]⟩).flatMap λy=>(lat x.frm (f.b,y.s)).map λc=>ae_ f.a y.t c
def hV_:List Fc:=(lat pm ⟨6,[],f.r⟩).flatMap λy=>(lat x.into (f.a,y.r)).map λa=>ae_ a y.t f.b
def fW_:List Fc:=(lat x.above f.b).flatMap λc=>(lat pm ⟨4,f.r,c⟩).map λy=>X_ f.a y.c
def fX_:List Fc:=(lat pm ⟨4,[],f.b⟩).flatMap λy=>(lat x.into (f.a,y.r)).map λa=>X_ a y.c
def dq_:List Fc:=if f.b=[33] then (lat x.under f.a).map λa=>X_ a [33] else []
def wx_:List Fc:=((lat pm ⟨9,f.r,[]⟩).filter λy=>decide (y.lo<=f.lo/\f.hi<=y.hi)).map λy=>X_ f.a y.c
def dC_ (y:Fc):Fc:=an_ f.a f.r (max f.lo y.lo) (min f.hi y.hi)
def eT_ (y:Fc):Bool:=decide (min f.hi y.hi<max f.lo y.lo)
def eF_ (firm:Bool):List Fc:=if firm then lat x.ranges (f.a,f.r) else lat x.firms (f.a,f.r)
def gF_ (l:List Fc):List Fc:=(l.filter λy=>!eT_ f y&&decide (dC_ f y≠f/\dC_ f y≠y)).map (dC_ f)
def ib_ (l:List Fc):List Fc:=if l.any (eT_ f) then [X_ f.a [33]] else []
end
section
variable (stp:Fc->List Fc->List Fc) (kof:List Fc->List Fc)
def emits (L:List Fc) (s:List Fc):List Fc:=L.foldl (λs y=>stp y s) s
def er_ (f:Fc) (l:List Pc) (s:List Fc):List Fc:=l.foldl (λs y=>if X_ f.a y.a∈kof s/\X_ f.a y.b∈kof s then stp (X_ f.a y.c) s else s) s
def cl_ (f:Fc) (l:List Pc) (s:List Fc×List Fc):List Fc×List Fc:=l.foldl (λs y=>(stp (an_ f.a y.r y.lo y.hi) s.1,if an_ f.a y.r y.lo y.hi∈kof s.1 then s.2 else an_ f.a y.r y.lo y.hi::s.2)) s
end
theorem aN_ (stp:Fc->List Fc->List Fc) (L M:List Fc) (s:List Fc):emits stp (L++M) s=emits stp M (emits stp L s):=by simp[emits]
structure Grows (stp:Fc->List Fc->List Fc) (kof:List Fc->List Fc):Prop where
  up:∀ y s z,z∈kof s->z∈kof (stp y s)
theorem Grows.emits {stp:Fc->List Fc->List Fc} {kof:List Fc->List Fc} (h:Grows stp kof):∀ (L s:List Fc) (z:Fc),z∈kof s->z∈kof (emits stp L s)
  | [],_,_,hz=>hz
  | y::L,s,z,hz=>h.emits L _ z (h.up y s z hz)
theorem fC_ {stp:Fc->List Fc->List Fc} {kof:List Fc->List Fc} (h:Grows stp kof) (f:Fc):∀ (l:List Pc) (s:List Fc),
    ∃ L,er_ stp kof f l s=emits stp L s/\(∀ y∈L,∃ x∈l,y=X_ f.a x.c/\X_ f.a x.a∈kof (er_ stp kof f l s)/\X_ f.a x.b∈kof (er_ stp kof f l s))/\(∀ x∈l,X_ f.a x.a∈kof s->X_ f.a x.b∈kof s->X_ f.a x.c∈L)
  | [],s=>⟨[],rfl,by simp,by simp⟩
  | x::l,s=>by
    by_cases v:X_ f.a x.a∈kof s/\X_ f.a x.b∈kof s
    . obtain⟨L,E,F,G⟩:=fC_ h f l (stp (X_ f.a x.c) s)
      have e:er_ stp kof f (x::l) s=er_ stp kof f l (stp (X_ f.a x.c) s):=by simp only[er_,yck_,yao_ v]
      refine⟨X_ f.a x.c::L,by rw[e,E];rfl,λy m=>?_,λz d C B=>?_⟩
      . rw[e]
        rcases yan_.1 m with rfl|m
        . refine⟨x,by simp,rfl,?_,?_⟩<;>rw[E]<;>exact h.emits L _ _ (h.up _ _ _ (by first|exact v.1|exact v.2))
        . obtain⟨z,d,q⟩:=F y m
          exact⟨z,by simp[d],q⟩
      . rcases yan_.1 d with rfl|d
        . simp
        . exact yaE_ _ (G z d (h.up _ _ _ C) (h.up _ _ _ B))
    . obtain⟨L,E,F,G⟩:=fC_ h f l s
      have e:er_ stp kof f (x::l) s=er_ stp kof f l s:=by simp only[er_,yck_,yag_ v]
      refine⟨L,by rw[e,E],λy m=>?_,λz d C B=>?_⟩
      . rw[e]
        obtain⟨z,d,q⟩:=F y m;exact⟨z,by simp[d],q⟩
      . rcases yan_.1 d with rfl|d
        . exact absurd ⟨C,B⟩ v
        . exact G z d C B
theorem fc_ (stp:Fc->List Fc->List Fc) (kof:List Fc->List Fc) (f:Fc):∀ (l:List Pc) (s fm:List Fc),(cl_ stp kof f l (s,fm)).1=emits stp (l.map λy=>an_ f.a y.r y.lo y.hi) s
  | [],_,_=>rfl
  | x::l,s,fm=>by
    simp only[cl_,yck_,yay_,emits];exact fc_ stp kof f l _ _
theorem hv_ {stp:Fc->List Fc->List Fc} {kof:List Fc->List Fc} (h:Grows stp kof) (f:Fc):∀ (l:List Pc) (s fm:List Fc) (z:Fc),z∈(cl_ stp kof f l (s,fm)).2↔z∈fm\/(z ∉ kof s/\z∈(cl_ stp kof f l (s,fm)).2)
 | [],s,fm,z=>by simp[cl_]
 | x::l,s,fm,z=>by
   have v:=hv_ h f l (stp (an_ f.a x.r x.lo x.hi) s) (if an_ f.a x.r x.lo x.hi∈kof s then fm else an_ f.a x.r x.lo x.hi::fm) z;have e:cl_ stp kof f (x::l) (s,fm)=cl_ stp kof f l (stp (an_ f.a x.r x.lo x.hi) s,if an_ f.a x.r x.lo x.hi∈kof s then fm else an_ f.a x.r x.lo x.hi::fm):=rfl;rw[e];constructor
   . intro m
     rcases v.1 m with d|d
     . split at d
       . exact .inl d
       . rename_i y
         rcases yan_.1 d with rfl|d
         . exact .inr ⟨y,m⟩
         . exact .inl d
     . exact .inr ⟨λq=>d.1 (h.up _ _ _ q),m⟩
   . rintro (d|d)
     . exact v.2 (.inl (by split<;>simp[d]))
     . exact d.2
theorem nE_ {stp:Fc->List Fc->List Fc} {kof:List Fc->List Fc} (f:Fc):∀ (l:List Pc) (s fm:List Fc) (z:Fc),z∈(cl_ stp kof f l (s,fm)).2->z∈fm\/∃ y∈l,z=an_ f.a y.r y.lo y.hi
 | [],s,fm,z,hz=>.inl hz
 | x::l,s,fm,z,hz=>by
   have e:cl_ stp kof f (x::l) (s,fm)=cl_ stp kof f l (stp (an_ f.a x.r x.lo x.hi) s,if an_ f.a x.r x.lo x.hi∈kof s then fm else an_ f.a x.r x.lo x.hi::fm):=rfl;rw[e]at hz;rcases nE_ f l _ _ z hz with d|⟨y,h,d⟩
   . split at d
     . exact .inl d
     . rcases yan_.1 d with rfl|d
       . exact .inr ⟨x,by simp,rfl⟩
       . exact .inl d
   . exact .inr ⟨y,by simp[h],d⟩
def Fc.form (y:Fc):Prop:=(∃ a b,y=X_ a b)\/(∃ a r b,y=ae_ a r b/\r≠[])\/(∃ a r lo hi,y=an_ a r lo hi/\r≠[]/\-1099511627776<=lo/\lo<=hi/\hi<=1099511627776)
structure Pc.vok (x:Pc):Prop where
  rok:x.rok
  num:x.kind=8\/x.kind=9->-1099511627776<=x.lo/\x.lo<=x.hi/\x.hi<=1099511627776
theorem eG_ (a b:Str):(X_ a b).form:=.inl ⟨a,b,rfl⟩
theorem oL_ {f:Fc} (h:f.form) (hk:f.kind=1):f=X_ f.a f.b:=by
 rcases h with⟨a,b,rfl⟩|⟨a,r,b,rfl,_⟩|⟨a,r,lo,hi,rfl,_⟩
 .rfl
 .simp[ae_]at hk
 simp[an_]at hk
theorem mO_ {f:Fc} (h:f.form) (hk:f.kind=2):f=ae_ f.a f.r f.b/\f.r≠[]:=by
 rcases h with⟨a,b,rfl⟩|⟨a,r,b,rfl,h⟩|⟨a,r,lo,hi,rfl,_⟩
 .simp[X_]at hk
 .exact⟨rfl,h⟩
 simp[an_]at hk
theorem ie_ {f:Fc} (h:f.form) (hk:f.kind=3):f=an_ f.a f.r f.lo f.hi/\f.r≠[]/\-1099511627776<=f.lo/\f.lo<=f.hi/\f.hi<=1099511627776:=by
 rcases h with⟨a,b,rfl⟩|⟨a,r,b,rfl,_⟩|⟨a,r,lo,hi,rfl,h⟩
 .simp[X_]at hk
 .simp[ae_]at hk
 exact⟨rfl,h⟩
theorem ju_ {f:Fc} (h:f.form):f.kind=1\/f.kind=2\/f.kind=3:=by
  rcases h with⟨a,b,rfl⟩|⟨a,r,b,rfl,h⟩|⟨a,r,lo,hi,rfl,_⟩<;>simp[X_,ae_,an_]
theorem One.form {p:List Pc} {A:List Str} {S:Fc->Prop} {M:Fc->Fc->Prop} (e:∀ x∈p,x.vok) (hS:∀ y,S y->y.form) {y:Fc} (h:One p A S M y):y.form:=by
  have d:∀ {a r:Str} {lo hi:Int},S (an_ a r lo hi)->r≠[]/\-1099511627776<=lo/\lo<=hi/\hi<=1099511627776:=λh=>(ie_ (hS _ h) rfl).2
  cases h with
  | r1 _=>exact eG_ _ _
  | r2 _=>exact eG_ _ _
  | r10 hx hk _=>exact .inr (.inl ⟨_,_,_,rfl,(e _ hx).rok.1 zaX_⟩)
  | r3 _ _ _=>exact eG_ _ _
  | r4 _ _ _ _=>exact eG_ _ _
  | r5 hx hk _=>exact .inr (.inl ⟨_,_,_,rfl,(e _ hx).rok.1 zaX_⟩)
  | r6 hx hk _=>exact .inr (.inl ⟨_,_,_,rfl,(e _ hx).rok.2.2 hk⟩)
  | r7 hx hk _ _=>exact .inr (.inl ⟨_,_,_,rfl,((e _ hx).rok.2.1 hk).2⟩)
  | r8 _ _ _ _=>exact eG_ _ _
  | r9 _ _=>exact eG_ _ _
  | r11 hx hk _=>exact .inr (.inr ⟨_,_,_,_,rfl,(e _ hx).rok.1 zaX_,(e _ hx).num (.inl hk)⟩)
  | r12 h h' _ hl=>exact .inr (.inr ⟨_,_,_,_,rfl,(d h).1,by have:=d h;omega,hl,by have:=d h;omega⟩)
  | r13 _ _ _ _=>exact eG_ _ _
  | r14 _ _ _ _ _=>exact eG_ _ _
section
variable {ps:List Pc} {A:List Str} {x:Ix} {S Fm:Fc->Prop} {f:Fc} {kn:List Fc}
theorem pr_ (hk:f.kind=1) (e:f.form) (d:f∈kn):∀ y∈hk_ (aT_ ps) f,hX_ ps A (·∈kn) y:=by
  intro y m;obtain⟨z,B,rfl⟩:=yap_.1 m;obtain⟨q,h,v⟩:=pm1.1 B;exact .r3 q h zbX_
theorem tQ_ (hk:f.kind=1) (e:f.form) (d:f∈kn):∀ y∈pG_ (aT_ ps) f,hX_ ps A (·∈kn) y:=by
  intro y m;obtain⟨z,B,rfl⟩:=yap_.1 m;obtain⟨q,h,v⟩:=pm3.1 B;exact .r5 q h zbX_
theorem rW_ (hk:f.kind=1) (e:f.form) (d:f∈kn):∀ y∈(lat (aT_ ps) ⟨8,[],f.b⟩).map (λy=>an_ f.a y.r y.lo y.hi),hX_ ps A (·∈kn) y:=by
  intro y m;obtain⟨z,B,rfl⟩:=yap_.1 m;obtain⟨q,h,v⟩:=pm8.1 B;exact .r11 q h zbX_
theorem po_ (hk:f.kind=2) (e:f.form) (d:f∈kn):∀ y∈hh_ (aT_ ps) f,hX_ ps A (·∈kn) y:=by
  intro y m;obtain⟨z,B,rfl⟩:=yap_.1 m;obtain⟨q,h,v⟩:=pm5.1 B;exact .r6 q h (by rw[v,<-(mO_ e hk).1];exact d)
theorem nn_ {hS:∀ y,S y->y.form} {a r b:Str} (h:∃ g,S g/\g.kind=2/\g.a=a/\g.r=r/\g.b=b):S (ae_ a r b):=by
  obtain⟨g,d,e,rfl,rfl,rfl⟩:=h;rw[<-(mO_ (hS g d) e).1];exact d
theorem ix_sub {hS:∀ y,S y->y.form} {a b:Str} (h:∃ g,S g/\g.kind=1/\g.a=a/\g.b=b):S (X_ a b):=by
  obtain⟨g,d,e,rfl,rfl⟩:=h;rw[<-oL_ (hS g d) e];exact d
theorem ts_ (F:x.of S Fm) (hS:∀ y,S y->y.form) (m:∀ y,S y->y∈kn) (hk:f.kind=2) (H:f.form) (h:f∈kn):∀ y∈fT_ (aT_ ps) x f++hV_ (aT_ ps) x f,hX_ ps A (·∈kn) y:=by
 intro y d;obtain⟨e,G⟩:=mO_ H hk;rcases yah_.1 d with d|d
 .obtain⟨z,E,d⟩:=yas_.1 d
  obtain⟨c,C,rfl⟩:=yap_.1 d;obtain⟨B,q,v⟩:=(pm6 G).1 E;exact .r7 B q (by rw[v,<-e];exact h) (m _ (nn_ (hS:=hS) ((F.frm _ _ _).1 (cb_.1 C))))
 obtain⟨z,E,d⟩:=yas_.1 d;obtain⟨c,C,rfl⟩:=yap_.1 d;obtain⟨B,q,v⟩:=(pm6' G).1 E;exact .r7 B q (m _ (nn_ (hS:=hS) ((F.into _ _ _).1 (cb_.1 C)))) (by rw[v,<-e];exact h)
theorem oO_ (C:x.of S Fm) (hS:∀ y,S y->y.form) (h:∀ y,S y->y∈kn) (hk:f.kind=2) (q:f.form) (d:f∈kn):∀ y∈fW_ (aT_ ps) x f,hX_ ps A (·∈kn) y:=by
  intro y m;obtain⟨e,E⟩:=mO_ q hk;obtain⟨c,H,m⟩:=yas_.1 m;obtain⟨z,I,rfl⟩:=yap_.1 m;obtain⟨G,v,B,F⟩:=(pm4' E).1 I;exact .r8 (b:=f.b) G v (by rw[B,<-e];exact d) (by rw[F];exact h _ (ix_sub (hS:=hS) ((C.above _ _).1 (cb_.1 H))))
theorem oP_ (B:∀ x∈ps,x.vok) (m:x.of S Fm) (hS:∀ y,S y->y.form) (e:∀ y,S y->y∈kn) (hk:f.kind=1) (q:f.form) (d:f∈kn):∀ y∈fX_ (aT_ ps) x f,hX_ ps A (·∈kn) y:=by
  intro y h;obtain⟨z,G,h⟩:=yas_.1 h;obtain⟨c,F,rfl⟩:=yap_.1 h;obtain⟨E,v,C⟩:=(pm4 (λx m=>(B x m).rok)).1 G;exact .r8 (b:=f.a) E v (e _ (nn_ (hS:=hS) ((m.into _ _ _).1 (cb_.1 F)))) (by rw[C,<-oL_ q hk];exact d)
theorem nd_ (C:x.of S Fm) (hS:∀ y,S y->y.form) (h:∀ y,S y->y∈kn) (hk:f.kind=1) (m:f.form) (e:f∈kn):∀ y∈dq_ x f,hX_ ps A (·∈kn) y:=by
 intro y d;unfold dq_ at d
 split at d
 .rename_i B
  obtain⟨a,E,rfl⟩:=yap_.1 d;obtain⟨g,G,q,v,F⟩:=(C.under _ _).1 (cb_.1 E);exact .r9 (r:=g.r) (h _ (nn_ (hS:=hS) ⟨g,G,q,v,rfl,F⟩)) (by rw[<-B,<-oL_ m hk];exact e)
 simp at d
theorem nc_ (hk:f.kind=2) (e:f.form) (d:f∈kn) (h:X_ f.b [33]∈kn):hX_ ps A (·∈kn) (X_ f.a [33]) :=
  .r9 (r:=f.r) (b:=f.b) (by rw[<-(mO_ e hk).1];exact d) h
theorem ww_ (hk:f.kind=3) (m:f.form) (e:f∈kn):∀ y∈wx_ (aT_ ps) f,hX_ ps A (·∈kn) y:=by
  intro y v;obtain⟨z,h,rfl⟩:=yap_.1 v;obtain⟨h,d⟩:=yaX_.1 h;obtain⟨B,q,C⟩:=pm9.1 h;have d:=yaZ_ d;exact .r14 B q (by rw[C,<-(ie_ m hk).1];exact e) d.1 d.2
theorem lB_ (e:x.of S Fm) {firm:Bool} {y:Fc} (d:y∈eF_ x f firm):S y/\y.kind=3/\y.a=f.a/\y.r=f.r:=by
 unfold eF_ at d
 split at d
 .exact (e.ranges _ _ _).1 (cb_.1 d)
 have:=(e.firms _ _ _).1 (cb_.1 d);exact⟨this.1,this.2.2⟩
theorem uh_ (H:x.of S Fm) (hS:∀ y,S y->y.form) (q:∀ y,S y->y∈kn) (hk:f.kind=3) (I:f.form) (h:f∈kn) {firm:Bool}:∀ y∈gF_ f (eF_ x f firm)++ib_ f (eF_ x f firm),hX_ ps A (·∈kn) y:=by
 intro y d;have e:=(ie_ I hk).1;rcases yah_.1 d with d|d
 .obtain⟨z,B,rfl⟩:=yap_.1 d
  obtain⟨B,C⟩:=yaX_.1 B;obtain⟨v,E,F,G⟩:=lB_ H B;simp only[eT_,yaq_,ybp_,yaV_,Int.not_lt]at C;have m:=(ie_ (hS z v) E).1;rw[F,G]at m;exact .r12 (by rw[<-e];exact h) (by rw[<-m];exact q z v) trivial C.1
 unfold ib_ at d
 split at d
 .rename_i J
  obtain⟨z,B,C⟩:=ybT_.1 J;obtain⟨v,E,F,G⟩:=lB_ H B;have m:=(ie_ (hS z v) E).1;rw[F,G]at m;simp only[yai_]at d;subst d;exact .r13 (r:=f.r) (by rw[<-e];exact h) (by rw[<-m];exact q z v) trivial (by simpa [eT_] using C)
 simp at d
theorem tl_ {z:Pc} {a:Str} (d:z∈ps) (hk:z.kind=1):X_ a z.c∈hk_ (aT_ ps) (X_ a z.a) :=
  yap_.2 ⟨z,pm1.2 ⟨d,hk,rfl⟩,rfl⟩
theorem yf_ {z:Pc} {a:Str} (d:z∈ps) (hk:z.kind=3):ae_ a z.r z.c∈pG_ (aT_ ps) (X_ a z.a) :=
  yap_.2 ⟨z,pm3.2 ⟨d,hk,rfl⟩,rfl⟩
theorem vY_ {z:Pc} {a:Str} (d:z∈ps) (hk:z.kind=8):an_ a z.r z.lo z.hi∈(lat (aT_ ps) ⟨8,[],(X_ a z.a).b⟩).map (λy=>an_ (X_ a z.a).a y.r y.lo y.hi) :=
  yap_.2 ⟨z,pm8.2 ⟨d,hk,rfl⟩,rfl⟩
theorem sY_ {z:Pc} {a b:Str} (d:z∈ps) (hk:z.kind=5):ae_ a z.t b∈hh_ (aT_ ps) (ae_ a z.r b) :=
  yap_.2 ⟨z,pm5.2 ⟨d,hk,rfl⟩,rfl⟩
theorem uJ_ (m:x.of S Fm) (e:∀ x∈ps,x.vok) {z:Pc} {a b c:Str} (d:z∈ps) (hk:z.kind=6) (h:S (ae_ b z.s c)):ae_ a z.t c∈fT_ (aT_ ps) x (ae_ a z.r b) :=
  yas_.2 ⟨z,(pm6 ((e z d).rok.1 zaX_)).2 ⟨d,hk,rfl⟩,yap_.2 ⟨c,cb_.2 ((m.frm _ _ _).2 ⟨_,h,rfl,rfl,rfl,rfl⟩),rfl⟩⟩
theorem uI_ (m:x.of S Fm) (e:∀ x∈ps,x.vok) {z:Pc} {a b c:Str} (d:z∈ps) (hk:z.kind=6) (h:S (ae_ a z.r b)):ae_ a z.t c∈hV_ (aT_ ps) x (ae_ b z.s c) :=
  yas_.2 ⟨z,(pm6' ((e z d).rok.2.1 hk).1).2 ⟨d,hk,rfl⟩,yap_.2 ⟨a,cb_.2 ((m.into _ _ _).2 ⟨_,h,rfl,rfl,rfl,rfl⟩),rfl⟩⟩
theorem ro_ (m:x.of S Fm) (e:∀ x∈ps,x.vok) {z:Pc} {a b:Str} (d:z∈ps) (hk:z.kind=4) (h:S (X_ b z.a)):X_ a z.c∈fW_ (aT_ ps) x (ae_ a z.r b) :=
  yas_.2 ⟨z.a,cb_.2 ((m.above _ _).2 ⟨_,h,rfl,rfl,rfl⟩),yap_.2 ⟨z,(pm4' ((e z d).rok.1 zaX_)).2 ⟨d,hk,rfl,rfl⟩,rfl⟩⟩
theorem rp_ (d:x.of S Fm) (e:∀ x∈ps,x.vok) {z:Pc} {a b:Str} (m:z∈ps) (hk:z.kind=4) (h:S (ae_ a z.r b)):X_ a z.c∈fX_ (aT_ ps) x (X_ b z.a) :=
  yas_.2 ⟨z,(pm4 (λx d=>(e x d).rok)).2 ⟨m,hk,rfl⟩,yap_.2 ⟨a,cb_.2 ((d.into _ _ _).2 ⟨_,h,rfl,rfl,rfl,rfl⟩),rfl⟩⟩
theorem pp_ (d:x.of S Fm) {a r b:Str} (h:S (ae_ a r b)):X_ a [33]∈dq_ x (X_ b [33]):=by
  unfold dq_;rw[yao_ (show (X_ b [33]).b=[33] from rfl)];exact yap_.2 ⟨a,cb_.2 ((d.under _ _).2 ⟨_,h,rfl,rfl,rfl⟩),rfl⟩
theorem AZ_ {z:Pc} {a:Str} {lo hi:Int} (h:z∈ps) (hk:z.kind=9) (e:z.lo<=lo) (d:hi<=z.hi):X_ a z.c∈wx_ (aT_ ps) (an_ a z.r lo hi) :=
  yap_.2 ⟨z,yaX_.2 ⟨pm9.2 ⟨h,hk,rfl⟩,yaC_ ⟨e,d⟩⟩,rfl⟩
theorem qa_ (v:x.of S Fm) {firm:Bool} (d:firm=true↔Fm f) {y:Fc} (h:S y) (hk:y.kind=3) (e:y.a=f.a) (m:y.r=f.r) (hm:Fm f\/Fm y):y∈eF_ x f firm:=by
  unfold eF_;cases firm with
  | true=>rw[yao_ rfl];exact cb_.2 ((v.ranges _ _ _).2 ⟨h,hk,e,m⟩)
  | false =>
    rw[yag_ zae_];refine cb_.2 ((v.firms _ _ _).2 ⟨h,hm.resolve_left (λq=>?_),hk,e,m⟩);exact absurd (d.2 q) zae_
theorem sK_ {l:List Fc} {y:Fc} (m:y∈l) :
    (max f.lo y.lo<=min f.hi y.hi->dC_ f y∈gF_ f l\/dC_ f y=f\/dC_ f y=y)/\(min f.hi y.hi<max f.lo y.lo->X_ f.a [33]∈ib_ f l):=by
  refine⟨λh=>?_,λh=>?_⟩
  . by_cases d:dC_ f y=f
    . exact .inr (.inl d)
    . by_cases e:dC_ f y=y
      . exact .inr (.inr e)
      . refine .inl (yap_.2 ⟨y,yaX_.2 ⟨m,?_⟩,rfl⟩)
        simp only[eT_,yaq_,ybp_,yaV_,Int.not_lt,yaI_];exact⟨h,d,e⟩
  . unfold ib_
    rw[yao_ (ybT_.2 ⟨y,m,by simpa [eT_] using h⟩)];simp
end
section
variable (stp:Fc->List Fc->List Fc) (kof:List Fc->List Fc) (pm:List (Ky×Pc)) (x:Ix) (f:Fc)
def rl (j:Nat) (s:List Fc×List Fc):List Fc×List Fc :=
  if f.kind=1 then
    (match j with
    | 0=>(emits stp (hk_ pm f) s.1,s.2)
    | 1=>(er_ stp kof f (lat pm ⟨2,[],f.b⟩) s.1,s.2)
    | 2=>(emits stp (pG_ pm f) s.1,s.2)
    | 3=>(emits stp (fX_ pm x f) s.1,s.2)
    | 4=>(emits stp (dq_ x f) s.1,s.2)
    | _=>cl_ stp kof f (lat pm ⟨8,[],f.b⟩) s)
  else if f.kind=2 then
    (match j with
    | 0=>(emits stp (hh_ pm f) s.1,s.2)
    | 1=>(emits stp (fT_ pm x f++hV_ pm x f) s.1,s.2)
    | 2=>(emits stp (fW_ pm x f) s.1,s.2)
    | _=>(if X_ f.b [33]∈kof s.1 then stp (X_ f.a [33]) s.1 else s.1,s.2))
  else
    (match j with
    | 0=>(emits stp (gF_ f (eF_ x f (decide (f∈s.2)))++ib_ f (eF_ x f (decide (f∈s.2)))) s.1,s.2)
    | _=>(emits stp (wx_ pm f) s.1,s.2))
def rls:Nat->List Fc×List Fc->List Fc×List Fc
  | 0,s=>s
  | j+1,s=>rl stp kof pm x f j (rls j s)
def nrl:Nat:=if f.kind=1 then 6 else if f.kind=2 then 4 else 2
end
structure Cmpl (ps:List Pc) (S Fm kn good:Fc->Prop) (f:Fc):Prop where
  c3:∀ z a,z∈ps->z.kind=1->f=X_ a z.a->good (X_ a z.c)
  c4:∀ z a,z∈ps->z.kind=2->f=X_ a z.a->kn (X_ a z.b)->good (X_ a z.c)
  c4':∀ z a,z∈ps->z.kind=2->f=X_ a z.b->kn (X_ a z.a)->good (X_ a z.c)
  c5:∀ z a,z∈ps->z.kind=3->f=X_ a z.a->good (ae_ a z.r z.c)
  c6:∀ z a b,z∈ps->z.kind=5->f=ae_ a z.r b->good (ae_ a z.t b)
  c7:∀ z a b c,z∈ps->z.kind=6->f=ae_ a z.r b->S (ae_ b z.s c)->good (ae_ a z.t c)
  c7':∀ z a b c,z∈ps->z.kind=6->f=ae_ b z.s c->S (ae_ a z.r b)->good (ae_ a z.t c)
  c8:∀ z a b,z∈ps->z.kind=4->f=ae_ a z.r b->S (X_ b z.a)->good (X_ a z.c)
  c8':∀ z a b,z∈ps->z.kind=4->f=X_ b z.a->S (ae_ a z.r b)->good (X_ a z.c)
  c9:∀ a r b,f=ae_ a r b->kn (X_ b [33])->good (X_ a [33])
  c9':∀ a r b,f=X_ b [33]->S (ae_ a r b)->good (X_ a [33])
  c11:∀ z a,z∈ps->z.kind=8->f=X_ a z.a->good (an_ a z.r z.lo z.hi)
  c12:∀ y,f.kind=3->S y->y.kind=3->y.a=f.a->y.r=f.r->(Fm f\/Fm y)->max f.lo y.lo<=min f.hi y.hi->good (dC_ f y)
  c13:∀ y,f.kind=3->S y->y.kind=3->y.a=f.a->y.r=f.r->(Fm f\/Fm y)->min f.hi y.hi<max f.lo y.lo->good (X_ f.a [33])
  c14:∀ z a lo hi,z∈ps->z.kind=9->f=an_ a z.r lo hi->z.lo<=lo->hi<=z.hi->good (X_ a z.c)
section
variable {stp:Fc->List Fc->List Fc} {kof:List Fc->List Fc} {ps:List Pc} {A:List Str} {x:Ix} {S Fm:Fc->Prop} {f:Fc}
theorem sq_ (d:Grows stp kof) (j:Nat) (s:List Fc×List Fc):∃ L,(rl stp kof (aT_ ps) x f j s).1=emits stp L s.1:=by
 unfold rl
 split
 .split
  .exact⟨_,rfl⟩
  .obtain⟨L,h,_⟩:=fC_ d f (lat (aT_ ps) ⟨2,[],f.b⟩) s.1
   exact⟨L,h⟩
  .exact⟨_,rfl⟩
  .exact⟨_,rfl⟩
  .exact⟨_,rfl⟩
  exact⟨_,fc_ stp kof f _ s.1 s.2⟩
 split
 .split
  .exact⟨_,rfl⟩
  .exact⟨_,rfl⟩
  .exact⟨_,rfl⟩
  simp only
  split
  .exact⟨[X_ f.a [33]],rfl⟩
  exact⟨[],rfl⟩
 split
 .exact⟨_,rfl⟩
 exact⟨_,rfl⟩
theorem lw_ (e:Grows stp kof) (j:Nat) (s:List Fc×List Fc):∃ L,(rls stp kof (aT_ ps) x f j s).1=emits stp L s.1:=by
  induction j with
  | zero=>exact⟨[],rfl⟩
  | succ j ih =>
    obtain⟨L,h⟩:=ih;obtain⟨M,d⟩:=sq_ (ps:=ps) (x:=x) (f:=f) e j (rls stp kof (aT_ ps) x f j s);exact⟨L++M,by rw[rls,d,h,aN_]⟩
theorem lv_ (d:Grows stp kof) (j:Nat) (s:List Fc×List Fc) (z:Fc) (e:z∈kof s.1):z∈kof (rls stp kof (aT_ ps) x f j s).1:=by
  obtain⟨L,h⟩:=lw_ (ps:=ps) (x:=x) (f:=f) d j s;rw[h];exact d.emits L _ z e
theorem sp_ (j:Nat) (s:List Fc×List Fc) (h:f.kind=1->j<=5):(rls stp kof (aT_ ps) x f j s).2=s.2:=by
 induction j with
 | zero=>rfl
 | succ j ih =>
   rw[<-ih (λhk=>by have:=h hk;omega),rls,rl.eq_def]
   split
   . rename_i hk
     have:=h hk
     match j,this with
     | 0,_=>rfl
     | 1,_=>rfl
     | 2,_=>rfl
     | 3,_=>rfl
     | 4,_=>rfl
   . split
     . split<;>rfl
     . split<;>rfl
theorem yo_ (O:Grows stp kof) (R:∀ x∈ps,x.vok) (G:x.of S Fm) (s:List Fc×List Fc) (T:∀ y,S y->(Fm y↔y∈s.2)) (P:S f) (N:∀ y,S y->y∈kof s.1) (good:Fc->Prop) (hS:∀ y,S y->good y)
    (H:∀ j,j<nrl f->∀ L,(rls stp kof (aT_ ps) x f (j+1) s).1=emits stp L (rls stp kof (aT_ ps) x f j s).1->∀ y∈L,good y) :
    Cmpl ps S Fm (·∈kof s.1) good f:=by
  have K:∀ k j,f.kind=k->j<nrl f->∀ L,(rl stp kof (aT_ ps) x f j (rls stp kof (aT_ ps) x f j s)).1=emits stp L (rls stp kof (aT_ ps) x f j s).1->∀ y∈L,good y:=λk j _ hj L hL=>H j hj L (by rw[rls];exact hL)
  have I:f.kind=1->nrl f=6:=λh=>by simp[nrl,h]
  have M:f.kind=2->nrl f=4:=λh=>by simp[nrl,h]
  have X:f.kind=3->nrl f=2:=λh=>by simp[nrl,h]
  have k1:∀ {a b},f=X_ a b->f.kind=1:=λe=>by rw[e];rfl
  have k2:∀ {a r b},f=ae_ a r b->f.kind=2:=λe=>by rw[e];rfl
  have k3:∀ {a r lo hi},f=an_ a r lo hi->f.kind=3:=λe=>by rw[e];rfl
  have C:∀ z a,z∈ps->z.kind=2->f.kind=1->f.a=a->(z.a=f.b\/z.b=f.b)->X_ a z.a∈kof s.1->X_ a z.b∈kof s.1->good (X_ a z.c):=by
    intro z a m hk d J Z V U;subst J;obtain⟨L,W,e2,e3⟩:=fC_ O f (lat (aT_ ps) ⟨2,[],f.b⟩) (rls stp kof (aT_ ps) x f 1 s).1;exact K 1 1 d zbw_ L (by rw[rl.eq_def,yao_ d];exact W) _ (e3 z (pm2.2 ⟨m,hk,Z⟩) (lv_ O 1 s _ V) (lv_ O 1 s _ U))
  have Y:f.kind=3->(∀ y∈gF_ f (eF_ x f (decide (f∈s.2)))++ib_ f (eF_ x f (decide (f∈s.2))),good y):=λE =>
    K 3 0 E (by rw[X E];decide) _ (by rw[rl.eq_def,yag_ (by rw[E];decide),yag_ (by rw[E];decide)];rfl)
  have v:decide (f∈s.2)=true↔Fm f:=by rw[yaI_];exact (T f P).symm
  refine⟨?_,?_,?_,?_,?_,?_,?_,?_,?_,?_,?_,?_,?_,?_,?_⟩
  . intro z a m hk e
    have d:=k1 e;exact K 1 0 d zbw_ (hk_ (aT_ ps) f) zbq_ _ (by rw[e];exact tl_ m hk)
  . intro z a m hk e h
    have d:=k1 e;exact C z a m hk d (by rw[e];rfl) (by rw[e];exact .inl rfl) (by rw[<-e];exact N f P) h
  . intro z a m hk e h
    have d:=k1 e;exact C z a m hk d (by rw[e];rfl) (by rw[e];exact .inr rfl) h (by rw[<-e];exact N f P)
  . intro z a m hk e
    have d:=k1 e;exact K 1 2 d zbw_ (pG_ (aT_ ps) f) zbq_ _ (by rw[e];exact yf_ m hk)
  . intro z a b m hk e
    have d:=k2 e;exact K 2 0 d zbL_ (hh_ (aT_ ps) f) zaI_ _ (by rw[e];exact sY_ m hk)
  . intro z a b c m hk e h
    have d:=k2 e;exact K 2 1 d zbL_ (fT_ (aT_ ps) x f++hV_ (aT_ ps) x f) zaI_ _ (yam_ _ (by rw[e];exact uJ_ G R m hk h))
  . intro z a b c m hk e h
    have d:=k2 e;exact K 2 1 d zbL_ (fT_ (aT_ ps) x f++hV_ (aT_ ps) x f) zaI_ _ (yaA_ _ (by rw[e];exact uI_ G R m hk h))
  . intro z a b m hk e h
    have d:=k2 e;exact K 2 2 d zbL_ (fW_ (aT_ ps) x f) zaI_ _ (by rw[e];exact ro_ G R m hk h)
  . intro z a b m hk e h
    have d:=k1 e;exact K 1 3 d zbw_ (fX_ (aT_ ps) x f) zbq_ _ (by rw[e];exact rp_ G R m hk h)
  . intro a r b e h
    have d:=k2 e;have W:X_ f.b [33]∈kof (rls stp kof (aT_ ps) x f 3 s).1:=lv_ O 3 s _ (by rw[e];exact h);exact K 2 3 d zbL_ [X_ f.a [33]] (by rw[rl.eq_def,yag_ (by rw[d];decide),yao_ d];simp only[yao_ W];rfl) _ (by rw[e];simp[ae_])
  . intro a r b e h
    have d:=k1 e;exact K 1 4 d zbw_ (dq_ x f) zbq_ _ (by rw[e];exact pp_ G h)
  . intro z a m hk e
    have d:=k1 e;exact K 1 5 d zbw_ ((lat (aT_ ps) ⟨8,[],f.b⟩).map λy=>an_ f.a y.r y.lo y.hi) (by rw[rl.eq_def,yao_ d];exact fc_ stp kof f _ _ _) _ (by rw[e];exact vY_ m hk)
  . intro y E Q hk J F hm hl
    have B:=qa_ G v Q hk J F hm;rcases (sK_ (f:=f) B).1 hl with q|q|q
    . exact Y E _ (yam_ _ q)
    . rw[q];exact hS f P
    . rw[q];exact hS y Q
  . intro y E Q hk J F hm hl
    have B:=qa_ G v Q hk J F hm;exact Y E _ (yaA_ _ ((sK_ (f:=f) B).2 hl))
  . intro z a lo hi m hk e V U
    have d:=k3 e;exact K 3 1 d (by rw[X d];decide) (wx_ (aT_ ps) f) (by rw[rl.eq_def,yag_ (by rw[d];decide),yag_ (by rw[d];decide)]<;>rfl) _ (by rw[e];exact AZ_ m hk V U)
end
end Go.Vs
namespace Go.Vs
open Go Go.Sx
def bB_ (m:Nat) (y:Fc) (q:List Fc):List Fc:=if q.length<=m/\y ∉ q then q++[y] else q
abbrev idk:List Fc->List Fc:=λq=>q
theorem sf_ (m:Nat) (y:Fc) (q:List Fc):∃ t,bB_ m y q=q++t:=by
 unfold bB_;split
 .exact⟨[y],rfl⟩
 exact⟨[],by simp⟩
theorem lc_ (m:Nat):∀ (L q:List Fc),∃ t,emits (bB_ m) L q=q++t
  | [],q=>⟨[],by simp[emits]⟩
  | y::L,q=>by
    obtain⟨t,h⟩:=sf_ m y q;obtain⟨u,d⟩:=lc_ m L (bB_ m y q);exact⟨t++u,by rw[<-yar_,<-h,<-d];rfl⟩
theorem fI_ (m:Nat):Grows (bB_ m) idk:=⟨λy s z d=>by obtain⟨t,h⟩:=sf_ m y s;rw[h];exact yam_ _ d⟩
theorem gH_ (m:Nat):∀ (L q:List Fc) (z:Fc),z∈emits (bB_ m) L q->z∈q\/z∈L
 | [],q,z,h=>.inl h
 | y::L,q,z,h=>by
   rcases gH_ m L (bB_ m y q) z h with h|h
   . unfold bB_ at h
     split at h
     . rcases yah_.1 h with h|h
       . exact .inl h
       . exact .inr (by simp at h;simp[h])
     . exact .inl h
   . exact .inr (yaE_ _ h)
theorem jx_ (m:Nat):∀ (L q:List Fc),q.Nodup->(emits (bB_ m) L q).Nodup
 | [],q,h=>h
 | y::L,q,h=>by
   refine jx_ m L (bB_ m y q) ?_;unfold bB_
   split
   . rename_i B
     rw[ybf_];exact⟨h,by simp,λa v b d e=>by simp at d;subst d;subst e;exact B.2 v⟩
   . exact h
theorem rr_ (m:Nat):∀ (L q:List Fc),q.length<=m+1->(emits (bB_ m) L q).length<=m+1
 | [],q,h=>h
 | y::L,q,h=>by
   refine rr_ m L (bB_ m y q) ?_;unfold bB_
   split
   . rename_i d;simp;exact d.1
   . exact h
theorem jy_ (m:Nat):∀ (L q:List Fc),(emits (bB_ m) L q).length<=m->∀ y∈L,y∈emits (bB_ m) L q
 | [],q,_,y,d=>by simp at d
 | x::L,q,h,y,d=>by
   have e:emits (bB_ m) (x::L) q=emits (bB_ m) L (bB_ m x q):=rfl;rw[e]at h ⊢;rcases yan_.1 d with rfl|d
   . obtain⟨t,B⟩:=lc_ m L (bB_ m y q)
     rw[B]at h ⊢;refine yam_ _ ?_;have hl:(bB_ m y q).length<=m:=by rw[yaf_]at h;omega
     unfold bB_ at hl ⊢
     split
     . simp
     . rename_i v
       rw[yag_ v]at hl;exact Classical.byContradiction λC=>v ⟨hl,C⟩
   . exact jy_ m L _ h y d
theorem mT_ {ps:List Pc} {A:List Str} {m:Nat} {f:Fc}:∀ (l:List Pc) (s:List Fc),(∀ z∈l,z∈ps/\z.kind=2)->(∀ y∈s,Der ps A y)->∀ y∈er_ (bB_ m) idk f l s,Der ps A y
 | [],s,_,hs,y,d=>hs y d
 | z::l,s,hl,hs,y,d=>by
   have e:=hl z zaj_;simp only[er_,yck_]at d;refine mT_ l _ (λz e=>hl z zbJ_) (λy d=>?_) y d
   split at d
   . rename_i v
     have:=gH_ m [X_ f.a z.c] s y d;rcases this with h|h
     . exact hs y h
     . simp at h;subst h
       exact Der.step (.r4 e.1 e.2 (hs _ v.1) (hs _ v.2))
   . exact hs y d
section
variable {ps:List Pc} {A:List Str} {m:Nat} {x:Ix} {S Fm:Fc->Prop} {f:Fc}
theorem wk_ (J:∀ x∈ps,x.vok) (B:x.of S Fm) (hS:∀ y,S y->y.form) (hk:f.kind=1\/f.kind=2\/f.kind=3) (e:f.form) (j:Nat) (s:List Fc×List Fc) (v:∀ y,S y->y∈s.1) (d:f∈s.1) (H:∀ y∈s.1,Der ps A y) :
    ∀ y∈(rl (bB_ m) idk (aT_ ps) x f j s).1,Der ps A y:=by
  have E:∀ L,(∀ y∈L,hX_ ps A (·∈s.1) y)->∀ y∈emits (bB_ m) L s.1,Der ps A y:=λL M y G=>by
    rcases gH_ m L s.1 y G with h|h
    . exact H y h
    . exact Der.step ((M y h).mono (λx B=>⟨x,B,x.frm,rfl⟩) (λ_ h=>h) H (λ_ _ h=>h))
  unfold rl
  split
  . rename_i C
    split
    . exact E _ (pr_ C e d)
    . exact mT_ _ s.1 (λz N=>by have:=pm2.1 N;exact⟨this.1,this.2.1⟩) H
    . exact E _ (tQ_ C e d)
    . exact E _ (oP_ J B hS v C e d)
    . exact E _ (nd_ B hS v C e d)
    . rw[fc_];exact E _ (rW_ C e d)
  . split
    . rename_i F
      split
      . exact E _ (po_ F e d)
      . exact E _ (ts_ B hS v F e d)
      . exact E _ (oO_ B hS v F e d)
      . simp only
        split
        . rename_i K
          exact E [X_ f.a [33]] (λy G=>by simp at G;subst G;exact nc_ F e d K)
        . exact H
    . rename_i C F
      have I:f.kind=3:=by omega
      split
      . exact E _ (uh_ B hS v I e d)
      . exact E _ (ww_ I e d)
theorem ob_ (B:∀ x∈ps,x.vok) (E:x.of S Fm) (hS:∀ y,S y->y.form) (h:f.form) (s:List Fc×List Fc) (d:∀ y,S y->y∈s.1) (e:f∈s.1) (C:∀ y∈s.1,Der ps A y) (j:Nat) :
    ∀ y∈(rls (bB_ m) idk (aT_ ps) x f j s).1,Der ps A y:=by
  induction j with
  | zero=>exact C
  | succ j ih=>exact wk_ B E hS (ju_ h) h j _ (λy v=>lv_ (fI_ m) j s y (d y v)) (lv_ (fI_ m) j s f e) ih
end
inductive Fmd (fm:List Fc):Fc->Prop
  | base {y:Fc} (h:y∈fm):Fmd fm y
  | meet {y z:Fc} (hy:Fmd fm y) (hz:Fmd fm z) (ha:z.a=y.a) (hr:z.r=y.r) (hl:max y.lo z.lo<=min y.hi z.hi):Fmd fm (dC_ y z)
theorem Fmd.mono {fm d:List Fc} (h:∀ y∈fm,y∈d) {y:Fc} (e:Fmd fm y):Fmd d y:=by
  induction e with
  | base h1=>exact .base (h _ h1)
  | meet _ _ ha hr hl ih1 ih2=>exact .meet ih1 ih2 ha hr hl
structure InvA (ps:List Pc) (A:List Str) (m n:Nat) (q fm:List Fc) (x:Ix):Prop where
  nd:q.Nodup
  len:q.length<=m
  le:n<=q.length
  der:∀ y∈q,Der ps A y
  form:∀ y∈q,y.form
  ix:x.of (·∈q.take n) (·∈fm)
  fmq:∀ y∈fm,y∈q/\y.kind=3
  firm:∀ y∈q,y.kind=3->Fmd fm y
  st:∀ a∈A,X_ a a∈q/\X_ a [42]∈q/\∀ z∈ps,z.kind=7->ae_ a z.r a∈q
  cl:∀ y,One ps A (·∈q.take n) (λy z=>y∈fm\/z∈fm) y->y∈q
theorem Der.form {p:List Pc} {A:List Str} (d:∀ x∈p,x.vok) {y:Fc} (h:Der p A y):y.form:=h _ λ_ e=>One.form d (λ_ h=>h) e
theorem mA_ {stp:Fc->List Fc->List Fc} {kof:List Fc->List Fc} (hk:∀ i s z,z∈kof (stp i s)->z∈kof s\/z=i) (h:Grows stp kof) (f:Fc):∀ (l:List Pc) (s fm:List Fc),∀ y∈l,an_ f.a y.r y.lo y.hi∈kof s\/an_ f.a y.r y.lo y.hi∈(cl_ stp kof f l (s,fm)).2
 | [],s,fm,y,d=>by simp at d
 | x::l,s,fm,y,d=>by
   have e:cl_ stp kof f (x::l) (s,fm)=cl_ stp kof f l (stp (an_ f.a x.r x.lo x.hi) s,if an_ f.a x.r x.lo x.hi∈kof s then fm else an_ f.a x.r x.lo x.hi::fm):=rfl;rw[e]
   by_cases v:an_ f.a y.r y.lo y.hi=an_ f.a x.r x.lo x.hi
   . rw[v]
     by_cases C:an_ f.a x.r x.lo x.hi∈kof s
     . exact .inl C
     . refine .inr ((hv_ h f l _ _ _).2 (.inl ?_))
       rw[yag_ C];simp
   . rcases yan_.1 d with rfl|d
     . exact absurd rfl v
     . rcases mA_ hk h f l (stp (an_ f.a x.r x.lo x.hi) s) (if an_ f.a x.r x.lo x.hi∈kof s then fm else an_ f.a x.r x.lo x.hi::fm) y d with B|B
       . exact (hk _ _ _ B).imp id λq=>absurd q v
       . exact .inr B
theorem xL_ {q:List Fc} {n:Nat} {f z:Fc} (d:q[n]? = some f):z∈q.take (n+1)↔z∈q.take n\/z=f:=by
  rw[yaz_,d];simp
theorem BT_ {ps:List Pc} {A:List Str} {S Fm C good:Fc->Prop} {f:Fc} (v:Cmpl ps (λy=>S y\/y=f) Fm C good f) (B:∀ y,S y\/y=f->C y) (h:∀ y,One ps A S (λy z=>Fm y\/Fm z) y->good y) (y:Fc) (E:One ps A (λy=>S y\/y=f) (λy z=>Fm y\/Fm z) y):good y:=by
 cases E with
 | r1 d=>exact h _ (.r1 d)
 | r2 d=>exact h _ (.r2 d)
 | r10 hx hk d=>exact h _ (.r10 hx hk d)
 | r3 hx hk d=>exact d.elim (λq=>h _ (.r3 hx hk q)) (λq=>v.c3 _ _ hx hk q.symm)
 | r4 hx hk d e =>
   rcases d with d|d
   . rcases e with e|e
     . exact h _ (.r4 hx hk d e)
     . exact v.c4' _ _ hx hk e.symm (B _ (.inl d))
   . exact v.c4 _ _ hx hk d.symm (B _ e)
 | r5 hx hk d=>exact d.elim (λq=>h _ (.r5 hx hk q)) (λq=>v.c5 _ _ hx hk q.symm)
 | r6 hx hk d=>exact d.elim (λq=>h _ (.r6 hx hk q)) (λq=>v.c6 _ _ _ hx hk q.symm)
 | r7 hx hk d e =>
   rcases d with d|d
   . rcases e with e|e
     . exact h _ (.r7 hx hk d e)
     . exact v.c7' _ _ _ _ hx hk e.symm (.inl d)
   . exact v.c7 _ _ _ _ hx hk d.symm e
 | r8 hx hk d e =>
   rcases d with d|d
   . rcases e with e|e
     . exact h _ (.r8 hx hk d e)
     . exact v.c8' _ _ _ hx hk e.symm (.inl d)
   . exact v.c8 _ _ _ hx hk d.symm e
 | r9 d e =>
   rcases d with d|d
   . rcases e with e|e
     . exact h _ (.r9 d e)
     . exact v.c9' _ _ _ e.symm (.inl d)
   . exact v.c9 _ _ _ d.symm (B _ e)
 | r11 hx hk d=>exact d.elim (λq=>h _ (.r11 hx hk q)) (λq=>v.c11 _ _ hx hk q.symm)
 | @r12 a r lo hi lo' hi' d e hm hl =>
   rcases d with d|d
   . rcases e with e|e
     . exact h _ (.r12 d e hm hl)
     . have:=v.c12 (an_ a r lo hi) zbs_ (.inl d) rfl zbs_ zbs_ (by rw[<-e];exact hm.symm) (by rw[<-e];simp only[an_];omega)
       rw[<-e]at this;rw[Int.max_comm,Int.min_comm];exact this
   . have:=v.c12 (an_ a r lo' hi') zbB_ e rfl zbB_ zbB_ (by rw[<-d];exact hm) (by rw[<-d];exact hl)
     rw[<-d]at this;exact this
 | @r13 a r lo hi lo' hi' d e hm hl =>
   rcases d with d|d
   . rcases e with e|e
     . exact h _ (.r13 d e hm hl)
     . have:=v.c13 (an_ a r lo hi) zbs_ (.inl d) rfl zbs_ zbs_ (by rw[<-e];exact hm.symm) (by rw[<-e];simp only[an_];omega)
       rw[<-e]at this;exact this
   . have:=v.c13 (an_ a r lo' hi') zbB_ e rfl zbB_ zbB_ (by rw[<-d];exact hm) (by rw[<-d];exact hl)
     rw[<-d]at this;exact this
 | r14 hx hk d g1 g2=>exact d.elim (λq=>h _ (.r14 hx hk q g1 g2)) (λq=>v.c14 _ _ _ _ hx hk q.symm g1 g2)
theorem One.congrM {p:List Pc} {A:List Str} {S:Fc->Prop} {M e:Fc->Fc->Prop} (d:∀ y z,S y->S z->M y z->e y z) {y:Fc} (h:One p A S M y):One p A S e y:=by
  cases h with
  | r1 h=>exact .r1 h
  | r2 h=>exact .r2 h
  | r10 hx hk h=>exact .r10 hx hk h
  | r3 hx hk h=>exact .r3 hx hk h
  | r4 hx hk h h'=>exact .r4 hx hk h h'
  | r5 hx hk h=>exact .r5 hx hk h
  | r6 hx hk h=>exact .r6 hx hk h
  | r7 hx hk h h'=>exact .r7 hx hk h h'
  | r8 hx hk h h'=>exact .r8 hx hk h h'
  | r9 h h'=>exact .r9 h h'
  | r11 hx hk h=>exact .r11 hx hk h
  | r12 h h' hm hl=>exact .r12 h h' (d _ _ h h' hm) hl
  | r13 h h' hm hl=>exact .r13 h h' (d _ _ h h' hm) hl
  | r14 hx hk h h1 h2=>exact .r14 hx hk h h1 h2
section
variable {ps:List Pc} {A:List Str} {m n:Nat} {q fm:List Fc} {x:Ix} {f:Fc}
theorem yp_ (j k:Nat) (s:List Fc×List Fc):∃ t,(rls (bB_ m) idk (aT_ ps) x f (j+k) s).1=(rls (bB_ m) idk (aT_ ps) x f j s).1++t:=by
  induction k with
  | zero=>exact⟨[],by simp⟩
  | succ k ih =>
    obtain⟨t,h⟩:=ih;obtain⟨L,e⟩:=sq_ (ps:=ps) (x:=x) (f:=f) (fI_ m) (j+k) (rls (bB_ m) idk (aT_ ps) x f (j+k) s);obtain⟨u,d⟩:=lc_ m L (rls (bB_ m) idk (aT_ ps) x f (j+k) s).1;exact⟨t++u,by rw[<-ycG_,rls,e,d,h,yar_]⟩
theorem sr_ (j:Nat) (s:List Fc×List Fc) (h:f.kind=1->j<=4) (H:f.kind=3->j≠0) (hk:f.kind=1\/f.kind=2\/f.kind=3):∀ y∈(rl (bB_ m) idk (aT_ ps) x f j s).1,y.kind=3->y∈s.1:=by
 have E:∀ L:List Fc,(∀ y∈L,y.kind≠3)->∀ y∈emits (bB_ m) L s.1,y.kind=3->y∈s.1:=λL K y d hk =>
   (gH_ m L s.1 y d).elim id λq=>absurd hk (K y q)
 have B:∀ {α:Type} (l:List α) (g:α->Fc),(∀ a,(g a).kind≠3)->∀ y∈l.map g,y.kind≠3:=λl g C y d=>by
   obtain⟨a,_,rfl⟩:=yap_.1 d;exact C a
 have v:∀ {α β:Type} (l:List α) (k:α->List β) (g:α->β->Fc),(∀ a b,(g a b).kind≠3)->∀ y∈l.flatMap (λa=>(k a).map (g a)),y.kind≠3:=λl k g C y d=>by
   obtain⟨a,_,d⟩:=yas_.1 d;exact B _ _ (C a) y d
 unfold rl
 split
 .rename_i F
  split
  .exact E _ (B _ _ λ_=>by simp[X_])
  .obtain⟨L,I,P,_⟩:=fC_ (fI_ m) f (lat (aT_ ps) ⟨2,[],f.b⟩) s.1
   rw[I];exact E L λy d=>by obtain⟨_,_,rfl,_⟩:=P y d;simp[X_]
  .exact E _ (B _ _ λ_=>by simp[ae_])
  .exact E _ (v _ _ _ λ_ _=>by simp[X_])
  .refine E _ λy d=>?_
   unfold dq_ at d
   split at d
   .exact B _ _ (λ_=>by simp[X_]) y d
   simp at d
  have:=h F
  rename_i J M N G O
  have e:j=0\/j=1\/j=2\/j=3\/j=4:=by omega
  rcases e with e|e|e|e|e
  .exact (J e).elim
  .exact (M e).elim
  .exact (N e).elim
  .exact (G e).elim
  exact (O e).elim
 split
 .split
  .exact E _ (B _ _ λ_=>by simp[ae_])
  .refine E _ λy d=>?_
   rcases yah_.1 d with d|d
   .exact v _ _ _ (λ_ _=>by simp[ae_]) y d
   exact v _ _ _ (λ_ _=>by simp[ae_]) y d
  .exact E _ (v _ _ _ λ_ _=>by simp[X_])
  simp only
  split
  .exact E [X_ f.a [33]] (by simp[X_])
  exact λy d _=>d
 rename_i F Q
 split
 .exact absurd rfl (H zaa_)
 exact E _ (B _ _ λ_=>by simp[X_])
theorem pK_ (j:Nat) (s:List Fc×List Fc) (h:f.kind=1->j<=5) (B:f.kind≠3) (hk:f.kind=1\/f.kind=2\/f.kind=3):∀ y∈(rls (bB_ m) idk (aT_ ps) x f j s).1,y.kind=3->y∈s.1:=by
  induction j with
  | zero=>exact λy v _=>v
  | succ j ih=>exact λy v e=>ih (λd=>by have:=h d;omega) y (sr_ j _ (λd=>by have:=h d;omega) (λd=>absurd d B) hk y v e) e
theorem zc_ (hr:∀ x∈ps,x.vok) (inv:InvA ps A m n q fm x) (hn:q[n]? = some f) {C:List Fc×List Fc} (G:rls (bB_ m) idk (aT_ ps) (x.add (decide (f∈fm)) f) f (nrl f) (q,fm)=C) (hl:C.1.length<=m) :
    InvA ps A m (n+1) C.1 C.2 (x.add (decide (f∈fm)) f):=by
  have P:f∈q:=yad_ hn;have hlt:n<q.length:=(yac_.1 hn).1;have K:=inv.form f P;have hk:=ju_ K;have O:(x.add (decide (f∈fm)) f).of (λy=>y∈q.take n\/y=f) (·∈fm):=Ix.of_add inv.ix f zaj_;have F:∀ y,(y∈q.take n\/y=f)->y∈q:=λy d=>d.elim (λh=>ybO_ h) (λh=>h▸P)
  obtain⟨L,W⟩:=lw_ (ps:=ps) (x:=x.add (decide (f∈fm)) f) (f:=f) (fI_ m) (nrl f) (q,fm);rw[G]at W;obtain⟨t,ht⟩:=lc_ m L q;have M:C.1=q++t:=by rw[W];exact ht
  have B:∀ y∈q,y∈C.1:=λy d=>by rw[M];exact yam_ _ d
  have V:C.1.take (n+1)=q.take (n+1):=by rw[M,ycq_ zaa_]
  have R:∀ y,y∈C.1.take (n+1)↔(y∈q.take n\/y=f):=λy=>by rw[V];exact xL_ hn
  have T:∀ y∈C.1,Der ps A y:=by rw[<-G];exact ob_ hr O (λy d=>inv.form y (F y d)) K (q,fm) F P inv.der (nrl f)
  have H:∀ j,j<nrl f->∀ L,(rls (bB_ m) idk (aT_ ps) (x.add (decide (f∈fm)) f) f (j+1) (q,fm)).1=emits (bB_ m) L (rls (bB_ m) idk (aT_ ps) (x.add (decide (f∈fm)) f) f j (q,fm)).1->∀ y∈L,y∈C.1:=by
    intro j hj L W y d;obtain⟨u,Z⟩:=yp_ (m:=m) (ps:=ps) (x:=x.add (decide (f∈fm)) f) (f:=f) (j+1) (nrl f - (j+1)) (q,fm);rw[show j+1+(nrl f - (j+1))=nrl f by omega,G]at Z;have hle:(rls (bB_ m) idk (aT_ ps) (x.add (decide (f∈fm)) f) f (j+1) (q,fm)).1.length<=m:=by rw[Z,yaf_]at hl;omega
    rw[W]at hle;have:=jy_ m L _ hle y d;rw[Z,W];exact yam_ _ this
  have hc:=yo_ (fI_ m) hr O (q,fm) (λ_ _=>ycU_) (.inr rfl) F (·∈C.1) (λy d=>B y (F y d)) H
  -- the firm ones
  have E:(∀ y∈fm,y∈C.2)/\(∀ y∈C.2,y∈fm\/(y ∉ q/\y∈C.1/\y.kind=3))/\(∀ y∈C.1,y.kind=3->y∈q\/y∈C.2\/∃ z,(z∈q.take n\/z=f)/\z.kind=3/\f.kind=3/\z.a=f.a/\z.r=f.r/\max f.lo z.lo<=min f.hi z.hi/\y=dC_ f z):=by
    by_cases Q:f.kind=1
    . have e6:nrl f=5+1:=by simp[nrl,Q]
      rw[e6,rls]at G;have hf5:(rls (bB_ m) idk (aT_ ps) (x.add (decide (f∈fm)) f) f 5 (q,fm)).2=fm:=sp_ 5 (q,fm) (λ_=>yaj_ _);have U:=pK_ (m:=m) (ps:=ps) (x:=x.add (decide (f∈fm)) f) (f:=f) 5 (q,fm) (λ_=>yaj_ _) zaa_ hk;have hq5:∀ y∈q,y∈(rls (bB_ m) idk (aT_ ps) (x.add (decide (f∈fm)) f) f 5 (q,fm)).1:=λy d=>lv_ (fI_ m) 5 (q,fm) y d
      have Y:=H 5 zaa_;rw[rls]at Y;generalize rls (bB_ m) idk (aT_ ps) (x.add (decide (f∈fm)) f) f 5 (q,fm)=s5 at G hf5 U hq5 Y
      have er:rl (bB_ m) idk (aT_ ps) (x.add (decide (f∈fm)) f) f 5 s5=cl_ (bB_ m) idk f (lat (aT_ ps) ⟨8,[],f.b⟩) s5:=by rw[rl.eq_def,yao_ Q]<;>rfl
      rw[er]at G Y;have es5:s5=(s5.1,fm):=by rw[<-hf5]
      rw[es5]at G Y;have Hv:=Y _ (fc_ (bB_ m) idk f _ s5.1 fm);refine⟨λy d=>?_,λy d=>?_,λy d J=>?_⟩
      . rw[<-G];exact (hv_ (fI_ m) f _ _ _ _).2 (.inl d)
      . rw[<-G]at d
        rcases (hv_ (fI_ m) f _ _ _ _).1 d with h|h
        . exact .inl h
        . rcases nE_ f _ _ _ _ h.2 with g|⟨z,I,rfl⟩
          . exact .inl g
          . exact .inr ⟨λhq=>h.1 (hq5 _ hq),Hv _ (yap_.2 ⟨z,I,rfl⟩),rfl⟩
      . have hy':=d
        rw[<-G,fc_]at d;rcases gH_ m _ _ y d with h|h
        . exact .inl (U y h J)
        . obtain⟨z,I,rfl⟩:=yap_.1 h
          rcases mA_ (stp:=bB_ m) (kof:=idk) (λi s z I=>(gH_ m [i] s z I).imp id zaj_) (fI_ m) f _ s5.1 fm z I with g|g
          . exact .inl (U _ g rfl)
          . exact .inr (.inl (by rw[<-G];exact g))
    . have hf2:C.2=fm:=by rw[<-G];exact sp_ _ (q,fm) (λh=>absurd h Q)
      refine⟨λy d=>by rw[hf2];exact d,λy d=>.inl (by rw[<-hf2];exact d),λy d J=>?_⟩
      by_cases h3:f.kind=3
      . have e2:nrl f=0+1+1:=by simp[nrl,h3]
        rw[e2,rls]at G;rw[<-G]at d;have X:=sr_ 1 _ (λh=>absurd h Q) (λ_=>by decide) hk y d J;rw[rls,rl.eq_def,yag_ Q,yag_ zaa_]at X;rcases gH_ m _ _ y X with h|h
        . exact .inl h
        . rcases yah_.1 h with h|h
          . obtain⟨z,I,rfl⟩:=yap_.1 h
            obtain⟨I,hcc⟩:=yaX_.1 I;obtain⟨g1,g2,g3,g4⟩:=lB_ O I;simp only[eT_,yaq_,ybp_,yaV_,Int.not_lt]at hcc;exact .inr (.inr ⟨z,g1,g2,h3,g3,g4,hcc.1,rfl⟩)
          . unfold ib_ at h
            split at h
            . simp at h;rw[h]at J;simp[X_]at J
            . simp at h
      . rw[<-G]at d
        exact .inl (pK_ _ _ (λh=>absurd h Q) h3 hk y d J)
  have N:∀ y,(y∈q.take n\/y=f)->(y∈fm↔y∈C.2):=λy d=>⟨λh=>E.1 y h,λh=>(E.2.1 y h).elim id λg=>absurd (F y d) g.1⟩
  refine⟨?_,hl,?_,T,λy d=>(T y d).form hr,?_,?_,?_,?_,?_⟩
  . rw[W];exact jx_ m L q inv.nd
  . rw[M,yaf_];omega
  . have:=Ix.of_firm O N
    have e:(λy=>y∈C.1.take (n+1))=(λy=>y∈q.take n\/y=f):=funext λy=>propext (R y)
    rw[e];exact this
  . intro y d
    rcases E.2.1 y d with h|h
    . exact⟨B y (inv.fmq y h).1,(inv.fmq y h).2⟩
    . exact h.2
  . intro y d hk3
    rcases E.2.2 y d hk3 with h|h|⟨z,Q,h2,h3,h4,h5,h6,rfl⟩
    . exact (inv.firm y h hk3).mono E.1
    . exact .base h
    . exact .meet ((inv.firm f P h3).mono E.1) ((inv.firm z (F z Q) h2).mono E.1) h4 h5 h6
  . intro a ha
    obtain⟨g1,g2,g3⟩:=inv.st a ha;exact⟨B _ g1,B _ g2,λz I hk=>B _ (g3 z I hk)⟩
  . intro y d
    have e:(λy=>y∈C.1.take (n+1))=(λy=>y∈q.take n\/y=f):=funext λy=>propext (R y)
    rw[e]at d;refine BT_ (A:=A) hc F (λz I=>B z (inv.cl z I)) y (d.congrM λu v Z hv hm=>hm.imp (N u Z).2 (N v hv).2)
theorem mm_le {a b c d e g:Int} (h:max a (max b c)<=min d (min e g)):max a b<=min d e:=by omega
theorem zd_ (inv:InvA ps A m q.length q fm x) (y:Fc):Der ps A y↔y∈q:=by
 refine⟨λh=>h.least λy J=>?_,inv.der y⟩;have d:∀ y,One ps A (·∈q) (λy z=>y∈fm\/z∈fm) y->y∈q:=λy J=>inv.cl y (by rw[ycr_];exact J)
 have N:∀ f,Fmd fm f->∀ z∈q,z.kind=3->z.a=f.a->z.r=f.r->(max z.lo f.lo<=min z.hi f.hi->dC_ z f∈q)/\(min z.hi f.hi<max z.lo f.lo->X_ z.a [33]∈q):=by
   intro f Z
   induction Z with
   | @base f hb =>
     intro z I hk R H;obtain⟨G,Q⟩:=inv.fmq f hb;have V:=(ie_ (inv.form z I) hk).1;have ef:=(ie_ (inv.form f G) Q).1;rw[<-R,<-H]at ef;refine⟨λhl=>d _ (.r12 (by rw[<-V];exact I) (by rw[<-ef];exact G) (.inr (by rw[<-ef];exact hb)) hl),λhl=>d _ (.r13 (r:=z.r) (by rw[<-V];exact I) (by rw[<-ef];exact G) (.inr (by rw[<-ef];exact hb)) hl)⟩
   | @meet y w J hw R H hl ih1 ih2 =>
     intro z I hk P O;have F:z.a=y.a:=P;have C:z.r=y.r:=O;obtain⟨i1,X⟩:=ih1 z I hk F C;have T:(dC_ y w).lo=max y.lo w.lo:=rfl;have M:(dC_ y w).hi=min y.hi w.hi:=rfl;rw[T,M]
     by_cases L:max z.lo y.lo<=min z.hi y.hi
     . have K:=i1 L
       obtain⟨U,W⟩:=ih2 (dC_ z y) K rfl (by rw[R,<-F];rfl) (by rw[H,<-C];rfl);have e1:(dC_ z y).lo=max z.lo y.lo:=rfl;have Y:(dC_ z y).hi=min z.hi y.hi:=rfl;rw[e1,Y]at U W;refine⟨λB=>?_,λB=>W (by rw[Int.max_assoc,Int.min_assoc];exact B)⟩;have:=U (by rw[Int.max_assoc,Int.min_assoc];exact B)
       have e:dC_ (dC_ z y) w=dC_ z (dC_ y w):=by
         simp only[dC_,an_];rw[Int.max_assoc,Int.min_assoc]
       rw[<-e];exact this
     . exact⟨λB=>absurd (mm_le B) L,λ_=>X (Int.not_le.1 L)⟩
 have E:∀ {a r:Str} {lo hi lo' hi':Int},an_ a r lo hi∈q->an_ a r lo' hi'∈q->(max lo lo'<=min hi hi'->an_ a r (max lo lo') (min hi hi')∈q)/\(min hi hi'<max lo lo'->X_ a [33]∈q):=λh v=>N _ (inv.firm _ v rfl) _ h rfl rfl rfl
 cases J with
 | r1 h=>exact d _ (.r1 h)
 | r2 h=>exact d _ (.r2 h)
 | r10 hx hk h=>exact d _ (.r10 hx hk h)
 | r3 hx hk h=>exact d _ (.r3 hx hk h)
 | r4 hx hk h v=>exact d _ (.r4 hx hk h v)
 | r5 hx hk h=>exact d _ (.r5 hx hk h)
 | r6 hx hk h=>exact d _ (.r6 hx hk h)
 | r7 hx hk h v=>exact d _ (.r7 hx hk h v)
 | r8 hx hk h v=>exact d _ (.r8 hx hk h v)
 | r9 h v=>exact d _ (.r9 h v)
 | r11 hx hk h=>exact d _ (.r11 hx hk h)
 | r12 h v hm hl=>exact (E h v).1 hl
 | r13 h v hm hl=>exact (E h v).2 hl
 | r14 hx hk h K h2=>exact d _ (.r14 hx hk h K h2)
end
def fp_ (loops:List Str) (A:List Str):List Fc:=A.flatMap λa=>X_ a a::X_ a [42]::loops.map λr=>ae_ a r a
theorem mU_ {ps:List Pc} {A:List Str} {S:Fc->Prop} {M:Fc->Fc->Prop}:∀ y∈fp_ (aB_ ps) A,One ps A S M y:=by
 intro y d;obtain⟨a,e,d⟩:=yas_.1 d;simp only[yan_]at d;rcases d with rfl|rfl|d
 .exact .r1 e
 .exact .r2 e
 obtain⟨r,v,rfl⟩:=yap_.1 d;obtain⟨z,C,rfl⟩:=yap_.1 v;obtain⟨B,h⟩:=yaX_.1 C;exact .r10 B (yaZ_ h) e
theorem hl_ {ps:List Pc} {A:List Str} {a:Str} (d:a∈A):X_ a a∈fp_ (aB_ ps) A/\X_ a [42]∈fp_ (aB_ ps) A/\∀ z∈ps,z.kind=7->ae_ a z.r a∈fp_ (aB_ ps) A:=by
  refine⟨yas_.2 ⟨a,d,by simp⟩,yas_.2 ⟨a,d,by simp⟩,λz e hk=>yas_.2 ⟨a,d,?_⟩⟩;exact yaE_ _ (yaE_ _ (yap_.2 ⟨z.r,yap_.2 ⟨z,yaX_.2 ⟨e,yaC_ hk⟩,rfl⟩,rfl⟩))
structure LoopA (ps:List Pc) (A:List Str) (m n:Nat) (q fm:List Fc) (x:Ix):Prop where
  nd:q.Nodup
  len:q.length<=m+1
  le:n<=q.length
  der:∀ y∈q,Der ps A y
  ix:x.of (·∈q.take n) (·∈fm)
  inv:q.length<=m->InvA ps A m n q fm x
section
variable {ps:List Pc} {A:List Str} {m n:Nat} {q fm:List Fc} {x:Ix} {f:Fc}
theorem sM_ (L:∀ x∈ps,x.vok) {q:List Fc} (F:emits (bB_ m) (fp_ (aB_ ps) A) []=q):LoopA ps A m 0 q [] Ix.nil:=by
 have C:∀ y∈q,y∈fp_ (aB_ ps) A:=λy v=>by rw[<-F]at v;exact (gH_ m _ _ y v).elim (λh=>by simp at h) id
 have d:∀ y∈q,Der ps A y:=λy v=>Der.step (mU_ y (C y v))
 have H:q.Nodup:=by rw[<-F];exact jx_ m _ _ ycA_
 have G:Ix.nil.of (·∈q.take 0) (·∈([]:List Fc)):=by
   have e:(λy=>y∈q.take 0)=(λ_=>False):=funext λy=>by simp
   rw[e];exact Ix.of_nil _
 refine⟨H,by rw[<-F];exact rr_ m _ _ zaj_,ybC_ _,d,G,λhl=>⟨H,hl,ybC_ _,d,λy v=>(d y v).form L,G,by simp,λy v hk=>?_,λa I=>?_,λy v=>?_⟩⟩
 .exfalso
  obtain⟨a,_,h⟩:=yas_.1 (C y v);simp only[yan_]at h;rcases h with rfl|rfl|h
  .simp[X_]at hk
  .simp[X_]at hk
  obtain⟨r,_,rfl⟩:=yap_.1 h;simp[ae_]at hk
 .obtain⟨K,M,N⟩:=hl_ (ps:=ps) I
  rw[<-F]at hl ⊢;exact⟨jy_ m _ _ hl _ K,jy_ m _ _ hl _ M,λz J hk=>jy_ m _ _ hl _ (N z J hk)⟩
 rw[<-F]at hl;have B:∀ a∈A,_:=λa I=>hl_ (ps:=ps) I
 have E:∀ z∈fp_ (aB_ ps) A,z∈q:=λz J=>by rw[<-F];exact jy_ m _ _ hl z J
 cases v with
 | r1 h=>exact E _ (B _ h).1
 | r2 h=>exact E _ (B _ h).2.1
 | r10 hx hk h=>exact E _ ((B _ h).2.2 _ hx hk)
 | r3 hx hk h=>simp at h
 | r4 hx hk h h'=>simp at h
 | r5 hx hk h=>simp at h
 | r6 hx hk h=>simp at h
 | r7 hx hk h h'=>simp at h
 | r8 hx hk h h'=>simp at h
 | r9 h h'=>simp at h
 | r11 hx hk h=>simp at h
 | r12 h h' hm hl=>simp at h
 | r13 h h' hm hl=>simp at h
 | r14 hx hk h h1 h2=>simp at h
theorem gn_ (E:∀ x∈ps,x.vok) (h:LoopA ps A m n q fm x) (G:q[n]? = some f) (j:Nat) {e:List Fc×List Fc} (F:rls (bB_ m) idk (aT_ ps) (x.add (decide (f∈fm)) f) f j (q,fm)=e) :
    e.1.Nodup/\e.1.length<=m+1/\(∀ y∈e.1,Der ps A y)/\∃ t,e.1=q++t:=by
  have d:f∈q:=yad_ G;have v:∀ y,(y∈q.take n\/y=f)->y∈q:=λy C=>C.elim (λh=>ybO_ h) (λh=>h▸d)
  obtain⟨L,B⟩:=lw_ (ps:=ps) (x:=x.add (decide (f∈fm)) f) (f:=f) (fI_ m) j (q,fm);rw[F]at B;refine⟨by rw[B];exact jx_ m L q h.nd,by rw[B];exact rr_ m L q h.len,?_,by rw[B];exact lc_ m L q⟩;rw[<-F];exact ob_ E (Ix.of_add h.ix f zaj_) (λy C=>(h.der y (v y C)).form E) ((h.der f d).form E) (q,fm) v d h.der j
theorem km_ (e:∀ x∈ps,x.vok) (h:LoopA ps A m n q fm x) (y:q[n]? = some f) {d:List Fc×List Fc} (v:rls (bB_ m) idk (aT_ ps) (x.add (decide (f∈fm)) f) f (nrl f) (q,fm)=d) (hl:d.1.length<=m) :
    LoopA ps A m (n+1) d.1 d.2 (x.add (decide (f∈fm)) f):=by
  obtain⟨_,_,_,t,B⟩:=gn_ e h y (nrl f) v;have hi:=zc_ e (h.inv (by rw[B,yaf_]at hl;omega)) y v hl;exact⟨hi.nd,by have:=hi.len;omega,hi.le,hi.der,hi.ix,λ_=>hi⟩
theorem uj_ (h:LoopA ps A m q.length q fm x) (hl:q.length<=m) (y:Fc):Der ps A y↔y∈q:=zd_ (h.inv hl) y
end
theorem zf_eq (x:Pc):∃ n,{ x.zf with frm:=n }=x:=⟨x.frm,rfl⟩
theorem rY_ {p:List Pc} {A:List Str} {y:Fc}:Der (uniq [] p) A y↔Der p A y:=by
 constructor
 .refine Der.mono (λx d=>?_) (λ_ h=>h)
  rcases (kB_ p [] x).1 d with h|⟨z,e,rfl⟩
  .simp at h
  exact⟨z,e,0,rfl⟩
 exact Der.mono (λx d=>⟨x.zf,(kB_ p [] _).2 (.inr ⟨x,d,rfl⟩),zf_eq x⟩) (λ_ h=>h)
theorem xG_ {p:List Pc} (h:∀ x∈p,x.vok):∀ x∈uniq [] p,x.vok:=λx v=>by
 rcases (kB_ p [] x).1 v with e|⟨z,d,rfl⟩
 .simp at e
 exact⟨(h z d).rok,(h z d).num⟩
def Fc.lt (x y:Fc):Prop:=x.kind<y.kind\/x.kind=y.kind/\(x.a<y.a\/x.a=y.a/\(x.b<y.b\/x.b=y.b/\(x.r<y.r\/x.r=y.r/\(x.lo<y.lo\/x.lo=y.lo/\x.hi<y.hi))))
instance (x y:Fc):Decidable (Fc.lt x y):=by unfold Fc.lt;exact inferInstance
theorem qI_ (x:Str):¬ x<x:=ybM_ x
theorem qH_ (x y:Str):x<y\/x=y\/y<x:=by
 by_cases h:x<y
 .exact .inl h
 by_cases d:y<x
 .exact .inr (.inr d)
 exact .inr (.inl (ycw_ (ycc_.1 d) (ycc_.1 h)))
theorem Fc.lt_irr (x:Fc):¬ x.lt x:=by
  unfold Fc.lt;simp[qI_]
theorem Fc.lt_tri (x y:Fc):x.lt y\/x=y\/y.lt x:=by
 unfold Fc.lt;rcases ydy_ x.kind y.kind with h|h|h
 .exact .inl (.inl h)
 .rcases qH_ x.a y.a with d|d|d
  .exact .inl (.inr ⟨h,.inl d⟩)
  .rcases qH_ x.b y.b with e|e|e
   .exact .inl (.inr ⟨h,.inr ⟨d,.inl e⟩⟩)
   .rcases qH_ x.r y.r with v|v|v
    .exact .inl (.inr ⟨h,.inr ⟨d,.inr ⟨e,.inl v⟩⟩⟩)
    .rcases ydy_ x.lo y.lo with B|B|B
     .exact .inl (.inr ⟨h,.inr ⟨d,.inr ⟨e,.inr ⟨v,.inl B⟩⟩⟩⟩)
     .rcases ydy_ x.hi y.hi with C|C|C
      .exact .inl (.inr ⟨h,.inr ⟨d,.inr ⟨e,.inr ⟨v,.inr ⟨B,C⟩⟩⟩⟩⟩)
      .refine .inr (.inl ?_);cases x;cases y;simp_all
      exact .inr (.inr (.inr ⟨h.symm,.inr ⟨d.symm,.inr ⟨e.symm,.inr ⟨v.symm,.inr ⟨B.symm,C⟩⟩⟩⟩⟩))
     exact .inr (.inr (.inr ⟨h.symm,.inr ⟨d.symm,.inr ⟨e.symm,.inr ⟨v.symm,.inl B⟩⟩⟩⟩))
    exact .inr (.inr (.inr ⟨h.symm,.inr ⟨d.symm,.inr ⟨e.symm,.inl v⟩⟩⟩))
   exact .inr (.inr (.inr ⟨h.symm,.inr ⟨d.symm,.inl e⟩⟩))
  exact .inr (.inr (.inr ⟨h.symm,.inl d⟩))
 exact .inr (.inr (.inl h))
theorem hc_ {α:Type} {lt:α->α->Prop} (v:∀ {x y z},lt x y->lt y z->lt x z) {x y z:α} {P Q R:Prop} (h:x=y->y=z->P->Q->R) (e:lt x y\/x=y/\P) (d:lt y z\/y=z/\Q):lt x z\/x=z/\R:=by
 rcases e with e|⟨rfl,e⟩
 .rcases d with d|⟨rfl,d⟩
  .exact .inl (v e d)
  exact .inl e
 rcases d with d|⟨rfl,d⟩
 .exact .inl d
 exact .inr ⟨rfl,h rfl rfl e d⟩
theorem Fc.lt_trans {x y z:Fc} (d:x.lt y) (e:y.lt z):x.lt z :=
  hc_ (lt:=λa b:Int=>a<b) Int.lt_trans (λ_ _=>hc_ (lt:=λa b:Str=>a<b) ybU_ (λ_ _=>hc_ (lt:=λa b:Str=>a<b) ybU_ (λ_ _=>hc_ (lt:=λa b:Str=>a<b) ybU_ (λ_ _=>hc_ (lt:=λa b:Int=>a<b) Int.lt_trans λ_ _=>Int.lt_trans)))) d e
theorem hC_ {α:Type} {lt:α->α->Prop} (hi:∀ x,¬ lt x x) (v:∀ {x y z},lt x y->lt y z->lt x z):∀ {l m:List α},l.Pairwise lt->m.Pairwise lt->(∀ x,x∈l↔x∈m)->l=m
 | [],[],_,_,_=>rfl
 | [],y::m,_,_,h=>by have:=(h y).2 zaj_;simp at this
 | x::l,[],_,_,h=>by have:=(h x).1 zaj_;simp at this
 | x::l,y::m,h1,h2,h=>by
   rw[ybj_]at h1 h2
   have e:x=y:=by
     rcases yan_.1 ((h x).1 zaj_) with e|C
     . exact e
     . rcases yan_.1 ((h y).2 zaj_) with e|B
       . exact e.symm
       . exact absurd (v (h1.1 y B) (h2.1 x C)) (hi x)
   subst e
   congr 1
   refine hC_ hi v h1.2 h2.2 λz=>⟨λd=>?_,λd=>?_⟩
   . rcases yan_.1 ((h z).1 zaS_) with rfl|q
     . exact absurd (h1.1 z d) (hi z)
     . exact q
   . rcases yan_.1 ((h z).2 zaS_) with rfl|q
     . exact absurd (h2.1 z d) (hi z)
     . exact q
abbrev Srt (l:List Fc):Prop:=l.Pairwise Fc.lt
theorem Srt.ext {l m:List Fc} (d:Srt l) (e:Srt m) (h:∀ x,x∈l↔x∈m):l=m:=hC_ Fc.lt_irr Fc.lt_trans d e h
def gM_ (p:List Pc) (A:List Str) (m:Nat):Option (List Fc)->Prop
  | some L=>Srt L/\(∀ y,y∈L↔Der p A y)/\L.length<=m
  | none=>∃ M:List Fc,M.Nodup/\(∀ y∈M,Der p A y)/\m<M.length
theorem da_ {α:Type} [DecidableEq α]:∀ {l m:List α},l.Nodup->(∀ x∈l,x∈m)->l.length<=m.length
  | [],m,_,_=>by simp
  | x::l,m,h,hs=>by
    rw[ybG_]at h
    have:=da_ (l:=l) (m:=m.erase x) h.2 λy v=>by
      have d:y≠x:=λe=>h.1 (e▸v)
      exact (List.mem_erase_of_ne d).2 (hs y (by simp[v]))
    have B:=hs x zaj_;rw[List.length_erase_of_mem B]at this;have:0<m.length:=List.length_pos_of_mem B;simp only[yal_];omega
theorem gM_.uniq {p:List Pc} {A:List Str} {m:Nat} {r d:Option (List Fc)} (h:gM_ p A m r) (e:gM_ p A m d):r=d:=by
  cases r with
  | none =>
    cases d with
    | none=>rfl
    | some L =>
      obtain⟨M,C,v,E⟩:=h;obtain⟨_,B,F⟩:=e;have:=da_ C λx y=>(B x).2 (v x y)
      omega
  | some L =>
    cases d with
    | none =>
      obtain⟨M,C,v,E⟩:=e;obtain⟨_,B,F⟩:=h;have:=da_ C λx y=>(B x).2 (v x y)
      omega
    | some L'=>rw[h.1.ext e.1 λx=>by rw[h.2.1,e.2.1]]
end Go.Vs
namespace Go.Vs
open Go Go.Sx
section
variable {ps:List Pc} {A:List Str} {c:List Fc} {x:Ix} {f:Fc}
theorem Cmpl.up {S G H good B:Fc->Prop} (h:Cmpl ps S G H good f) (v:∀ y,good y->B y):Cmpl ps S G H B f :=
  ⟨λz a e d m=>v _ (h.c3 z a e d m),λz a e d m q=>v _ (h.c4 z a e d m q),λz a e d m q=>v _ (h.c4' z a e d m q),λz a e d m=>v _ (h.c5 z a e d m),λz a b e d m=>v _ (h.c6 z a b e d m),
   λz a b c e d m q=>v _ (h.c7 z a b c e d m q),λz a b c e d m q=>v _ (h.c7' z a b c e d m q),λz a b e d m q=>v _ (h.c8 z a b e d m q),λz a b e d m q=>v _ (h.c8' z a b e d m q),λa r b e d=>v _ (h.c9 a r b e d),λa r b e d=>v _ (h.c9' a r b e d),
   λz a e d m=>v _ (h.c11 z a e d m),λy e d m q C E F=>v _ (h.c12 y e d m q C E F),λy e d m q C E F=>v _ (h.c13 y e d m q C E F),λz a lo hi e d m q C=>v _ (h.c14 z a lo hi e d m q C)⟩
theorem zH_ {good:Fc->Prop} (e:∀ y∈fp_ (aB_ ps) A,good y) (d:∀ f∈c,Cmpl ps (·∈c) (λ_=>True) (·∈c) good f) {y:Fc} (h:hX_ ps A (·∈c) y):good y:=by
  cases h with
  | r1 h=>exact e _ (hl_ h).1
  | r2 h=>exact e _ (hl_ h).2.1
  | r10 hx hk h=>exact e _ ((hl_ h).2.2 _ hx hk)
  | r3 hx hk h=>exact (d _ h).c3 _ _ hx hk rfl
  | r4 hx hk h h'=>exact (d _ h).c4 _ _ hx hk rfl h'
  | r5 hx hk h=>exact (d _ h).c5 _ _ hx hk rfl
  | r6 hx hk h=>exact (d _ h).c6 _ _ _ hx hk rfl
  | r7 hx hk h h'=>exact (d _ h).c7 _ _ _ _ hx hk rfl h'
  | r8 hx hk h h'=>exact (d _ h).c8 _ _ _ hx hk rfl h'
  | r9 h h'=>exact (d _ h).c9 _ _ _ rfl h'
  | r11 hx hk h=>exact (d _ h).c11 _ _ hx hk rfl
  | r12 h h' hm hl=>exact (d _ h).c12 _ rfl h' rfl rfl rfl (.inl trivial) hl
  | r13 h h' hm hl=>exact (d _ h).c13 _ rfl h' rfl rfl rfl (.inl trivial) hl
  | r14 hx hk h h1 h2=>exact (d _ h).c14 _ _ _ _ hx hk rfl h1 h2
end
def fi_ (l:List Fc) (f:Fc):Nat:=l.countP λy=>decide (y.lt f)
def uq_ (l:List Fc) (f:Fc):List Fc:=if f∈l then l else l.take (fi_ l f)++f::l.drop (fi_ l f)
theorem mH_:∀ {l:List Fc} (f:Fc),Srt l->(∀ y∈l.take (fi_ l f),y.lt f)/\(∀ y∈l.drop (fi_ l f),¬ y.lt f)
 | [],f,_=>by simp[fi_]
 | x::l,f,h=>by
   rw[Srt,ybj_]at h;obtain⟨B,C⟩:=mH_ f h.2
   by_cases v:x.lt f
   . have e:fi_ (x::l) f=fi_ l f+1:=by simp[fi_,v]
     rw[e];simp only[ybo_,ycg_];exact⟨λy d=>(yan_.1 d).elim (λq=>q▸v) (B y),C⟩
   . have m:∀ y∈l,¬ y.lt f:=λy d q=>v (Fc.lt_trans (h.1 y d) q)
     have e:fi_ (x::l) f=0:=by
       simp only[fi_,ydB_,v,ydO_,ybn_,yce_,ycl_];rw[List.countP_eq_zero];intro y d;simpa using m y d
     rw[e];simp only[ych_,yaM_,false_imp_iff,implies_true,ydi_,ydf_];intro y d;rcases yan_.1 d with rfl|d
     . exact v
     . exact m y d
theorem zg_ (l:List Fc) (f y:Fc):y∈uq_ l f↔y∈l\/y=f:=by
 unfold uq_
 split
 .rename_i h
  exact⟨.inl,λq=>q.elim id λe=>e▸h⟩
 have:y∈l↔y∈l.take (fi_ l f)\/y∈l.drop (fi_ l f):=by rw[<-yah_,ybK_]
 rw[this];simp only[yah_,yan_];constructor
 .rintro (h|h|h)
  .exact .inl (.inl h)
  .exact .inr h
  exact .inl (.inr h)
 rintro ((h|h)|h)
 .exact .inl h
 .exact .inr (.inr h)
 exact .inr (.inl h)
theorem zf_ {l:List Fc} (f:Fc) (h:Srt l):Srt (uq_ l f):=by
 unfold uq_
 split
 .exact h
 rename_i E
 obtain⟨B,C⟩:=mH_ f h
 have e:∀ y∈l.drop (fi_ l f),f.lt y:=λy v=>by
   rcases Fc.lt_tri f y with q|q|q
   . exact q
   . exact absurd (List.mem_of_mem_drop v) (q▸E)
   . exact absurd q (C y v)
 rw[Srt,ycN_];refine⟨h.sublist (List.take_sublist _ _),ybj_.2 ⟨e,h.sublist (List.drop_sublist _ _)⟩,λa m b d=>?_⟩;rcases yan_.1 d with rfl|d
 .exact B a m
 exact Fc.lt_trans (B a m) (e b d)
def subA (p:List Pc) (l:List Fc) (f:Fc):List Fc:=p.flatMap λx =>
  if x.kind=1/\x.a=f.b then [X_ f.a x.c]
  else if x.kind=2/\(x.a=f.b/\X_ f.a x.b∈l\/x.b=f.b/\X_ f.a x.a∈l) then [X_ f.a x.c]
  else if x.kind=3/\x.a=f.b then [ae_ f.a x.r x.c]
  else if x.kind=8/\x.a=f.b then [an_ f.a x.r x.lo x.hi]
  else []
def subBp (p:List Pc) (f y:Fc):List Fc:=p.flatMap λx=>if x.kind=4/\x.r=y.r/\x.a=f.b then [X_ y.a x.c] else []
def subB (p:List Pc) (f y:Fc):List Fc:=if y.kind≠2\/y.b≠f.a then [] else (if f.b=[33] then [X_ y.a [33]] else [])++subBp p f y
def subS (p:List Pc) (l:List Fc) (f:Fc):List Fc:=subA p l f++l.flatMap (subB p f)
def vv_ (x:Pc) (f y:Fc):List Fc:=if y.kind≠2 then [] else (if x.r=f.r/\y.a=f.b/\y.r=x.s then [ae_ f.a x.t y.b] else [])++(if x.s=f.r/\y.b=f.a/\y.r=x.r then [ae_ y.a x.t f.b] else [])
def qc_ (l:List Fc) (f:Fc) (x:Pc):List Fc :=
  if x.kind=5/\x.r=f.r then [ae_ f.a x.t f.b]
  else if x.kind=4/\x.r=f.r/\X_ f.b x.a∈l then [X_ f.a x.c]
  else if x.kind=6 then l.flatMap (vv_ x f) else []
def Cu_ (p:List Pc) (l:List Fc) (f:Fc):List Fc:=(if X_ f.b [33]∈l then [X_ f.a [33]] else [])++p.flatMap (qc_ l f)
def qR_ (f y:Fc):List Fc:=if y.kind≠3\/y.a≠f.a\/y.r≠f.r then [] else if max f.lo y.lo<=min f.hi y.hi then [dC_ f y] else [X_ f.a [33]]
def tX_ (f:Fc) (x:Pc):List Fc:=if x.kind=9/\x.r=f.r/\x.lo<=f.lo/\f.hi<=x.hi then [X_ f.a x.c] else []
def ys_ (p:List Pc) (l:List Fc) (f:Fc):List Fc:=l.flatMap (qR_ f)++p.flatMap (tX_ f)
def gW_ (p:List Pc) (l:List Fc) (f:Fc):List Fc:=if f.kind=1 then subS p l f else if f.kind=2 then Cu_ p l f else ys_ p l f
def lH_ (p:List Pc) (A:List Str):List Fc:=A.flatMap λa=>X_ a a::X_ a [42]::(p.filter λx=>decide (x.kind=7)).map λx=>ae_ a x.r a
theorem qk_ (p:List Pc) (A:List Str):lH_ p A=fp_ (aB_ p) A:=by
  unfold lH_ fp_ aB_;simp[ycJ_,Function.comp_def]
section
variable {p:List Pc} {A:List Str} {l:List Fc} {f:Fc}
theorem sg_ (m:f∈l) (F:∀ y∈l,y.form):∀ y∈gW_ p l f,hX_ p A (·∈l) y:=by
 have C:=F f m;have hk:=ju_ C;intro y d;unfold gW_ at d
 split at d
 .rename_i J
  have ef:=oL_ C J;rcases yah_.1 d with d|d
  .obtain⟨x,q,d⟩:=yas_.1 d
   split at d
   .rename_i e
    simp at d;subst d
    exact .r3 q e.1 zbD_
   split at d
   .rename_i e
    simp at d;subst d
    rcases e.2 with h|h
    .exact .r4 q e.1 (by rw[h.1,<-ef];exact m) h.2
    exact .r4 q e.1 h.2 (by rw[h.1,<-ef];exact m)
   split at d
   .rename_i e
    simp at d;subst d
    exact .r5 q e.1 zbD_
   split at d
   .rename_i e
    simp at d;subst d
    exact .r11 q e.1 zbD_
   simp at d
  obtain⟨g,B,d⟩:=yas_.1 d;unfold subB at d
  split at d
  .simp at d
  rename_i e
  simp only[ydH_,Decidable.not_not]at e;have E:=(mO_ (F g B) e.1).1;rcases yah_.1 d with d|d
  .split at d
   .rename_i G
    simp at d;subst d
    exact .r9 (r:=g.r) (b:=g.b) (by rw[<-E];exact B) (by rw[e.2,<-G,<-ef];exact m)
   simp at d
  obtain⟨x,q,d⟩:=yas_.1 d
  split at d
  .rename_i v
   simp at d;subst d
   exact .r8 (b:=g.b) q v.1 (by rw[v.2.1,<-E];exact B) (by rw[e.2,v.2.2,<-ef];exact m)
  simp at d
 split at d
 .rename_i I
  have ef:=(mO_ C I).1;rcases yah_.1 d with d|d
  .split at d
   .rename_i G
    simp at d;subst d
    exact .r9 (r:=f.r) (b:=f.b) (by rw[<-ef];exact m) G
   simp at d
  obtain⟨x,q,d⟩:=yas_.1 d;unfold qc_ at d
  split at d
  .rename_i e
   simp at d;subst d
   exact .r6 q e.1 zbD_
  split at d
  .rename_i e
   simp at d;subst d
   exact .r8 (b:=f.b) q e.1 (by rw[e.2.1,<-ef];exact m) e.2.2
  split at d
  .rename_i e
   obtain⟨g,B,d⟩:=yas_.1 d;unfold vv_ at d
   split at d
   .simp at d
   rename_i H
   have E:=(mO_ (F g B) (Decidable.not_not.1 H)).1;rcases yah_.1 d with d|d
   .split at d
    .rename_i v
     simp at d;subst d
     exact .r7 (b:=f.b) q e (by rw[v.1,<-ef];exact m) (by rw[<-v.2.2,<-v.2.1,<-E];exact B)
    simp at d
   split at d
   .rename_i v
    simp at d;subst d
    exact .r7 (b:=f.a) q e (by rw[<-v.2.2,<-v.2.1,<-E];exact B) (by rw[v.1,<-ef];exact m)
   simp at d
  simp at d
 rename_i J I
 have K:f.kind=3:=by omega
 have ef:=(ie_ C K).1;rcases yah_.1 d with d|d
 .obtain⟨g,B,d⟩:=yas_.1 d
  unfold qR_ at d
  split at d
  .simp at d
  rename_i e
  simp only[ydH_,Decidable.not_not]at e;have E:=(ie_ (F g B) e.1).1;rw[e.2.1,e.2.2]at E
  split at d
  .rename_i hl
   simp at d;subst d
   exact .r12 (by rw[<-ef];exact m) (by rw[<-E];exact B) trivial hl
  rename_i hl
  simp at d;subst d
  exact .r13 (r:=f.r) (by rw[<-ef];exact m) (by rw[<-E];exact B) trivial (Int.not_le.1 hl)
 obtain⟨x,q,d⟩:=yas_.1 d;unfold tX_ at d
 split at d
 .rename_i e
  simp at d;subst d
  exact .r14 q e.1 (by rw[e.2.1,<-ef];exact m) e.2.2.1 e.2.2.2
 simp at d
theorem tO_:Cmpl p (·∈l) (λ_=>True) (·∈l) (·∈gW_ p l f) f:=by
 have m:∀ {a b y},f=X_ a b->(y∈subS p l f)->y∈gW_ p l f:=λe h=>by unfold gW_;rw[yao_ (by rw[e];rfl)];exact h
 have q:∀ {a r b y},f=ae_ a r b->(y∈Cu_ p l f)->y∈gW_ p l f:=λe h=>by unfold gW_;rw[yag_ (by rw[e];simp[ae_]),yao_ (by rw[e];rfl)];exact h
 have E:∀ {y},f.kind=3->(y∈ys_ p l f)->y∈gW_ p l f:=λe h=>by unfold gW_;rw[yag_ (by rw[e];decide),yag_ (by rw[e];decide)];exact h
 refine⟨?_,?_,?_,?_,?_,?_,?_,?_,?_,?_,?_,?_,?_,?_,?_⟩
 .intro z a d hk e
  refine m e (yam_ _ (yas_.2 ⟨z,d,?_⟩));rw[e,yao_ ⟨hk,rfl⟩];simp[X_]
 .intro z a d hk e h
  refine m e (yam_ _ (yas_.2 ⟨z,d,?_⟩));rw[e,yag_ zaQ_,yao_ ⟨hk,.inl ⟨rfl,h⟩⟩];simp[X_]
 .intro z a d hk e h
  refine m e (yam_ _ (yas_.2 ⟨z,d,?_⟩));rw[e,yag_ zaQ_,yao_ ⟨hk,.inr ⟨rfl,h⟩⟩];simp[X_]
 .intro z a d hk e
  refine m e (yam_ _ (yas_.2 ⟨z,d,?_⟩));rw[e,yag_ zaQ_,yag_ zaQ_,yao_ ⟨hk,rfl⟩];simp[X_]
 .intro z a b d hk e
  refine q e (yaA_ _ (yas_.2 ⟨z,d,?_⟩));rw[e,qc_,yao_ ⟨hk,rfl⟩];simp[ae_]
 .intro z a b c d hk e h
  refine q e (yaA_ _ (yas_.2 ⟨z,d,?_⟩));rw[e,qc_,yag_ zaQ_,yag_ zaQ_,yao_ hk];refine yas_.2 ⟨_,h,?_⟩;rw[vv_,yag_ zbC_];refine yam_ _ ?_;rw[yao_ ⟨rfl,rfl,rfl⟩];simp[ae_]
 .intro z a b c d hk e h
  refine q e (yaA_ _ (yas_.2 ⟨z,d,?_⟩));rw[e,qc_,yag_ zaQ_,yag_ zaQ_,yao_ hk];refine yas_.2 ⟨_,h,?_⟩;rw[vv_,yag_ zbC_];refine yaA_ _ ?_;rw[yao_ ⟨rfl,rfl,rfl⟩];simp[ae_]
 .intro z a b d hk e h
  refine q e (yaA_ _ (yas_.2 ⟨z,d,?_⟩));rw[e,qc_,yag_ zaQ_,yao_ ⟨hk,rfl,h⟩];simp[ae_]
 .intro z a b d hk e h
  refine m e (yaA_ _ (yas_.2 ⟨_,h,?_⟩));rw[subB,yag_ (by rw[e];simp[ae_,X_])];refine yaA_ _ (yas_.2 ⟨z,d,?_⟩);rw[e,yao_ ⟨hk,rfl,rfl⟩];simp[ae_]
 .intro a r b e h
  refine q e (yam_ _ ?_);rw[e,yao_ (show X_ (ae_ a r b).b [33]∈l from h)];simp[ae_]
 .intro a r b e h
  refine m e (yaA_ _ (yas_.2 ⟨_,h,?_⟩));rw[subB,yag_ (by rw[e];simp[ae_,X_])];refine yam_ _ ?_;rw[e,yao_ (show (X_ b [33]).b=[33] from rfl)];simp[ae_]
 .intro z a d hk e
  refine m e (yam_ _ (yas_.2 ⟨z,d,?_⟩));rw[e,yag_ zaQ_,yag_ zaQ_,yag_ zaQ_,yao_ ⟨hk,rfl⟩];simp[X_]
 .intro y C v hk F B _ hl
  refine E C (yam_ _ (yas_.2 ⟨y,v,?_⟩));rw[qR_,yag_ (by simp[hk,F,B]),yao_ hl];simp
 .intro y C v hk F B _ hl
  refine E C (yam_ _ (yas_.2 ⟨y,v,?_⟩));rw[qR_,yag_ (by simp[hk,F,B]),yag_ (Int.not_le.2 hl)];simp
 intro z a lo hi d hk e H G;refine E (by rw[e];rfl) (yaA_ _ (yas_.2 ⟨z,d,?_⟩));rw[e,tX_,yao_ ⟨hk,rfl,H,G⟩];simp[an_]
theorem zl_ {α β:Type} {g:α->List β} {n:Nat}:∀ (l:List α),(∀ x∈l,(g x).length<=n)->(l.flatMap g).length<=l.length*n
  | [],_=>by simp
  | x::l,h=>by
    have:=zl_ l λy d=>h y zaS_
    have e:=h x zaj_;simp only[yaG_,yaf_,yal_,ybB_,Nat.one_mul];omega
theorem sG_ (h:∀ y∈l,y.form) (y:Fc):y∈lH_ p A++l.flatMap (λf=>gW_ p l f)↔hX_ p A (·∈l) y:=by
 constructor
 .intro d
  rcases yah_.1 d with d|d
  .rw[qk_]at d;exact mU_ y d
  obtain⟨f,e,d⟩:=yas_.1 d;exact sg_ e h y d
 intro d;refine zH_ (c:=l) (good:=λy=>y∈lH_ p A++l.flatMap (λf=>gW_ p l f)) (λy d=>yam_ _ (by rw[qk_];exact d)) (λf e=>?_) d;exact tO_.up λy d=>yaA_ _ (yas_.2 ⟨f,e,d⟩)
end
def grow1 (p:List Pc) (A:List Str) (l:List Fc):List Fc:=(lH_ p A++l.flatMap (λf=>gW_ p l f)).foldl uq_ l
def oY_ (p:List Pc) (A:List Str):Nat->List Fc
  | 0=>[]
  | n+1=>grow1 p A (oY_ p A n)
theorem oI_:∀ (xs l:List Fc) (y:Fc),y∈xs.foldl uq_ l↔y∈l\/y∈xs
 | [],l,y=>by simp
 | x::xs,l,y=>by
   rw[yck_,oI_ xs,zg_];simp only[yan_];constructor
   . rintro ((h|h)|h)
     . exact .inl h
     . exact .inr (.inl h)
     . exact .inr (.inr h)
   . rintro (h|h|h)
     . exact .inl (.inl h)
     . exact .inl (.inr h)
     . exact .inr h
theorem oH_:∀ (xs:List Fc) {l:List Fc},Srt l->Srt (xs.foldl uq_ l)
  | [],_,h=>h
  | x::xs,_,h=>oH_ xs (zf_ x h)
theorem to_ (p:List Pc) (A:List Str):∀ n,Srt (oY_ p A n)
  | 0=>List.Pairwise.nil
  | n+1=>oH_ _ (to_ p A n)
theorem oX_ {p:List Pc} {A:List Str} (e:∀ x∈p,x.vok):∀ n,∀ y∈oY_ p A n,Der p A y
 | 0,y,hy=>by simp[oY_]at hy
 | n+1,y,hy=>by
   have d:=oX_ (A:=A) e n;rcases (oI_ _ _ y).1 hy with h|h
   . exact d y h
   . exact Der.step (((sG_ (λz q=>(d z q).form e) y).1 h).mono (λx m=>⟨x,m,x.frm,rfl⟩) (λ_ h=>h) d (λ_ _ h=>h))
theorem tp_ {p:List Pc} {A:List Str} (d:∀ x∈p,x.vok) (n m:Nat) (q:((lH_ p A++(oY_ p A n).flatMap (λf=>gW_ p (oY_ p A n) f)).all λy=>decide (y∈oY_ p A n))=true) (hl:(oY_ p A n).length<=m):gM_ p A m (some (oY_ p A n)):=by
  refine⟨to_ p A n,λy=>⟨oX_ d n y,λh=>h.least λz v=>?_⟩,hl⟩;exact yaZ_ (yaW_.1 q z ((sG_ (λw e=>(oX_ d n w e).form d) z).2 v))
end Go.Vs
