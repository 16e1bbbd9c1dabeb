/-
  Part of the proof of the law CanonRoles over this seat: the small logic, the data, the contracts of functions (no condition).
-/
import Derived.Test.YtpbnmnfdgckaiaaGreatDoorQCanonRoles6
import Derived.Test.YtpbnmnfdgckaiaaGreatDoorQCanonRoles2
set_option linter.unusedVariables false
set_option linter.unusedSimpArgs false
set_option linter.unusedSectionVars false
set_option maxHeartbeats 1000000
namespace Go.Vs
open Go Go.Sx
def Y_ (a b:Str):Fc:=⟨1,a,b,[],0,0⟩
def ab_ (a r b:Str):Fc:=⟨2,a,b,r,0,0⟩
def am_ (a r:Str) (lo hi:Int):Fc:=⟨3,a,[],r,lo,hi⟩
inductive One (p:List Pc) (A:List Str) (S:Fc→Prop) (M:Fc→Fc→Prop):Fc→Prop
  | r1 {a:Str} (h:a∈A):One p A S M (Y_ a a)
  | r2 {a:Str} (h:a∈A):One p A S M (Y_ a [42])
  | r10 {a:Str} {x:Pc} (hx:x∈p) (hk:x.kind=7) (h:a∈A):One p A S M (ab_ a x.r a)
  | r3 {a:Str} {x:Pc} (hx:x∈p) (hk:x.kind=1) (h:S (Y_ a x.a)):One p A S M (Y_ a x.c)
  | r4 {a:Str} {x:Pc} (hx:x∈p) (hk:x.kind=2) (h:S (Y_ a x.a)) (h':S (Y_ a x.b)):One p A S M (Y_ a x.c)
  | r5 {a:Str} {x:Pc} (hx:x∈p) (hk:x.kind=3) (h:S (Y_ a x.a)):One p A S M (ab_ a x.r x.c)
  | r6 {a b:Str} {x:Pc} (hx:x∈p) (hk:x.kind=5) (h:S (ab_ a x.r b)):One p A S M (ab_ a x.t b)
  | r7 {a b c:Str} {x:Pc} (hx:x∈p) (hk:x.kind=6) (h:S (ab_ a x.r b)) (h':S (ab_ b x.s c)):One p A S M (ab_ a x.t c)
  | r8 {a b:Str} {x:Pc} (hx:x∈p) (hk:x.kind=4) (h:S (ab_ a x.r b)) (h':S (Y_ b x.a)):One p A S M (Y_ a x.c)
  | r9 {a r b:Str} (h:S (ab_ a r b)) (h':S (Y_ b [33])):One p A S M (Y_ a [33])
  | r11 {a:Str} {x:Pc} (hx:x∈p) (hk:x.kind=8) (h:S (Y_ a x.a)):One p A S M (am_ a x.r x.lo x.hi)
  | r12 {a r:Str} {lo hi lo' hi':Int} (h:S (am_ a r lo hi)) (h':S (am_ a r lo' hi')) (hm:M (am_ a r lo hi) (am_ a r lo' hi')) (hl:max lo lo'≤min hi hi'):One p A S M (am_ a r (max lo lo') (min hi hi'))
  | r13 {a r:Str} {lo hi lo' hi':Int} (h:S (am_ a r lo hi)) (h':S (am_ a r lo' hi')) (hm:M (am_ a r lo hi) (am_ a r lo' hi')) (hl:min hi hi'<max lo lo'):One p A S M (Y_ a [33])
  | r14 {a:Str} {lo hi:Int} {x:Pc} (hx:x∈p) (hk:x.kind=9) (h:S (am_ a x.r lo hi)) (h1:x.lo≤lo) (h2:hi≤x.hi):One p A S M (Y_ a x.c)
abbrev hF_ (p:List Pc) (A:List Str) (S:Fc→Prop):Fc→Prop:=One p A S (fun _ _=>True)
theorem One.mono {p q:List Pc} {A C:List Str} {S m:Fc→Prop} {M v:Fc→Fc→Prop} (e:∀ x∈p,∃ y∈q,∃ n,{ y with frm:=n }=x) (k:∀ a∈A,a∈C) (hS:∀ y,S y→m y) (B:∀ x y,M x y→v x y) {y:Fc} (h:One p A S M y):One q C m v y:=by
  cases h with
  | r1 h=>exact .r1 (k _ h)
  | r2 h=>exact .r2 (k _ h)
  | r10 hx hk h=>obtain⟨z,d,n,rfl⟩:=e _ hx;exact One.r10 (x:=z) d hk (k _ h)
  | r3 hx hk h=>obtain⟨z,d,n,rfl⟩:=e _ hx;exact One.r3 (x:=z) d hk (hS _ h)
  | r4 hx hk h h'=>obtain⟨z,d,n,rfl⟩:=e _ hx;exact One.r4 (x:=z) d hk (hS _ h) (hS _ h')
  | r5 hx hk h=>obtain⟨z,d,n,rfl⟩:=e _ hx;exact One.r5 (x:=z) d hk (hS _ h)
  | r6 hx hk h=>obtain⟨z,d,n,rfl⟩:=e _ hx;exact One.r6 (x:=z) d hk (hS _ h)
  | r7 hx hk h h'=>obtain⟨z,d,n,rfl⟩:=e _ hx;exact One.r7 (x:=z) d hk (hS _ h) (hS _ h')
  | r8 hx hk h h'=>obtain⟨z,d,n,rfl⟩:=e _ hx;exact One.r8 (x:=z) d hk (hS _ h) (hS _ h')
  | r9 h h'=>exact .r9 (hS _ h) (hS _ h')
  | r11 hx hk h=>obtain⟨z,d,n,rfl⟩:=e _ hx;exact One.r11 (x:=z) d hk (hS _ h)
  | r12 h h' hm hl=>exact .r12 (hS _ h) (hS _ h') (B _ _ hm) hl
  | r13 h h' hm hl=>exact .r13 (hS _ h) (hS _ h') (B _ _ hm) hl
  | r14 hx hk h h1 h2=>obtain⟨z,d,n,rfl⟩:=e _ hx;exact One.r14 (x:=z) d hk (hS _ h) h1 h2
def Der (p:List Pc) (A:List Str) (y:Fc):Prop:=∀ T:Fc→Prop,(∀ y,hF_ p A T y→T y)→T y
theorem Der.step {p:List Pc} {A:List Str} {y:Fc} (h:hF_ p A (Der p A) y):Der p A y :=
  fun T d=>d y (h.mono (fun x e=>⟨x,e,x.frm,rfl⟩) (fun _ h=>h) (fun z k=>k T d) (fun _ _ h=>h))
theorem Der.mono {p d:List Pc} {A e:List Str} (m:∀ x∈p,∃ y∈d,∃ n,{ y with frm:=n }=x) (q:∀ a∈A,a∈e) {y:Fc} (h:Der p A y):Der d e y :=
  h _ fun _ k=>Der.step (k.mono m q (fun _ h=>h) (fun _ _ h=>h))
theorem Der.least {p:List Pc} {A:List Str} {T:Fc→Prop} (d:∀ y,hF_ p A T y→T y) {y:Fc} (h:Der p A y):T y:=h T d
structure Ky where
  kind:Int
  role:Str
  atom:Str
deriving DecidableEq
abbrev jw_:=Str×Str
def lat {K D:Type} [DecidableEq K] (l:List (K×D)) (k:K):List D:=(l.filter fun e=>decide (e.1=k)).map (·.2)
theorem bL_ {K D:Type} [DecidableEq K] {l:List (K×D)} {k:K} {d:D}:d∈lat l k↔(k,d)∈l:=by
  unfold lat;simp only[List.mem_map,List.mem_filter,decide_eq_true_eq];exact⟨fun⟨⟨a,b⟩,⟨m,q⟩,e⟩=>by subst q;subst e;exact m,fun h=>⟨(k,d),⟨h,rfl⟩,rfl⟩⟩
theorem mZ_ {K D:Type} [DecidableEq K] (l m:List (K×D)) (k:K):lat (l++m) k=lat l k++lat m k:=by simp[lat]
theorem dx_ {K D:Type} [DecidableEq K] (l:List (K×D)) (k:K):(lat l k).length≤l.length:=by
  simp only[lat,List.length_map];exact List.length_filter_le _ _
def cZ_ (x:Pc):List (Ky×Pc) :=
  if x.kind=1∨x.kind=3∨x.kind=8 then [(⟨x.kind,[],x.a⟩,x)]
  else if x.kind=2 then if x.b≠x.a then [(⟨x.kind,[],x.a⟩,x),(⟨x.kind,[],x.b⟩,x)] else [(⟨x.kind,[],x.a⟩,x)]
  else if x.kind=4 then [(⟨x.kind,[],x.a⟩,x),(⟨x.kind,x.r,x.a⟩,x)]
  else if x.kind=5∨x.kind=9 then [(⟨x.kind,x.r,[]⟩,x)]
  else if x.kind=6 then [(⟨x.kind,x.r,[]⟩,x),(⟨x.kind,[],x.s⟩,x)]
  else []
def Pc.zf (x:Pc):Pc:={ x with frm:=0 }
def uniq:List Pc→List Pc→List Pc
  | l,[]=>l
  | l,x::r=>uniq (if x.zf∈l then l else l++[x.zf]) r
theorem jC_:∀ (r l:List Pc) (x:Pc),x∈uniq l r↔x∈l∨∃ y∈r,y.zf=x
 | [],l,x=>by simp[uniq]
 | y::r,l,x=>by
   rw[uniq,jC_ r]
   by_cases h:y.zf∈l
   · rw[if_pos h]
     constructor
     · rintro (d|⟨z,d,e⟩)
       · exact .inl d
       · exact .inr ⟨z,by simp[d],e⟩
     · rintro (d|⟨z,d,e⟩)
       · exact .inl d
       · rcases List.mem_cons.1 d with rfl|d
         · exact .inl (e▸h)
         · exact .inr ⟨z,d,e⟩
   · rw[if_neg h]
     simp only[List.mem_append,List.mem_cons,List.not_mem_nil,or_false];constructor
     · rintro ((d|d)|⟨z,d,e⟩)
       · exact .inl d
       · exact .inr ⟨y,.inl rfl,d.symm⟩
       · exact .inr ⟨z,.inr d,e⟩
     · rintro (d|⟨z,d|d,e⟩)
       · exact .inl (.inl d)
       · subst d;exact .inl (.inr e.symm)
       · exact .inr ⟨z,d,e⟩
theorem jD_:∀ (r l:List Pc),(uniq l r).length≤l.length+r.length
  | [],l=>by simp[uniq]
  | y::r,l=>by
    rw[uniq];have:=jD_ r (if y.zf∈l then l else l++[y.zf]);have d:(if y.zf∈l then l else l++[y.zf]).length≤l.length+1:=by split<;>simp
    simp only[List.length_cons];omega
def aL_ (ps:List Pc):List (Ky×Pc):=ps.flatMap cZ_
def au_ (ps:List Pc):List Str:=(ps.filter fun x=>decide (x.kind=7)).map (·.r)
theorem uU_ (x:Pc):∀ e∈cZ_ x,e.2=x∧e.1.kind=x.kind:=by
  unfold cZ_
  repeat' split
  all_goals simp
theorem dW_ {x y:Pc} {k:Ky} (h:(k,y)∈cZ_ x):y=x∧k.kind=x.kind:=uU_ x _ h
def Pc.rok (x:Pc):Prop:=(x.kind=4∨x.kind=5∨x.kind=6∨x.kind=9∨x.kind=3∨x.kind=7∨x.kind=8→x.r≠[])∧(x.kind=6→x.s≠[]∧x.t≠[])∧(x.kind=5→x.t≠[])
theorem gA_ {ps:List Pc} {k:Ky} {x:Pc}:x∈lat (aL_ ps) k↔x∈ps∧(k,x)∈cZ_ x:=by
 rw[bL_,aL_,List.mem_flatMap];constructor
 ·rintro ⟨y,d,h⟩
  obtain⟨rfl,_⟩:=dW_ h;exact⟨d,h⟩
 rintro ⟨e,m⟩;exact⟨x,e,m⟩
theorem pm1 {ps:List Pc} {b:Str} {x:Pc}:x∈lat (aL_ ps) ⟨1,[],b⟩↔x∈ps∧x.kind=1∧x.a=b:=by
 rw[gA_];refine and_congr_right fun _=>⟨fun h=>?_,fun⟨h,d⟩=>?_⟩
 ·have hk:=(dW_ h).2
  simp only at hk;simp[cZ_,← hk]at h
  exact⟨hk.symm,h.symm⟩
 subst d;simp[cZ_,h]
theorem pm2 {ps:List Pc} {b:Str} {x:Pc}:x∈lat (aL_ ps) ⟨2,[],b⟩↔x∈ps∧x.kind=2∧(x.a=b∨x.b=b):=by
 rw[gA_];refine and_congr_right fun _=>⟨fun h=>?_,fun⟨h,d⟩=>?_⟩
 ·have hk:=(dW_ h).2
  simp only at hk;simp[cZ_,← hk]at h
  split at h
  ·simp at h;exact⟨hk.symm,.inl h.symm⟩
  simp at h;rcases h with h|h
  ·exact⟨hk.symm,.inl h.symm⟩
  exact⟨hk.symm,.inr h.symm⟩
 by_cases e:x.b=x.a
 ·have:x.a=b:=d.elim id (fun q=>e▸q)
  subst this;simp[cZ_,h,e]
 rcases d with rfl|rfl<;>simp[cZ_,h,e]
theorem pm3 {ps:List Pc} {b:Str} {x:Pc}:x∈lat (aL_ ps) ⟨3,[],b⟩↔x∈ps∧x.kind=3∧x.a=b:=by
 rw[gA_];refine and_congr_right fun _=>⟨fun h=>?_,fun⟨h,d⟩=>?_⟩
 ·have hk:=(dW_ h).2
  simp only at hk;simp[cZ_,← hk]at h
  exact⟨hk.symm,h.symm⟩
 subst d;simp[cZ_,h]
theorem pm8 {ps:List Pc} {b:Str} {x:Pc}:x∈lat (aL_ ps) ⟨8,[],b⟩↔x∈ps∧x.kind=8∧x.a=b:=by
 rw[gA_];refine and_congr_right fun _=>⟨fun h=>?_,fun⟨h,d⟩=>?_⟩
 ·have hk:=(dW_ h).2
  simp only at hk;simp[cZ_,← hk]at h
  exact⟨hk.symm,h.symm⟩
 subst d;simp[cZ_,h]
theorem pm5 {ps:List Pc} {r:Str} {x:Pc}:x∈lat (aL_ ps) ⟨5,r,[]⟩↔x∈ps∧x.kind=5∧x.r=r:=by
 rw[gA_];refine and_congr_right fun _=>⟨fun h=>?_,fun⟨h,d⟩=>?_⟩
 ·have hk:=(dW_ h).2
  simp only at hk;simp[cZ_,← hk]at h
  exact⟨hk.symm,h.symm⟩
 subst d;simp[cZ_,h]
theorem pm9 {ps:List Pc} {r:Str} {x:Pc}:x∈lat (aL_ ps) ⟨9,r,[]⟩↔x∈ps∧x.kind=9∧x.r=r:=by
 rw[gA_];refine and_congr_right fun _=>⟨fun h=>?_,fun⟨h,d⟩=>?_⟩
 ·have hk:=(dW_ h).2
  simp only at hk;simp[cZ_,← hk]at h
  exact⟨hk.symm,h.symm⟩
 subst d;simp[cZ_,h]
theorem pm6 {ps:List Pc} {r:Str} (e:r≠[]) {x:Pc}:x∈lat (aL_ ps) ⟨6,r,[]⟩↔x∈ps∧x.kind=6∧x.r=r:=by
 rw[gA_];refine and_congr_right fun k=>⟨fun h=>?_,fun⟨h,d⟩=>?_⟩
 ·have hk:=(dW_ h).2
  simp only at hk;simp[cZ_,← hk,e]at h
  exact⟨hk.symm,h.symm⟩
 subst d;simp[cZ_,h]
theorem pm6' {ps:List Pc} {s:Str} {x:Pc} (e:s≠[]):x∈lat (aL_ ps) ⟨6,[],s⟩↔x∈ps∧x.kind=6∧x.s=s:=by
 rw[gA_];refine and_congr_right fun k=>⟨fun h=>?_,fun⟨h,d⟩=>?_⟩
 ·have hk:=(dW_ h).2
  simp only at hk;simp[cZ_,← hk,e]at h
  exact⟨hk.symm,h.symm⟩
 subst d;simp[cZ_,h]
theorem pm4 {ps:List Pc} (d:∀ x∈ps,x.rok) {b:Str} {x:Pc}:x∈lat (aL_ ps) ⟨4,[],b⟩↔x∈ps∧x.kind=4∧x.a=b:=by
 rw[gA_];refine and_congr_right fun e=>⟨fun h=>?_,fun⟨h,k⟩=>?_⟩
 ·have hk:=(dW_ h).2
  simp only at hk;have m:=(d x e).1 (.inl hk.symm);simp[cZ_,← hk]at h
  refine⟨hk.symm,h.elim (fun q=>q.symm) (fun q=>absurd q.1 m)⟩
 subst k;simp[cZ_,h]
theorem pm4' {ps:List Pc} {r b:Str} (k:r≠[]) {x:Pc}:x∈lat (aL_ ps) ⟨4,r,b⟩↔x∈ps∧x.kind=4∧x.r=r∧x.a=b:=by
 rw[gA_];refine and_congr_right fun m=>⟨fun h=>?_,fun⟨h,e,d⟩=>?_⟩
 ·have hk:=(dW_ h).2
  simp only at hk;simp[cZ_,← hk,k]at h
  exact⟨hk.symm,h.1.symm,h.2.symm⟩
 subst e d;simp[cZ_,h]
structure Ix where
  above:List (Str×Str)
  under:List (Str×Str)
  frm:List (jw_×Str)
  into:List (jw_×Str)
  ranges:List (jw_×Fc)
  firms:List (jw_×Fc)
def Ix.nil:Ix:=⟨[],[],[],[],[],[]⟩
def Ix.add (x:Ix) (firm:Bool) (f:Fc):Ix :=
  if f.kind=1 then { x with above:=x.above++[(f.a,f.b)] }
  else if f.kind=2 then { x with under:=x.under++[(f.b,f.a)],frm:=x.frm++[((f.a,f.r),f.b)],into:=x.into++[((f.b,f.r),f.a)] }
  else if f.kind=3 then { x with ranges:=x.ranges++[((f.a,f.r),f)],firms:=if firm then x.firms++[((f.a,f.r),f)] else x.firms }
  else x
structure Ix.of (x:Ix) (S Fm:Fc→Prop):Prop where
  above:∀ a b,(a,b)∈x.above↔∃ f,S f∧f.kind=1∧f.a=a∧f.b=b
  under:∀ b a,(b,a)∈x.under↔∃ f,S f∧f.kind=2∧f.a=a∧f.b=b
  frm:∀ a r b,((a,r),b)∈x.frm↔∃ f,S f∧f.kind=2∧f.a=a∧f.r=r∧f.b=b
  into:∀ a r b,((b,r),a)∈x.into↔∃ f,S f∧f.kind=2∧f.a=a∧f.r=r∧f.b=b
  ranges:∀ a r f,((a,r),f)∈x.ranges↔S f∧f.kind=3∧f.a=a∧f.r=r
  firms:∀ a r f,((a,r),f)∈x.firms↔S f∧Fm f∧f.kind=3∧f.a=a∧f.r=r
theorem Ix.of_nil (Fm:Fc→Prop):Ix.nil.of (fun _=>False) Fm:=by
  constructor<;>simp[Ix.nil]
theorem Ix.of_add {x:Ix} {S Fm:Fc→Prop} (h:x.of S Fm) (f:Fc) {b:Bool} (B:b=true↔Fm f):(x.add b f).of (fun y=>S y∨y=f) Fm:=by
 have d:∀ (Q:Fc→Prop),(∃ y,(S y∨y=f)∧Q y)↔(∃ y,S y∧Q y)∨Q f:=fun Q=>by
   constructor
   · rintro ⟨y,m|rfl,k⟩
     · exact .inl ⟨y,m,k⟩
     · exact .inr k
   · rintro (⟨y,m,k⟩|k)
     · exact⟨y,.inl m,k⟩
     · exact⟨f,.inr rfl,k⟩
 unfold Ix.add
 split
 ·rename_i hk
  constructor
  ·intro a c;rw[d,← h.above];simp[hk];exact or_congr_right ⟨fun⟨p,q⟩=>⟨p.symm,q.symm⟩,fun⟨p,q⟩=>⟨p.symm,q.symm⟩⟩
  ·intro a c;rw[d,← h.under];simp[hk]
  ·intro a r c;rw[d,← h.frm];simp[hk]
  ·intro a r c;rw[d,← h.into];simp[hk]
  ·intro a r y;rw[h.ranges];constructor
   ·exact fun q=>⟨.inl q.1,q.2⟩
   rintro ⟨q|rfl,e⟩
   ·exact⟨q,e⟩
   rw[hk]at e;exact absurd e.1 ze_
  intro a r y;rw[h.firms];constructor
  ·exact fun q=>⟨.inl q.1,q.2⟩
  rintro ⟨q|rfl,e⟩
  ·exact⟨q,e⟩
  rw[hk]at e;exact absurd e.2.1 ze_
 split
 ·rename_i hk
  constructor
  ·intro a c;rw[d,← h.above];simp[hk]
  ·intro a c;rw[d,← h.under];simp[hk];exact or_congr_right ⟨fun⟨p,q⟩=>⟨q.symm,p.symm⟩,fun⟨p,q⟩=>⟨q.symm,p.symm⟩⟩
  ·intro a r c;rw[d,← h.frm];simp[hk];exact or_congr_right ⟨fun⟨⟨p,q⟩,s⟩=>⟨p.symm,q.symm,s.symm⟩,fun⟨p,q,s⟩=>⟨⟨p.symm,q.symm⟩,s.symm⟩⟩
  ·intro a r c;rw[d,← h.into];simp[hk];exact or_congr_right ⟨fun⟨⟨p,q⟩,s⟩=>⟨s.symm,q.symm,p.symm⟩,fun⟨p,q,s⟩=>⟨⟨s.symm,q.symm⟩,p.symm⟩⟩
  ·intro a r y;rw[h.ranges];constructor
   ·exact fun q=>⟨.inl q.1,q.2⟩
   rintro ⟨q|rfl,e⟩
   ·exact⟨q,e⟩
   rw[hk]at e;exact absurd e.1 ze_
  intro a r y;rw[h.firms];constructor
  ·exact fun q=>⟨.inl q.1,q.2⟩
  rintro ⟨q|rfl,e⟩
  ·exact⟨q,e⟩
  rw[hk]at e;exact absurd e.2.1 ze_
 split
 ·rename_i hk
  constructor
  ·intro a c;rw[d,← h.above];simp[hk]
  ·intro a c;rw[d,← h.under];simp[hk]
  ·intro a r c;rw[d,← h.frm];simp[hk]
  ·intro a r c;rw[d,← h.into];simp[hk]
  ·intro a r y
   simp only[List.mem_append,List.mem_singleton,h.ranges,Prod.mk.injEq];constructor
   ·rintro (⟨q,e⟩|⟨⟨rfl,rfl⟩,rfl⟩)
    ·exact⟨.inl q,e⟩
    exact⟨.inr rfl,hk,rfl,rfl⟩
   rintro ⟨q|rfl,e,rfl,rfl⟩
   ·exact .inl ⟨q,e,rfl,rfl⟩
   exact .inr ⟨⟨rfl,rfl⟩,rfl⟩
  intro a r y;cases b with
  | false =>
    simp only[Bool.false_eq_true,if_false,h.firms];constructor
    · exact fun q=>⟨.inl q.1,q.2⟩
    · rintro ⟨q|rfl,e⟩
      · exact⟨q,e⟩
      · exact absurd (B.2 e.1) ze_
  | true =>
    simp only[if_true,List.mem_append,List.mem_singleton,h.firms,Prod.mk.injEq];constructor
    · rintro (⟨q,e⟩|⟨⟨rfl,rfl⟩,rfl⟩)
      · exact⟨.inl q,e⟩
      · exact⟨.inr rfl,B.1 rfl,hk,rfl,rfl⟩
    · rintro ⟨q|rfl,e,C,rfl,rfl⟩
      · exact .inl ⟨q,e,C,rfl,rfl⟩
      · exact .inr ⟨⟨rfl,rfl⟩,rfl⟩
 rename_i m k v
 constructor
 ·intro a c;rw[d,← h.above];simp[m]
 ·intro a c;rw[d,← h.under];simp[k]
 ·intro a r c;rw[d,← h.frm];simp[k]
 ·intro a r c;rw[d,← h.into];simp[k]
 ·intro a r y;rw[h.ranges];constructor
  ·exact fun q=>⟨.inl q.1,q.2⟩
  rintro ⟨q|rfl,e⟩
  ·exact⟨q,e⟩
  exact absurd e.1 v
 intro a r y;rw[h.firms];constructor
 ·exact fun q=>⟨.inl q.1,q.2⟩
 rintro ⟨q|rfl,e⟩
 ·exact⟨q,e⟩
 exact absurd e.2.1 v
theorem Ix.of_firm {x:Ix} {S Fm d:Fc→Prop} (h:x.of S Fm) (e:∀ y,S y→(Fm y↔d y)):x.of S d :=
  ⟨h.above,h.under,h.frm,h.into,h.ranges,fun a r f=>by rw[h.firms];exact and_congr_right fun k=>by rw[e f k]⟩
section
variable (pm:List (Ky×Pc)) (x:Ix) (f:Fc)
def gU_:List Fc:=(lat pm ⟨1,[],f.b⟩).map fun y=>Y_ f.a y.c
def nO_:List Fc:=(lat pm ⟨3,[],f.b⟩).map fun y=>ab_ f.a y.r y.c
def gS_:List Fc:=(lat pm ⟨5,f.r,[]⟩).map fun y=>ab_ f.a y.t f.b
def fJ_:List Fc:=(lat pm ⟨6,f.r,[]⟩).flatMap fun y=>(lat x.frm (f.b,y.s)).map fun c=>ab_ f.a y.t c
def hE_:List Fc:=(lat pm ⟨6,[],f.r⟩).flatMap fun y=>(lat x.into (f.a,y.r)).map fun a=>ab_ a y.t f.b
def fM_:List Fc:=(lat x.above f.b).flatMap fun c=>(lat pm ⟨4,f.r,c⟩).map fun y=>Y_ f.a y.c
def fN_:List Fc:=(lat pm ⟨4,[],f.b⟩).flatMap fun y=>(lat x.into (f.a,y.r)).map fun a=>Y_ a y.c
def ds_:List Fc:=if f.b=[33] then (lat x.under f.a).map fun a=>Y_ a [33] else []
def tB_:List Fc:=((lat pm ⟨9,f.r,[]⟩).filter fun y=>decide (y.lo≤f.lo∧f.hi≤y.hi)).map fun y=>Y_ f.a y.c
def dC_ (y:Fc):Fc:=am_ f.a f.r (max f.lo y.lo) (min f.hi y.hi)
def eN_ (y:Fc):Bool:=decide (min f.hi y.hi<max f.lo y.lo)
def ey_ (firm:Bool):List Fc:=if firm then lat x.ranges (f.a,f.r) else lat x.firms (f.a,f.r)
def gr_ (l:List Fc):List Fc:=(l.filter fun y=>!eN_ f y&&decide (dC_ f y≠f∧dC_ f y≠y)).map (dC_ f)
def hI_ (l:List Fc):List Fc:=if l.any (eN_ f) then [Y_ f.a [33]] else []
end
section
variable (stp:Fc→List Fc→List Fc) (kof:List Fc→List Fc)
def emits (L:List Fc) (s:List Fc):List Fc:=L.foldl (fun s y=>stp y s) s
def el_ (f:Fc) (l:List Pc) (s:List Fc):List Fc:=l.foldl (fun s y=>if Y_ f.a y.a∈kof s∧Y_ f.a y.b∈kof s then stp (Y_ f.a y.c) s else s) s
def cg_ (f:Fc) (l:List Pc) (s:List Fc×List Fc):List Fc×List Fc:=l.foldl (fun s y=>(stp (am_ f.a y.r y.lo y.hi) s.1,if am_ f.a y.r y.lo y.hi∈kof s.1 then s.2 else am_ f.a y.r y.lo y.hi::s.2)) s
end
theorem aD_ (stp:Fc→List Fc→List Fc) (L M:List Fc) (s:List Fc):emits stp (L++M) s=emits stp M (emits stp L s):=by simp[emits]
structure Grows (stp:Fc→List Fc→List Fc) (kof:List Fc→List Fc):Prop where
  up:∀ y s z,z∈kof s→z∈kof (stp y s)
theorem Grows.emits {stp:Fc→List Fc→List Fc} {kof:List Fc→List Fc} (h:Grows stp kof):∀ (L s:List Fc) (z:Fc),z∈kof s→z∈kof (emits stp L s)
  | [],_,_,hz=>hz
  | y::L,s,z,hz=>h.emits L _ z (h.up y s z hz)
theorem fu_ {stp:Fc→List Fc→List Fc} {kof:List Fc→List Fc} (h:Grows stp kof) (f:Fc):∀ (l:List Pc) (s:List Fc),
    ∃ L,el_ stp kof f l s=emits stp L s∧(∀ y∈L,∃ x∈l,y=Y_ f.a x.c∧Y_ f.a x.a∈kof (el_ stp kof f l s)∧Y_ f.a x.b∈kof (el_ stp kof f l s))∧(∀ x∈l,Y_ f.a x.a∈kof s→Y_ f.a x.b∈kof s→Y_ f.a x.c∈L)
  | [],s=>⟨[],rfl,by simp,by simp⟩
  | x::l,s=>by
    by_cases m:Y_ f.a x.a∈kof s∧Y_ f.a x.b∈kof s
    · obtain⟨L,C,F,E⟩:=fu_ h f l (stp (Y_ f.a x.c) s)
      have e:el_ stp kof f (x::l) s=el_ stp kof f l (stp (Y_ f.a x.c) s):=by simp only[el_,List.foldl_cons,if_pos m]
      refine⟨Y_ f.a x.c::L,by rw[e,C];rfl,fun y k=>?_,fun z d v B=>?_⟩
      · rw[e]
        rcases List.mem_cons.1 k with rfl|k
        · refine⟨x,by simp,rfl,?_,?_⟩<;>rw[C]<;>exact h.emits L _ _ (h.up _ _ _ (by first|exact m.1|exact m.2))
        · obtain⟨z,d,q⟩:=F y k
          exact⟨z,by simp[d],q⟩
      · rcases List.mem_cons.1 d with rfl|d
        · simp
        · exact List.mem_cons_of_mem _ (E z d (h.up _ _ _ v) (h.up _ _ _ B))
    · obtain⟨L,C,F,E⟩:=fu_ h f l s
      have e:el_ stp kof f (x::l) s=el_ stp kof f l s:=by simp only[el_,List.foldl_cons,if_neg m]
      refine⟨L,by rw[e,C],fun y k=>?_,fun z d v B=>?_⟩
      · rw[e]
        obtain⟨z,d,q⟩:=F y k;exact⟨z,by simp[d],q⟩
      · rcases List.mem_cons.1 d with rfl|d
        · exact absurd ⟨v,B⟩ m
        · exact E z d v B
theorem eV_ (stp:Fc→List Fc→List Fc) (kof:List Fc→List Fc) (f:Fc):∀ (l:List Pc) (s fm:List Fc),(cg_ stp kof f l (s,fm)).1=emits stp (l.map fun y=>am_ f.a y.r y.lo y.hi) s
  | [],_,_=>rfl
  | x::l,s,fm=>by
    simp only[cg_,List.foldl_cons,List.map_cons,emits];exact eV_ stp kof f l _ _
theorem hg_ {stp:Fc→List Fc→List Fc} {kof:List Fc→List Fc} (h:Grows stp kof) (f:Fc):∀ (l:List Pc) (s fm:List Fc) (z:Fc),z∈(cg_ stp kof f l (s,fm)).2↔z∈fm∨(z ∉ kof s∧z∈(cg_ stp kof f l (s,fm)).2)
 | [],s,fm,z=>by simp[cg_]
 | x::l,s,fm,z=>by
   have m:=hg_ h f l (stp (am_ f.a x.r x.lo x.hi) s) (if am_ f.a x.r x.lo x.hi∈kof s then fm else am_ f.a x.r x.lo x.hi::fm) z;have e:cg_ stp kof f (x::l) (s,fm)=cg_ stp kof f l (stp (am_ f.a x.r x.lo x.hi) s,if am_ f.a x.r x.lo x.hi∈kof s then fm else am_ f.a x.r x.lo x.hi::fm):=rfl;rw[e];constructor
   · intro k
     rcases m.1 k with d|d
     · split at d
       · exact .inl d
       · rename_i v
         rcases List.mem_cons.1 d with rfl|d
         · exact .inr ⟨v,k⟩
         · exact .inl d
     · exact .inr ⟨fun q=>d.1 (h.up _ _ _ q),k⟩
   · rintro (d|d)
     · exact m.2 (.inl (by split<;>simp[d]))
     · exact d.2
theorem mi_ {stp:Fc→List Fc→List Fc} {kof:List Fc→List Fc} (f:Fc):∀ (l:List Pc) (s fm:List Fc) (z:Fc),z∈(cg_ stp kof f l (s,fm)).2→z∈fm∨∃ y∈l,z=am_ f.a y.r y.lo y.hi
 | [],s,fm,z,hz=>.inl hz
 | x::l,s,fm,z,hz=>by
   have e:cg_ stp kof f (x::l) (s,fm)=cg_ stp kof f l (stp (am_ f.a x.r x.lo x.hi) s,if am_ f.a x.r x.lo x.hi∈kof s then fm else am_ f.a x.r x.lo x.hi::fm):=rfl;rw[e]at hz;rcases mi_ f l _ _ z hz with d|⟨y,h,d⟩
   · split at d
     · exact .inl d
     · rcases List.mem_cons.1 d with rfl|d
       · exact .inr ⟨x,by simp,rfl⟩
       · exact .inl d
   · exact .inr ⟨y,by simp[h],d⟩
def Fc.form (y:Fc):Prop:=(∃ a b,y=Y_ a b)∨(∃ a r b,y=ab_ a r b∧r≠[])∨(∃ a r lo hi,y=am_ a r lo hi∧r≠[]∧-1099511627776≤lo∧lo≤hi∧hi≤1099511627776)
structure Pc.vok (x:Pc):Prop where
  rok:x.rok
  num:x.kind=8∨x.kind=9→-1099511627776≤x.lo∧x.lo≤x.hi∧x.hi≤1099511627776
theorem ez_ (a b:Str):(Y_ a b).form:=.inl ⟨a,b,rfl⟩
theorem ni_ {f:Fc} (h:f.form) (hk:f.kind=1):f=Y_ f.a f.b:=by
 rcases h with⟨a,b,rfl⟩|⟨a,r,b,rfl,_⟩|⟨a,r,lo,hi,rfl,_⟩
 ·rfl
 ·simp[ab_]at hk
 simp[am_]at hk
theorem jU_ {f:Fc} (h:f.form) (hk:f.kind=2):f=ab_ f.a f.r f.b∧f.r≠[]:=by
 rcases h with⟨a,b,rfl⟩|⟨a,r,b,rfl,h⟩|⟨a,r,lo,hi,rfl,_⟩
 ·simp[Y_]at hk
 ·exact⟨rfl,h⟩
 simp[am_]at hk
theorem hL_ {f:Fc} (h:f.form) (hk:f.kind=3):f=am_ f.a f.r f.lo f.hi∧f.r≠[]∧-1099511627776≤f.lo∧f.lo≤f.hi∧f.hi≤1099511627776:=by
 rcases h with⟨a,b,rfl⟩|⟨a,r,b,rfl,_⟩|⟨a,r,lo,hi,rfl,h⟩
 ·simp[Y_]at hk
 ·simp[ab_]at hk
 exact⟨rfl,h⟩
theorem iL_ {f:Fc} (h:f.form):f.kind=1∨f.kind=2∨f.kind=3:=by
  rcases h with⟨a,b,rfl⟩|⟨a,r,b,rfl,h⟩|⟨a,r,lo,hi,rfl,_⟩<;>simp[Y_,ab_,am_]
theorem One.form {p:List Pc} {A:List Str} {S:Fc→Prop} {M:Fc→Fc→Prop} (e:∀ x∈p,x.vok) (hS:∀ y,S y→y.form) {y:Fc} (h:One p A S M y):y.form:=by
  have k:∀ {a r b:Str},S (ab_ a r b)→r≠[]:=fun h=>(jU_ (hS _ h) rfl).2
  have d:∀ {a r:Str} {lo hi:Int},S (am_ a r lo hi)→r≠[]∧-1099511627776≤lo∧lo≤hi∧hi≤1099511627776:=fun h=>(hL_ (hS _ h) rfl).2
  cases h with
  | r1 _=>exact ez_ _ _
  | r2 _=>exact ez_ _ _
  | r10 hx hk _=>exact .inr (.inl ⟨_,_,_,rfl,(e _ hx).rok.1 zR_⟩)
  | r3 _ _ _=>exact ez_ _ _
  | r4 _ _ _ _=>exact ez_ _ _
  | r5 hx hk _=>exact .inr (.inl ⟨_,_,_,rfl,(e _ hx).rok.1 zR_⟩)
  | r6 hx hk _=>exact .inr (.inl ⟨_,_,_,rfl,(e _ hx).rok.2.2 hk⟩)
  | r7 hx hk _ _=>exact .inr (.inl ⟨_,_,_,rfl,((e _ hx).rok.2.1 hk).2⟩)
  | r8 _ _ _ _=>exact ez_ _ _
  | r9 _ _=>exact ez_ _ _
  | r11 hx hk _=>exact .inr (.inr ⟨_,_,_,_,rfl,(e _ hx).rok.1 zR_,(e _ hx).num (.inl hk)⟩)
  | r12 h h' _ hl=>exact .inr (.inr ⟨_,_,_,_,rfl,(d h).1,by have:=d h;omega,hl,by have:=d h;omega⟩)
  | r13 _ _ _ _=>exact ez_ _ _
  | r14 _ _ _ _ _=>exact ez_ _ _
section
variable {ps:List Pc} {A:List Str} {x:Ix} {S Fm:Fc→Prop} {f:Fc} {kn:List Fc}
theorem nE_ (hk:f.kind=1) (m:f.form) (d:f∈kn):∀ y∈gU_ (aL_ ps) f,hF_ ps A (·∈kn) y:=by
  intro y h;obtain⟨z,e,rfl⟩:=List.mem_map.1 h;obtain⟨q,v,k⟩:=pm1.1 e;exact .r3 q v zaE_
theorem rn_ (hk:f.kind=1) (m:f.form) (d:f∈kn):∀ y∈nO_ (aL_ ps) f,hF_ ps A (·∈kn) y:=by
  intro y h;obtain⟨z,e,rfl⟩:=List.mem_map.1 h;obtain⟨q,v,k⟩:=pm3.1 e;exact .r5 q v zaE_
theorem pE_ (hk:f.kind=1) (m:f.form) (d:f∈kn):∀ y∈(lat (aL_ ps) ⟨8,[],f.b⟩).map (fun y=>am_ f.a y.r y.lo y.hi),hF_ ps A (·∈kn) y:=by
  intro y h;obtain⟨z,e,rfl⟩:=List.mem_map.1 h;obtain⟨q,v,k⟩:=pm8.1 e;exact .r11 q v zaE_
theorem nC_ (hk:f.kind=2) (m:f.form) (d:f∈kn):∀ y∈gS_ (aL_ ps) f,hF_ ps A (·∈kn) y:=by
  intro y h;obtain⟨z,e,rfl⟩:=List.mem_map.1 h;obtain⟨q,v,k⟩:=pm5.1 e;exact .r6 q v (by rw[k,← (jU_ m hk).1];exact d)
theorem lQ_ {hS:∀ y,S y→y.form} {a r b:Str} (h:∃ g,S g∧g.kind=2∧g.a=a∧g.r=r∧g.b=b):S (ab_ a r b):=by
  obtain⟨g,d,e,rfl,rfl,rfl⟩:=h;rw[← (jU_ (hS g d) e).1];exact d
theorem ix_sub {hS:∀ y,S y→y.form} {a b:Str} (h:∃ g,S g∧g.kind=1∧g.a=a∧g.b=b):S (Y_ a b):=by
  obtain⟨g,d,e,rfl,rfl⟩:=h;rw[← ni_ (hS g d) e];exact d
theorem qV_ (F:x.of S Fm) (hS:∀ y,S y→y.form) (h:∀ y,S y→y∈kn) (hk:f.kind=2) (G:f.form) (k:f∈kn):∀ y∈fJ_ (aL_ ps) x f++hE_ (aL_ ps) x f,hF_ ps A (·∈kn) y:=by
 intro y d;obtain⟨e,E⟩:=jU_ G hk;rcases List.mem_append.1 d with d|d
 ·obtain⟨z,m,d⟩:=List.mem_flatMap.1 d
  obtain⟨c,B,rfl⟩:=List.mem_map.1 d;obtain⟨C,v,q⟩:=(pm6 E).1 m;exact .r7 C v (by rw[q,← e];exact k) (h _ (lQ_ (hS:=hS) ((F.frm _ _ _).1 (bL_.1 B))))
 obtain⟨z,m,d⟩:=List.mem_flatMap.1 d;obtain⟨c,B,rfl⟩:=List.mem_map.1 d;obtain⟨C,v,q⟩:=(pm6' E).1 m;exact .r7 C v (h _ (lQ_ (hS:=hS) ((F.into _ _ _).1 (bL_.1 B)))) (by rw[q,← e];exact k)
theorem nm_ (F:x.of S Fm) (hS:∀ y,S y→y.form) (h:∀ y,S y→y∈kn) (hk:f.kind=2) (v:f.form) (k:f∈kn):∀ y∈fM_ (aL_ ps) x f,hF_ ps A (·∈kn) y:=by
  intro y d;obtain⟨e,C⟩:=jU_ v hk;obtain⟨c,G,d⟩:=List.mem_flatMap.1 d;obtain⟨z,m,rfl⟩:=List.mem_map.1 d;obtain⟨H,B,q,E⟩:=(pm4' C).1 m;exact .r8 (b:=f.b) H B (by rw[q,← e];exact k) (by rw[E];exact h _ (ix_sub (hS:=hS) ((F.above _ _).1 (bL_.1 G))))
theorem nn_ (m:∀ x∈ps,x.vok) (h:x.of S Fm) (hS:∀ y,S y→y.form) (e:∀ y,S y→y∈kn) (hk:f.kind=1) (B:f.form) (k:f∈kn):∀ y∈fN_ (aL_ ps) x f,hF_ ps A (·∈kn) y:=by
  intro y d;obtain⟨z,q,d⟩:=List.mem_flatMap.1 d;obtain⟨c,E,rfl⟩:=List.mem_map.1 d;obtain⟨F,C,v⟩:=(pm4 (fun x h=>(m x h).rok)).1 q;exact .r8 (b:=f.a) F C (e _ (lQ_ (hS:=hS) ((h.into _ _ _).1 (bL_.1 E)))) (by rw[v,← ni_ B hk];exact k)
theorem lH_ (E:x.of S Fm) (hS:∀ y,S y→y.form) (e:∀ y,S y→y∈kn) (hk:f.kind=1) (q:f.form) (h:f∈kn):∀ y∈ds_ x f,hF_ ps A (·∈kn) y:=by
 intro y d;unfold ds_ at d
 split at d
 ·rename_i v
  obtain⟨a,m,rfl⟩:=List.mem_map.1 d;obtain⟨g,F,B,k,C⟩:=(E.under _ _).1 (bL_.1 m);exact .r9 (r:=g.r) (e _ (lQ_ (hS:=hS) ⟨g,F,B,k,rfl,C⟩)) (by rw[← v,← ni_ q hk];exact h)
 simp at d
theorem lG_ (hk:f.kind=2) (e:f.form) (d:f∈kn) (h:Y_ f.b [33]∈kn):hF_ ps A (·∈kn) (Y_ f.a [33]) :=
  .r9 (r:=f.r) (b:=f.b) (by rw[← (jU_ e hk).1];exact d) h
theorem tA_ (hk:f.kind=3) (q:f.form) (e:f∈kn):∀ y∈tB_ (aL_ ps) f,hF_ ps A (·∈kn) y:=by
  intro y k;obtain⟨z,h,rfl⟩:=List.mem_map.1 k;obtain⟨h,d⟩:=List.mem_filter.1 h;obtain⟨v,B,m⟩:=pm9.1 h;have d:=of_decide_eq_true d;exact .r14 v B (by rw[m,← (hL_ q hk).1];exact e) d.1 d.2
theorem ky_ (e:x.of S Fm) {firm:Bool} {y:Fc} (d:y∈ey_ x f firm):S y∧y.kind=3∧y.a=f.a∧y.r=f.r:=by
 unfold ey_ at d
 split at d
 ·exact (e.ranges _ _ _).1 (bL_.1 d)
 have:=(e.firms _ _ _).1 (bL_.1 d);exact⟨this.1,this.2.2⟩
theorem rE_ (G:x.of S Fm) (hS:∀ y,S y→y.form) (k:∀ y,S y→y∈kn) (hk:f.kind=3) (I:f.form) (q:f∈kn) {firm:Bool}:∀ y∈gr_ f (ey_ x f firm)++hI_ f (ey_ x f firm),hF_ ps A (·∈kn) y:=by
 intro y d;have e:=(hL_ I hk).1;rcases List.mem_append.1 d with d|d
 ·obtain⟨z,h,rfl⟩:=List.mem_map.1 d
  obtain⟨h,B⟩:=List.mem_filter.1 h;obtain⟨v,E,C,F⟩:=ky_ G h;simp only[eN_,Bool.and_eq_true,Bool.not_eq_true',decide_eq_false_iff_not,Int.not_lt]at B;have m:=(hL_ (hS z v) E).1;rw[C,F]at m;exact .r12 (by rw[← e];exact q) (by rw[← m];exact k z v) trivial B.1
 unfold hI_ at d
 split at d
 ·rename_i H
  obtain⟨z,h,B⟩:=List.any_eq_true.1 H;obtain⟨v,E,C,F⟩:=ky_ G h;have m:=(hL_ (hS z v) E).1;rw[C,F]at m;simp only[List.mem_singleton]at d;subst d;exact .r13 (r:=f.r) (by rw[← e];exact q) (by rw[← m];exact k z v) trivial (by simpa [eN_] using B)
 simp at d
theorem qP_ {z:Pc} {a:Str} (d:z∈ps) (hk:z.kind=1):Y_ a z.c∈gU_ (aL_ ps) (Y_ a z.a) :=
  List.mem_map.2 ⟨z,pm1.2 ⟨d,hk,rfl⟩,rfl⟩
theorem uG_ {z:Pc} {a:Str} (d:z∈ps) (hk:z.kind=3):ab_ a z.r z.c∈nO_ (aL_ ps) (Y_ a z.a) :=
  List.mem_map.2 ⟨z,pm3.2 ⟨d,hk,rfl⟩,rfl⟩
theorem te_ {z:Pc} {a:Str} (d:z∈ps) (hk:z.kind=8):am_ a z.r z.lo z.hi∈(lat (aL_ ps) ⟨8,[],(Y_ a z.a).b⟩).map (fun y=>am_ (Y_ a z.a).a y.r y.lo y.hi) :=
  List.mem_map.2 ⟨z,pm8.2 ⟨d,hk,rfl⟩,rfl⟩
theorem qA_ {z:Pc} {a b:Str} (d:z∈ps) (hk:z.kind=5):ab_ a z.t b∈gS_ (aL_ ps) (ab_ a z.r b) :=
  List.mem_map.2 ⟨z,pm5.2 ⟨d,hk,rfl⟩,rfl⟩
theorem rZ_ (k:x.of S Fm) (e:∀ x∈ps,x.vok) {z:Pc} {a b c:Str} (d:z∈ps) (hk:z.kind=6) (h:S (ab_ b z.s c)):ab_ a z.t c∈fJ_ (aL_ ps) x (ab_ a z.r b) :=
  List.mem_flatMap.2 ⟨z,(pm6 ((e z d).rok.1 zR_)).2 ⟨d,hk,rfl⟩,List.mem_map.2 ⟨c,bL_.2 ((k.frm _ _ _).2 ⟨_,h,rfl,rfl,rfl,rfl⟩),rfl⟩⟩
theorem rY_ (k:x.of S Fm) (e:∀ x∈ps,x.vok) {z:Pc} {a b c:Str} (d:z∈ps) (hk:z.kind=6) (h:S (ab_ a z.r b)):ab_ a z.t c∈hE_ (aL_ ps) x (ab_ b z.s c) :=
  List.mem_flatMap.2 ⟨z,(pm6' ((e z d).rok.2.1 hk).1).2 ⟨d,hk,rfl⟩,List.mem_map.2 ⟨a,bL_.2 ((k.into _ _ _).2 ⟨_,h,rfl,rfl,rfl,rfl⟩),rfl⟩⟩
theorem pf_ (k:x.of S Fm) (e:∀ x∈ps,x.vok) {z:Pc} {a b:Str} (d:z∈ps) (hk:z.kind=4) (h:S (Y_ b z.a)):Y_ a z.c∈fM_ (aL_ ps) x (ab_ a z.r b) :=
  List.mem_flatMap.2 ⟨z.a,bL_.2 ((k.above _ _).2 ⟨_,h,rfl,rfl,rfl⟩),List.mem_map.2 ⟨z,(pm4' ((e z d).rok.1 zR_)).2 ⟨d,hk,rfl,rfl⟩,rfl⟩⟩
theorem pg_ (d:x.of S Fm) (e:∀ x∈ps,x.vok) {z:Pc} {a b:Str} (k:z∈ps) (hk:z.kind=4) (h:S (ab_ a z.r b)):Y_ a z.c∈fN_ (aL_ ps) x (Y_ b z.a) :=
  List.mem_flatMap.2 ⟨z,(pm4 (fun x d=>(e x d).rok)).2 ⟨k,hk,rfl⟩,List.mem_map.2 ⟨a,bL_.2 ((d.into _ _ _).2 ⟨_,h,rfl,rfl,rfl,rfl⟩),rfl⟩⟩
theorem nD_ (d:x.of S Fm) {a r b:Str} (h:S (ab_ a r b)):Y_ a [33]∈ds_ x (Y_ b [33]):=by
  unfold ds_;rw[if_pos (show (Y_ b [33]).b=[33] from rfl)];exact List.mem_map.2 ⟨a,bL_.2 ((d.under _ _).2 ⟨_,h,rfl,rfl,rfl⟩),rfl⟩
theorem xg_ {z:Pc} {a:Str} {lo hi:Int} (d:z∈ps) (hk:z.kind=9) (e:z.lo≤lo) (h:hi≤z.hi):Y_ a z.c∈tB_ (aL_ ps) (am_ a z.r lo hi) :=
  List.mem_map.2 ⟨z,List.mem_filter.2 ⟨pm9.2 ⟨d,hk,rfl⟩,decide_eq_true ⟨e,h⟩⟩,rfl⟩
theorem og_ (h:x.of S Fm) {firm:Bool} (d:firm=true↔Fm f) {y:Fc} (k:S y) (hk:y.kind=3) (m:y.a=f.a) (e:y.r=f.r) (hm:Fm f∨Fm y):y∈ey_ x f firm:=by
  unfold ey_;cases firm with
  | true=>rw[if_pos rfl];exact bL_.2 ((h.ranges _ _ _).2 ⟨k,hk,m,e⟩)
  | false =>
    rw[if_neg ze_];refine bL_.2 ((h.firms _ _ _).2 ⟨k,hm.resolve_left (fun q=>?_),hk,m,e⟩);exact absurd (d.2 q) ze_
theorem qq_ {l:List Fc} {y:Fc} (d:y∈l) :
    (max f.lo y.lo≤min f.hi y.hi→dC_ f y∈gr_ f l∨dC_ f y=f∨dC_ f y=y)∧(min f.hi y.hi<max f.lo y.lo→Y_ f.a [33]∈hI_ f l):=by
  refine⟨fun h=>?_,fun h=>?_⟩
  · by_cases e:dC_ f y=f
    · exact .inr (.inl e)
    · by_cases k:dC_ f y=y
      · exact .inr (.inr k)
      · refine .inl (List.mem_map.2 ⟨y,List.mem_filter.2 ⟨d,?_⟩,rfl⟩)
        simp only[eN_,Bool.and_eq_true,Bool.not_eq_true',decide_eq_false_iff_not,Int.not_lt,decide_eq_true_eq];exact⟨h,e,k⟩
  · unfold hI_
    rw[if_pos (List.any_eq_true.2 ⟨y,d,by simpa [eN_] using h⟩)];simp
end
section
variable (stp:Fc→List Fc→List Fc) (kof:List Fc→List Fc) (pm:List (Ky×Pc)) (x:Ix) (f:Fc)
def rl (j:Nat) (s:List Fc×List Fc):List Fc×List Fc :=
  if f.kind=1 then
    (match j with
    | 0=>(emits stp (gU_ pm f) s.1,s.2)
    | 1=>(el_ stp kof f (lat pm ⟨2,[],f.b⟩) s.1,s.2)
    | 2=>(emits stp (nO_ pm f) s.1,s.2)
    | 3=>(emits stp (fN_ pm x f) s.1,s.2)
    | 4=>(emits stp (ds_ x f) s.1,s.2)
    | _=>cg_ stp kof f (lat pm ⟨8,[],f.b⟩) s)
  else if f.kind=2 then
    (match j with
    | 0=>(emits stp (gS_ pm f) s.1,s.2)
    | 1=>(emits stp (fJ_ pm x f++hE_ pm x f) s.1,s.2)
    | 2=>(emits stp (fM_ pm x f) s.1,s.2)
    | _=>(if Y_ f.b [33]∈kof s.1 then stp (Y_ f.a [33]) s.1 else s.1,s.2))
  else
    (match j with
    | 0=>(emits stp (gr_ f (ey_ x f (decide (f∈s.2)))++hI_ f (ey_ x f (decide (f∈s.2)))) s.1,s.2)
    | _=>(emits stp (tB_ pm f) s.1,s.2))
def rls:Nat→List Fc×List Fc→List Fc×List Fc
  | 0,s=>s
  | j+1,s=>rl stp kof pm x f j (rls j s)
def nrl:Nat:=if f.kind=1 then 6 else if f.kind=2 then 4 else 2
end
structure Cmpl (ps:List Pc) (S Fm kn good:Fc→Prop) (f:Fc):Prop where
  c3:∀ z a,z∈ps→z.kind=1→f=Y_ a z.a→good (Y_ a z.c)
  c4:∀ z a,z∈ps→z.kind=2→f=Y_ a z.a→kn (Y_ a z.b)→good (Y_ a z.c)
  c4':∀ z a,z∈ps→z.kind=2→f=Y_ a z.b→kn (Y_ a z.a)→good (Y_ a z.c)
  c5:∀ z a,z∈ps→z.kind=3→f=Y_ a z.a→good (ab_ a z.r z.c)
  c6:∀ z a b,z∈ps→z.kind=5→f=ab_ a z.r b→good (ab_ a z.t b)
  c7:∀ z a b c,z∈ps→z.kind=6→f=ab_ a z.r b→S (ab_ b z.s c)→good (ab_ a z.t c)
  c7':∀ z a b c,z∈ps→z.kind=6→f=ab_ b z.s c→S (ab_ a z.r b)→good (ab_ a z.t c)
  c8:∀ z a b,z∈ps→z.kind=4→f=ab_ a z.r b→S (Y_ b z.a)→good (Y_ a z.c)
  c8':∀ z a b,z∈ps→z.kind=4→f=Y_ b z.a→S (ab_ a z.r b)→good (Y_ a z.c)
  c9:∀ a r b,f=ab_ a r b→kn (Y_ b [33])→good (Y_ a [33])
  c9':∀ a r b,f=Y_ b [33]→S (ab_ a r b)→good (Y_ a [33])
  c11:∀ z a,z∈ps→z.kind=8→f=Y_ a z.a→good (am_ a z.r z.lo z.hi)
  c12:∀ y,f.kind=3→S y→y.kind=3→y.a=f.a→y.r=f.r→(Fm f∨Fm y)→max f.lo y.lo≤min f.hi y.hi→good (dC_ f y)
  c13:∀ y,f.kind=3→S y→y.kind=3→y.a=f.a→y.r=f.r→(Fm f∨Fm y)→min f.hi y.hi<max f.lo y.lo→good (Y_ f.a [33])
  c14:∀ z a lo hi,z∈ps→z.kind=9→f=am_ a z.r lo hi→z.lo≤lo→hi≤z.hi→good (Y_ a z.c)
section
variable {stp:Fc→List Fc→List Fc} {kof:List Fc→List Fc} {ps:List Pc} {A:List Str} {x:Ix} {S Fm:Fc→Prop} {f:Fc}
theorem pV_ (d:Grows stp kof) (j:Nat) (s:List Fc×List Fc):∃ L,(rl stp kof (aL_ ps) x f j s).1=emits stp L s.1:=by
 unfold rl
 split
 ·split
  ·exact⟨_,rfl⟩
  ·obtain⟨L,h,_⟩:=fu_ d f (lat (aL_ ps) ⟨2,[],f.b⟩) s.1
   exact⟨L,h⟩
  ·exact⟨_,rfl⟩
  ·exact⟨_,rfl⟩
  ·exact⟨_,rfl⟩
  exact⟨_,eV_ stp kof f _ s.1 s.2⟩
 split
 ·split
  ·exact⟨_,rfl⟩
  ·exact⟨_,rfl⟩
  ·exact⟨_,rfl⟩
  simp only
  split
  ·exact⟨[Y_ f.a [33]],rfl⟩
  exact⟨[],rfl⟩
 split
 ·exact⟨_,rfl⟩
 exact⟨_,rfl⟩
theorem ku_ (e:Grows stp kof) (j:Nat) (s:List Fc×List Fc):∃ L,(rls stp kof (aL_ ps) x f j s).1=emits stp L s.1:=by
  induction j with
  | zero=>exact⟨[],rfl⟩
  | succ j ih =>
    obtain⟨L,h⟩:=ih;obtain⟨M,d⟩:=pV_ (ps:=ps) (x:=x) (f:=f) e j (rls stp kof (aL_ ps) x f j s);exact⟨L++M,by rw[rls,d,h,aD_]⟩
theorem kt_ (d:Grows stp kof) (j:Nat) (s:List Fc×List Fc) (z:Fc) (e:z∈kof s.1):z∈kof (rls stp kof (aL_ ps) x f j s).1:=by
  obtain⟨L,h⟩:=ku_ (ps:=ps) (x:=x) (f:=f) d j s;rw[h];exact d.emits L _ z e
theorem pU_ (j:Nat) (s:List Fc×List Fc) (h:f.kind=1→j≤5):(rls stp kof (aL_ ps) x f j s).2=s.2:=by
 induction j with
 | zero=>rfl
 | succ j ih =>
   rw[← ih (fun hk=>by have:=h hk;omega),rls,rl.eq_def]
   split
   · rename_i hk
     have:=h hk
     match j,this with
     | 0,_=>rfl
     | 1,_=>rfl
     | 2,_=>rfl
     | 3,_=>rfl
     | 4,_=>rfl
   · split
     · split<;>rfl
     · split<;>rfl
theorem uO_ (R:Grows stp kof) (P:∀ x∈ps,x.vok) (F:x.of S Fm) (s:List Fc×List Fc) (U:∀ y,S y→(Fm y↔y∈s.2)) (Q:S f) (J:∀ y,S y→y∈kof s.1) (good:Fc→Prop) (hS:∀ y,S y→good y)
    (H:∀ j,j<nrl f→∀ L,(rls stp kof (aL_ ps) x f (j+1) s).1=emits stp L (rls stp kof (aL_ ps) x f j s).1→∀ y∈L,good y) :
    Cmpl ps S Fm (·∈kof s.1) good f:=by
  have K:∀ k j,f.kind=k→j<nrl f→∀ L,(rl stp kof (aL_ ps) x f j (rls stp kof (aL_ ps) x f j s)).1=emits stp L (rls stp kof (aL_ ps) x f j s).1→∀ y∈L,good y:=fun k j _ hj L Z=>H j hj L (by rw[rls];exact Z)
  have I:f.kind=1→nrl f=6:=fun h=>by simp[nrl,h]
  have N:f.kind=2→nrl f=4:=fun h=>by simp[nrl,h]
  have X:f.kind=3→nrl f=2:=fun h=>by simp[nrl,h]
  have k1:∀ {a b},f=Y_ a b→f.kind=1:=fun e=>by rw[e];rfl
  have k2:∀ {a r b},f=ab_ a r b→f.kind=2:=fun e=>by rw[e];rfl
  have k3:∀ {a r lo hi},f=am_ a r lo hi→f.kind=3:=fun e=>by rw[e];rfl
  have C:∀ z a,z∈ps→z.kind=2→f.kind=1→f.a=a→(z.a=f.b∨z.b=f.b)→Y_ a z.a∈kof s.1→Y_ a z.b∈kof s.1→good (Y_ a z.c):=by
    intro z a m hk d M hb W V;subst M;obtain⟨L,T,e2,e3⟩:=fu_ R f (lat (aL_ ps) ⟨2,[],f.b⟩) (rls stp kof (aL_ ps) x f 1 s).1;exact K 1 1 d zak_ L (by rw[rl.eq_def,if_pos d];exact T) _ (e3 z (pm2.2 ⟨m,hk,hb⟩) (kt_ R 1 s _ W) (kt_ R 1 s _ V))
  have Y:f.kind=3→(∀ y∈gr_ f (ey_ x f (decide (f∈s.2)))++hI_ f (ey_ x f (decide (f∈s.2))),good y):=fun E =>
    K 3 0 E (by rw[X E];decide) _ (by rw[rl.eq_def,if_neg (by rw[E];decide),if_neg (by rw[E];decide)];rfl)
  have v:decide (f∈s.2)=true↔Fm f:=by rw[decide_eq_true_eq];exact (U f Q).symm
  refine⟨?_,?_,?_,?_,?_,?_,?_,?_,?_,?_,?_,?_,?_,?_,?_⟩
  · intro z a m hk e
    have d:=k1 e;exact K 1 0 d zak_ (gU_ (aL_ ps) f) zae_ _ (by rw[e];exact qP_ m hk)
  · intro z a m hk e h
    have d:=k1 e;exact C z a m hk d (by rw[e];rfl) (by rw[e];exact .inl rfl) (by rw[← e];exact J f Q) h
  · intro z a m hk e h
    have d:=k1 e;exact C z a m hk d (by rw[e];rfl) (by rw[e];exact .inr rfl) h (by rw[← e];exact J f Q)
  · intro z a m hk e
    have d:=k1 e;exact K 1 2 d zak_ (nO_ (aL_ ps) f) zae_ _ (by rw[e];exact uG_ m hk)
  · intro z a b m hk e
    have d:=k2 e;exact K 2 0 d zas_ (gS_ (aL_ ps) f) zD_ _ (by rw[e];exact qA_ m hk)
  · intro z a b c m hk e h
    have d:=k2 e;exact K 2 1 d zas_ (fJ_ (aL_ ps) x f++hE_ (aL_ ps) x f) zD_ _ (List.mem_append_left _ (by rw[e];exact rZ_ F P m hk h))
  · intro z a b c m hk e h
    have d:=k2 e;exact K 2 1 d zas_ (fJ_ (aL_ ps) x f++hE_ (aL_ ps) x f) zD_ _ (List.mem_append_right _ (by rw[e];exact rY_ F P m hk h))
  · intro z a b m hk e h
    have d:=k2 e;exact K 2 2 d zas_ (fM_ (aL_ ps) x f) zD_ _ (by rw[e];exact pf_ F P m hk h)
  · intro z a b m hk e h
    have d:=k1 e;exact K 1 3 d zak_ (fN_ (aL_ ps) x f) zae_ _ (by rw[e];exact pg_ F P m hk h)
  · intro a r b e h
    have d:=k2 e;have T:Y_ f.b [33]∈kof (rls stp kof (aL_ ps) x f 3 s).1:=kt_ R 3 s _ (by rw[e];exact h);exact K 2 3 d zas_ [Y_ f.a [33]] (by rw[rl.eq_def,if_neg (by rw[d];decide),if_pos d];simp only[if_pos T];rfl) _ (by rw[e];simp[ab_])
  · intro a r b e h
    have d:=k1 e;exact K 1 4 d zak_ (ds_ x f) zae_ _ (by rw[e];exact nD_ F h)
  · intro z a m hk e
    have d:=k1 e;exact K 1 5 d zak_ ((lat (aL_ ps) ⟨8,[],f.b⟩).map fun y=>am_ f.a y.r y.lo y.hi) (by rw[rl.eq_def,if_pos d];exact eV_ stp kof f _ _ _) _ (by rw[e];exact te_ m hk)
  · intro y E O hk M G hm hl
    have B:=og_ F v O hk M G hm;rcases (qq_ (f:=f) B).1 hl with q|q|q
    · exact Y E _ (List.mem_append_left _ q)
    · rw[q];exact hS f Q
    · rw[q];exact hS y O
  · intro y E O hk M G hm hl
    have B:=og_ F v O hk M G hm;exact Y E _ (List.mem_append_right _ ((qq_ (f:=f) B).2 hl))
  · intro z a lo hi m hk e W V
    have d:=k3 e;exact K 3 1 d (by rw[X d];decide) (tB_ (aL_ ps) f) (by rw[rl.eq_def,if_neg (by rw[d];decide),if_neg (by rw[d];decide)]<;>rfl) _ (by rw[e];exact xg_ m hk W V)
end
end Go.Vs
namespace Go.Vs
open Go Go.Sx
def bm_ (m:Nat) (y:Fc) (q:List Fc):List Fc:=if q.length≤m∧y ∉ q then q++[y] else q
abbrev idk:List Fc→List Fc:=fun q=>q
theorem pJ_ (m:Nat) (y:Fc) (q:List Fc):∃ t,bm_ m y q=q++t:=by
 unfold bm_;split
 ·exact⟨[y],rfl⟩
 exact⟨[],by simp⟩
theorem jY_ (m:Nat):∀ (L q:List Fc),∃ t,emits (bm_ m) L q=q++t
  | [],q=>⟨[],by simp[emits]⟩
  | y::L,q=>by
    obtain⟨t,h⟩:=pJ_ m y q;obtain⟨u,d⟩:=jY_ m L (bm_ m y q);exact⟨t++u,by rw[← List.append_assoc,← h,← d];rfl⟩
theorem fB_ (m:Nat):Grows (bm_ m) idk:=⟨fun y s z d=>by obtain⟨t,h⟩:=pJ_ m y s;rw[h];exact List.mem_append_left _ d⟩
theorem gt_ (m:Nat):∀ (L q:List Fc) (z:Fc),z∈emits (bm_ m) L q→z∈q∨z∈L
 | [],q,z,h=>.inl h
 | y::L,q,z,h=>by
   rcases gt_ m L (bm_ m y q) z h with h|h
   · unfold bm_ at h
     split at h
     · rcases List.mem_append.1 h with h|h
       · exact .inl h
       · exact .inr (by simp at h;simp[h])
     · exact .inl h
   · exact .inr (List.mem_cons_of_mem _ h)
theorem iM_ (m:Nat):∀ (L q:List Fc),q.Nodup→(emits (bm_ m) L q).Nodup
 | [],q,h=>h
 | y::L,q,h=>by
   refine iM_ m L (bm_ m y q) ?_;unfold bm_
   split
   · rename_i k
     rw[List.nodup_append];exact⟨h,by simp,fun a v b d e=>by simp at d;subst d;subst e;exact k.2 v⟩
   · exact h
theorem pi_ (m:Nat):∀ (L q:List Fc),q.length≤m+1→(emits (bm_ m) L q).length≤m+1
 | [],q,h=>h
 | y::L,q,h=>by
   refine pi_ m L (bm_ m y q) ?_;unfold bm_
   split
   · rename_i d;simp;exact d.1
   · exact h
theorem iN_ (m:Nat):∀ (L q:List Fc),(emits (bm_ m) L q).length≤m→∀ y∈L,y∈emits (bm_ m) L q
 | [],q,_,y,d=>by simp at d
 | x::L,q,h,y,d=>by
   have e:emits (bm_ m) (x::L) q=emits (bm_ m) L (bm_ m x q):=rfl;rw[e]at h ⊢;rcases List.mem_cons.1 d with rfl|d
   · obtain⟨t,v⟩:=jY_ m L (bm_ m y q)
     rw[v]at h ⊢;refine List.mem_append_left _ ?_;have hl:(bm_ m y q).length≤m:=by rw[List.length_append]at h;omega
     unfold bm_ at hl ⊢
     split
     · simp
     · rename_i k
       rw[if_neg k]at hl;exact Classical.byContradiction fun B=>k ⟨hl,B⟩
   · exact iN_ m L _ h y d
theorem lx_ {ps:List Pc} {A:List Str} {m:Nat} {f:Fc}:∀ (l:List Pc) (s:List Fc),(∀ z∈l,z∈ps∧z.kind=2)→(∀ y∈s,Der ps A y)→∀ y∈el_ (bm_ m) idk f l s,Der ps A y
 | [],s,_,hs,y,d=>hs y d
 | z::l,s,hl,hs,y,d=>by
   have e:=hl z zj_;simp only[el_,List.foldl_cons]at d;refine lx_ l _ (fun z e=>hl z (by simp[e])) (fun y d=>?_) y d
   split at d
   · rename_i k
     have:=gt_ m [Y_ f.a z.c] s y d;rcases this with h|h
     · exact hs y h
     · simp at h;subst h
       exact Der.step (.r4 e.1 e.2 (hs _ k.1) (hs _ k.2))
   · exact hs y d
section
variable {ps:List Pc} {A:List Str} {m:Nat} {x:Ix} {S Fm:Fc→Prop} {f:Fc}
theorem tq_ (I:∀ x∈ps,x.vok) (v:x.of S Fm) (hS:∀ y,S y→y.form) (hk:f.kind=1∨f.kind=2∨f.kind=3) (e:f.form) (j:Nat) (s:List Fc×List Fc) (k:∀ y,S y→y∈s.1) (d:f∈s.1) (G:∀ y∈s.1,Der ps A y) :
    ∀ y∈(rl (bm_ m) idk (aL_ ps) x f j s).1,Der ps A y:=by
  have E:∀ L,(∀ y∈L,hF_ ps A (·∈s.1) y)→∀ y∈emits (bm_ m) L s.1,Der ps A y:=fun L K y F=>by
    rcases gt_ m L s.1 y F with h|h
    · exact G y h
    · exact Der.step ((K y h).mono (fun x v=>⟨x,v,x.frm,rfl⟩) (fun _ h=>h) G (fun _ _ h=>h))
  unfold rl
  split
  · rename_i B
    split
    · exact E _ (nE_ B e d)
    · exact lx_ _ s.1 (fun z J=>by have:=pm2.1 J;exact⟨this.1,this.2.1⟩) G
    · exact E _ (rn_ B e d)
    · exact E _ (nn_ I v hS k B e d)
    · exact E _ (lH_ v hS k B e d)
    · rw[eV_];exact E _ (pE_ B e d)
  · split
    · rename_i C
      split
      · exact E _ (nC_ C e d)
      · exact E _ (qV_ v hS k C e d)
      · exact E _ (nm_ v hS k C e d)
      · simp only
        split
        · rename_i M
          exact E [Y_ f.a [33]] (fun y F=>by simp at F;subst F;exact lG_ C e d M)
        · exact G
    · rename_i B C
      have H:f.kind=3:=by omega
      split
      · exact E _ (rE_ v hS k H e d)
      · exact E _ (tA_ H e d)
theorem mA_ (k:∀ x∈ps,x.vok) (v:x.of S Fm) (hS:∀ y,S y→y.form) (h:f.form) (s:List Fc×List Fc) (d:∀ y,S y→y∈s.1) (e:f∈s.1) (C:∀ y∈s.1,Der ps A y) (j:Nat) :
    ∀ y∈(rls (bm_ m) idk (aL_ ps) x f j s).1,Der ps A y:=by
  induction j with
  | zero=>exact C
  | succ j ih=>exact tq_ k v hS (iL_ h) h j _ (fun y B=>kt_ (fB_ m) j s y (d y B)) (kt_ (fB_ m) j s f e) ih
end
inductive Fmd (fm:List Fc):Fc→Prop
  | base {y:Fc} (h:y∈fm):Fmd fm y
  | meet {y z:Fc} (hy:Fmd fm y) (hz:Fmd fm z) (ha:z.a=y.a) (hr:z.r=y.r) (hl:max y.lo z.lo≤min y.hi z.hi):Fmd fm (dC_ y z)
theorem Fmd.mono {fm d:List Fc} (h:∀ y∈fm,y∈d) {y:Fc} (e:Fmd fm y):Fmd d y:=by
  induction e with
  | base h1=>exact .base (h _ h1)
  | meet _ _ ha hr hl ih1 ih2=>exact .meet ih1 ih2 ha hr hl
structure InvA (ps:List Pc) (A:List Str) (m n:Nat) (q fm:List Fc) (x:Ix):Prop where
  nd:q.Nodup
  len:q.length≤m
  le:n≤q.length
  der:∀ y∈q,Der ps A y
  form:∀ y∈q,y.form
  ix:x.of (·∈q.take n) (·∈fm)
  fmq:∀ y∈fm,y∈q∧y.kind=3
  firm:∀ y∈q,y.kind=3→Fmd fm y
  st:∀ a∈A,Y_ a a∈q∧Y_ a [42]∈q∧∀ z∈ps,z.kind=7→ab_ a z.r a∈q
  cl:∀ y,One ps A (·∈q.take n) (fun y z=>y∈fm∨z∈fm) y→y∈q
theorem Der.form {p:List Pc} {A:List Str} (d:∀ x∈p,x.vok) {y:Fc} (h:Der p A y):y.form:=h _ fun _ e=>One.form d (fun _ h=>h) e
theorem li_ {stp:Fc→List Fc→List Fc} {kof:List Fc→List Fc} (hk:∀ i s z,z∈kof (stp i s)→z∈kof s∨z=i) (h:Grows stp kof) (f:Fc):∀ (l:List Pc) (s fm:List Fc),∀ y∈l,am_ f.a y.r y.lo y.hi∈kof s∨am_ f.a y.r y.lo y.hi∈(cg_ stp kof f l (s,fm)).2
 | [],s,fm,y,d=>by simp at d
 | x::l,s,fm,y,d=>by
   have e:cg_ stp kof f (x::l) (s,fm)=cg_ stp kof f l (stp (am_ f.a x.r x.lo x.hi) s,if am_ f.a x.r x.lo x.hi∈kof s then fm else am_ f.a x.r x.lo x.hi::fm):=rfl;rw[e]
   by_cases k:am_ f.a y.r y.lo y.hi=am_ f.a x.r x.lo x.hi
   · rw[k]
     by_cases B:am_ f.a x.r x.lo x.hi∈kof s
     · exact .inl B
     · refine .inr ((hg_ h f l _ _ _).2 (.inl ?_))
       rw[if_neg B];simp
   · rcases List.mem_cons.1 d with rfl|d
     · exact absurd rfl k
     · rcases li_ hk h f l (stp (am_ f.a x.r x.lo x.hi) s) (if am_ f.a x.r x.lo x.hi∈kof s then fm else am_ f.a x.r x.lo x.hi::fm) y d with v|v
       · exact (hk _ _ _ v).imp id fun q=>absurd q k
       · exact .inr v
theorem ut_ {q:List Fc} {n:Nat} {f z:Fc} (d:q[n]? = some f):z∈q.take (n+1)↔z∈q.take n∨z=f:=by
  rw[List.take_add_one,d];simp
theorem xM_ {ps:List Pc} {A:List Str} {S Fm B good:Fc→Prop} {f:Fc} (k:Cmpl ps (fun y=>S y∨y=f) Fm B good f) (v:∀ y,S y∨y=f→B y) (h:∀ y,One ps A S (fun y z=>Fm y∨Fm z) y→good y) (y:Fc) (C:One ps A (fun y=>S y∨y=f) (fun y z=>Fm y∨Fm z) y):good y:=by
 cases C with
 | r1 d=>exact h _ (.r1 d)
 | r2 d=>exact h _ (.r2 d)
 | r10 hx hk d=>exact h _ (.r10 hx hk d)
 | r3 hx hk d=>exact d.elim (fun q=>h _ (.r3 hx hk q)) (fun q=>k.c3 _ _ hx hk q.symm)
 | r4 hx hk d e =>
   rcases d with d|d
   · rcases e with e|e
     · exact h _ (.r4 hx hk d e)
     · exact k.c4' _ _ hx hk e.symm (v _ (.inl d))
   · exact k.c4 _ _ hx hk d.symm (v _ e)
 | r5 hx hk d=>exact d.elim (fun q=>h _ (.r5 hx hk q)) (fun q=>k.c5 _ _ hx hk q.symm)
 | r6 hx hk d=>exact d.elim (fun q=>h _ (.r6 hx hk q)) (fun q=>k.c6 _ _ _ hx hk q.symm)
 | r7 hx hk d e =>
   rcases d with d|d
   · rcases e with e|e
     · exact h _ (.r7 hx hk d e)
     · exact k.c7' _ _ _ _ hx hk e.symm (.inl d)
   · exact k.c7 _ _ _ _ hx hk d.symm e
 | r8 hx hk d e =>
   rcases d with d|d
   · rcases e with e|e
     · exact h _ (.r8 hx hk d e)
     · exact k.c8' _ _ _ hx hk e.symm (.inl d)
   · exact k.c8 _ _ _ hx hk d.symm e
 | r9 d e =>
   rcases d with d|d
   · rcases e with e|e
     · exact h _ (.r9 d e)
     · exact k.c9' _ _ _ e.symm (.inl d)
   · exact k.c9 _ _ _ d.symm (v _ e)
 | r11 hx hk d=>exact d.elim (fun q=>h _ (.r11 hx hk q)) (fun q=>k.c11 _ _ hx hk q.symm)
 | @r12 a r lo hi lo' hi' d e hm hl =>
   rcases d with d|d
   · rcases e with e|e
     · exact h _ (.r12 d e hm hl)
     · have:=k.c12 (am_ a r lo hi) zah_ (.inl d) rfl zah_ zah_ (by rw[← e];exact hm.symm) (by rw[← e];simp only[am_];omega)
       rw[← e]at this;rw[Int.max_comm,Int.min_comm];exact this
   · have:=k.c12 (am_ a r lo' hi') zan_ e rfl zan_ zan_ (by rw[← d];exact hm) (by rw[← d];exact hl)
     rw[← d]at this;exact this
 | @r13 a r lo hi lo' hi' d e hm hl =>
   rcases d with d|d
   · rcases e with e|e
     · exact h _ (.r13 d e hm hl)
     · have:=k.c13 (am_ a r lo hi) zah_ (.inl d) rfl zah_ zah_ (by rw[← e];exact hm.symm) (by rw[← e];simp only[am_];omega)
       rw[← e]at this;exact this
   · have:=k.c13 (am_ a r lo' hi') zan_ e rfl zan_ zan_ (by rw[← d];exact hm) (by rw[← d];exact hl)
     rw[← d]at this;exact this
 | r14 hx hk d g1 g2=>exact d.elim (fun q=>h _ (.r14 hx hk q g1 g2)) (fun q=>k.c14 _ _ _ _ hx hk q.symm g1 g2)
theorem One.congrM {p:List Pc} {A:List Str} {S:Fc→Prop} {M d:Fc→Fc→Prop} (e:∀ y z,S y→S z→M y z→d y z) {y:Fc} (h:One p A S M y):One p A S d y:=by
  cases h with
  | r1 h=>exact .r1 h
  | r2 h=>exact .r2 h
  | r10 hx hk h=>exact .r10 hx hk h
  | r3 hx hk h=>exact .r3 hx hk h
  | r4 hx hk h h'=>exact .r4 hx hk h h'
  | r5 hx hk h=>exact .r5 hx hk h
  | r6 hx hk h=>exact .r6 hx hk h
  | r7 hx hk h h'=>exact .r7 hx hk h h'
  | r8 hx hk h h'=>exact .r8 hx hk h h'
  | r9 h h'=>exact .r9 h h'
  | r11 hx hk h=>exact .r11 hx hk h
  | r12 h h' hm hl=>exact .r12 h h' (e _ _ h h' hm) hl
  | r13 h h' hm hl=>exact .r13 h h' (e _ _ h h' hm) hl
  | r14 hx hk h h1 h2=>exact .r14 hx hk h h1 h2
section
variable {ps:List Pc} {A:List Str} {m n:Nat} {q fm:List Fc} {x:Ix} {f:Fc}
theorem uP_ (j k:Nat) (s:List Fc×List Fc):∃ t,(rls (bm_ m) idk (aL_ ps) x f (j+k) s).1=(rls (bm_ m) idk (aL_ ps) x f j s).1++t:=by
  induction k with
  | zero=>exact⟨[],by simp⟩
  | succ k ih =>
    obtain⟨t,h⟩:=ih;obtain⟨L,e⟩:=pV_ (ps:=ps) (x:=x) (f:=f) (fB_ m) (j+k) (rls (bm_ m) idk (aL_ ps) x f (j+k) s);obtain⟨u,d⟩:=jY_ m L (rls (bm_ m) idk (aL_ ps) x f (j+k) s).1;exact⟨t++u,by rw[← Nat.add_assoc,rls,e,d,h,List.append_assoc]⟩
theorem pW_ (j:Nat) (s:List Fc×List Fc) (h:f.kind=1→j≤4) (G:f.kind=3→j≠0) (hk:f.kind=1∨f.kind=2∨f.kind=3):∀ y∈(rl (bm_ m) idk (aL_ ps) x f j s).1,y.kind=3→y∈s.1:=by
 have E:∀ L:List Fc,(∀ y∈L,y.kind≠3)→∀ y∈emits (bm_ m) L s.1,y.kind=3→y∈s.1:=fun L H y d hk =>
   (gt_ m L s.1 y d).elim id fun q=>absurd hk (H y q)
 have B:∀ {α:Type} (l:List α) (g:α→Fc),(∀ a,(g a).kind≠3)→∀ y∈l.map g,y.kind≠3:=fun l g C y d=>by
   obtain⟨a,_,rfl⟩:=List.mem_map.1 d;exact C a
 have v:∀ {α β:Type} (l:List α) (k:α→List β) (g:α→β→Fc),(∀ a b,(g a b).kind≠3)→∀ y∈l.flatMap (fun a=>(k a).map (g a)),y.kind≠3:=fun l k g C y d=>by
   obtain⟨a,_,d⟩:=List.mem_flatMap.1 d;exact B _ _ (C a) y d
 unfold rl
 split
 ·rename_i F
  split
  ·exact E _ (B _ _ fun _=>by simp[Y_])
  ·obtain⟨L,I,P,_⟩:=fu_ (fB_ m) f (lat (aL_ ps) ⟨2,[],f.b⟩) s.1
   rw[I];exact E L fun y d=>by obtain⟨_,_,rfl,_⟩:=P y d;simp[Y_]
  ·exact E _ (B _ _ fun _=>by simp[ab_])
  ·exact E _ (v _ _ _ fun _ _=>by simp[Y_])
  ·refine E _ fun y d=>?_
   unfold ds_ at d
   split at d
   ·exact B _ _ (fun _=>by simp[Y_]) y d
   simp at d
  have:=h F
  rename_i M K J O N
  have e:j=0∨j=1∨j=2∨j=3∨j=4:=by omega
  rcases e with e|e|e|e|e
  ·exact (M e).elim
  ·exact (K e).elim
  ·exact (J e).elim
  ·exact (O e).elim
  exact (N e).elim
 split
 ·split
  ·exact E _ (B _ _ fun _=>by simp[ab_])
  ·refine E _ fun y d=>?_
   rcases List.mem_append.1 d with d|d
   ·exact v _ _ _ (fun _ _=>by simp[ab_]) y d
   exact v _ _ _ (fun _ _=>by simp[ab_]) y d
  ·exact E _ (v _ _ _ fun _ _=>by simp[Y_])
  simp only
  split
  ·exact E [Y_ f.a [33]] (by simp[Y_])
  exact fun y d _=>d
 rename_i F Q
 split
 ·exact absurd rfl (G za_)
 exact E _ (B _ _ fun _=>by simp[Y_])
theorem nS_ (j:Nat) (s:List Fc×List Fc) (h:f.kind=1→j≤5) (v:f.kind≠3) (hk:f.kind=1∨f.kind=2∨f.kind=3):∀ y∈(rls (bm_ m) idk (aL_ ps) x f j s).1,y.kind=3→y∈s.1:=by
  induction j with
  | zero=>exact fun y k _=>k
  | succ j ih=>exact fun y k e=>ih (fun d=>by have:=h d;omega) y (pW_ j _ (fun d=>by have:=h d;omega) (fun d=>absurd d v) hk y k e) e
theorem vA_ (hr:∀ x∈ps,x.vok) (inv:InvA ps A m n q fm x) (hn:q[n]? = some f) {k:List Fc×List Fc} (C:rls (bm_ m) idk (aL_ ps) (x.add (decide (f∈fm)) f) f (nrl f) (q,fm)=k) (hl:k.1.length≤m) :
    InvA ps A m (n+1) k.1 k.2 (x.add (decide (f∈fm)) f):=by
  have N:f∈q:=List.mem_of_getElem? hn;have hlt:n<q.length:=(List.getElem?_eq_some_iff.1 hn).1;have K:=inv.form f N;have hk:=iL_ K;have O:(x.add (decide (f∈fm)) f).of (fun y=>y∈q.take n∨y=f) (·∈fm):=Ix.of_add inv.ix f zj_;have F:∀ y,(y∈q.take n∨y=f)→y∈q:=fun y d=>d.elim (fun h=>List.mem_of_mem_take h) (fun h=>h▸N)
  obtain⟨L,V⟩:=ku_ (ps:=ps) (x:=x.add (decide (f∈fm)) f) (f:=f) (fB_ m) (nrl f) (q,fm);rw[C]at V;obtain⟨t,ht⟩:=jY_ m L q;have M:k.1=q++t:=by rw[V];exact ht
  have B:∀ y∈q,y∈k.1:=fun y d=>by rw[M];exact List.mem_append_left _ d
  have T:k.1.take (n+1)=q.take (n+1):=by rw[M,List.take_append_of_le_length za_]
  have R:∀ y,y∈k.1.take (n+1)↔(y∈q.take n∨y=f):=fun y=>by rw[T];exact ut_ hn
  have P:∀ y∈k.1,Der ps A y:=by rw[← C];exact mA_ hr O (fun y d=>inv.form y (F y d)) K (q,fm) F N inv.der (nrl f)
  have H:∀ j,j<nrl f→∀ L,(rls (bm_ m) idk (aL_ ps) (x.add (decide (f∈fm)) f) f (j+1) (q,fm)).1=emits (bm_ m) L (rls (bm_ m) idk (aL_ ps) (x.add (decide (f∈fm)) f) f j (q,fm)).1→∀ y∈L,y∈k.1:=by
    intro j hj L V y d;obtain⟨u,W⟩:=uP_ (m:=m) (ps:=ps) (x:=x.add (decide (f∈fm)) f) (f:=f) (j+1) (nrl f - (j+1)) (q,fm);rw[show j+1+(nrl f - (j+1))=nrl f by omega,C]at W;have a0:(rls (bm_ m) idk (aL_ ps) (x.add (decide (f∈fm)) f) f (j+1) (q,fm)).1.length≤m:=by rw[W,List.length_append]at hl;omega
    rw[V]at a0;have:=iN_ m L _ a0 y d;rw[W,V];exact List.mem_append_left _ this
  have hc:=uO_ (fB_ m) hr O (q,fm) (fun _ _=>Iff.rfl) (.inr rfl) F (·∈k.1) (fun y d=>B y (F y d)) H
  -- the firm ones
  have E:(∀ y∈fm,y∈k.2)∧(∀ y∈k.2,y∈fm∨(y ∉ q∧y∈k.1∧y.kind=3))∧(∀ y∈k.1,y.kind=3→y∈q∨y∈k.2∨∃ z,(z∈q.take n∨z=f)∧z.kind=3∧f.kind=3∧z.a=f.a∧z.r=f.r∧max f.lo z.lo≤min f.hi z.hi∧y=dC_ f z):=by
    by_cases Q:f.kind=1
    · have e6:nrl f=5+1:=by simp[nrl,Q]
      rw[e6,rls]at C;have hf5:(rls (bm_ m) idk (aL_ ps) (x.add (decide (f∈fm)) f) f 5 (q,fm)).2=fm:=pU_ 5 (q,fm) (fun _=>Nat.le_refl _);have U:=nS_ (m:=m) (ps:=ps) (x:=x.add (decide (f∈fm)) f) (f:=f) 5 (q,fm) (fun _=>Nat.le_refl _) za_ hk;have a1:∀ y∈q,y∈(rls (bm_ m) idk (aL_ ps) (x.add (decide (f∈fm)) f) f 5 (q,fm)).1:=fun y d=>kt_ (fB_ m) 5 (q,fm) y d
      have H5:=H 5 za_;rw[rls]at H5;generalize rls (bm_ m) idk (aL_ ps) (x.add (decide (f∈fm)) f) f 5 (q,fm)=s5 at C hf5 U a1 H5
      have er:rl (bm_ m) idk (aL_ ps) (x.add (decide (f∈fm)) f) f 5 s5=cg_ (bm_ m) idk f (lat (aL_ ps) ⟨8,[],f.b⟩) s5:=by rw[rl.eq_def,if_pos Q]<;>rfl
      rw[er]at C H5;have es5:s5=(s5.1,fm):=by rw[← hf5]
      rw[es5]at C H5;have Hv:=H5 _ (eV_ (bm_ m) idk f _ s5.1 fm);refine⟨fun y d=>?_,fun y d=>?_,fun y d G=>?_⟩
      · rw[← C];exact (hg_ (fB_ m) f _ _ _ _).2 (.inl d)
      · rw[← C]at d
        rcases (hg_ (fB_ m) f _ _ _ _).1 d with h|h
        · exact .inl h
        · rcases mi_ f _ _ _ _ h.2 with g|⟨z,I,rfl⟩
          · exact .inl g
          · exact .inr ⟨fun hq=>h.1 (a1 _ hq),Hv _ (List.mem_map.2 ⟨z,I,rfl⟩),rfl⟩
      · have hy':=d
        rw[← C,eV_]at d;rcases gt_ m _ _ y d with h|h
        · exact .inl (U y h G)
        · obtain⟨z,I,rfl⟩:=List.mem_map.1 h
          rcases li_ (stp:=bm_ m) (kof:=idk) (fun i s z I=>(gt_ m [i] s z I).imp id zj_) (fB_ m) f _ s5.1 fm z I with g|g
          · exact .inl (U _ g rfl)
          · exact .inr (.inl (by rw[← C];exact g))
    · have hf2:k.2=fm:=by rw[← C];exact pU_ _ (q,fm) (fun h=>absurd h Q)
      refine⟨fun y d=>by rw[hf2];exact d,fun y d=>.inl (by rw[← hf2];exact d),fun y d G=>?_⟩
      by_cases X:f.kind=3
      · have e2:nrl f=0+1+1:=by simp[nrl,X]
        rw[e2,rls]at C;rw[← C]at d;have hy1:=pW_ 1 _ (fun h=>absurd h Q) (fun _=>by decide) hk y d G;rw[rls,rl.eq_def,if_neg Q,if_neg za_]at hy1;rcases gt_ m _ _ y hy1 with h|h
        · exact .inl h
        · rcases List.mem_append.1 h with h|h
          · obtain⟨z,I,rfl⟩:=List.mem_map.1 h
            obtain⟨I,Z⟩:=List.mem_filter.1 I;obtain⟨g1,g2,g3,g4⟩:=ky_ O I;simp only[eN_,Bool.and_eq_true,Bool.not_eq_true',decide_eq_false_iff_not,Int.not_lt]at Z;exact .inr (.inr ⟨z,g1,g2,X,g3,g4,Z.1,rfl⟩)
          · unfold hI_ at h
            split at h
            · simp at h;rw[h]at G;simp[Y_]at G
            · simp at h
      · rw[← C]at d
        exact .inl (nS_ _ _ (fun h=>absurd h Q) X hk y d G)
  have J:∀ y,(y∈q.take n∨y=f)→(y∈fm↔y∈k.2):=fun y d=>⟨fun h=>E.1 y h,fun h=>(E.2.1 y h).elim id fun g=>absurd (F y d) g.1⟩
  refine⟨?_,hl,?_,P,fun y d=>(P y d).form hr,?_,?_,?_,?_,?_⟩
  · rw[V];exact iM_ m L q inv.nd
  · rw[M,List.length_append];omega
  · have:=Ix.of_firm O J
    have e:(fun y=>y∈k.1.take (n+1))=(fun y=>y∈q.take n∨y=f):=funext fun y=>propext (R y)
    rw[e];exact this
  · intro y d
    rcases E.2.1 y d with h|h
    · exact⟨B y (inv.fmq y h).1,(inv.fmq y h).2⟩
    · exact h.2
  · intro y d Y
    rcases E.2.2 y d Y with h|h|⟨z,Q,h2,X,h4,h5,h6,rfl⟩
    · exact (inv.firm y h Y).mono E.1
    · exact .base h
    · exact .meet ((inv.firm f N X).mono E.1) ((inv.firm z (F z Q) h2).mono E.1) h4 h5 h6
  · intro a ha
    obtain⟨g1,g2,g3⟩:=inv.st a ha;exact⟨B _ g1,B _ g2,fun z I hk=>B _ (g3 z I hk)⟩
  · intro y d
    have e:(fun y=>y∈k.1.take (n+1))=(fun y=>y∈q.take n∨y=f):=funext fun y=>propext (R y)
    rw[e]at d;refine xM_ (A:=A) hc F (fun z I=>B z (inv.cl z I)) y (d.congrM fun u v W hv hm=>hm.imp (J u W).2 (J v hv).2)
theorem mm_le {a b c d e g:Int} (h:max a (max b c)≤min d (min e g)):max a b≤min d e:=by omega
theorem vB_ (inv:InvA ps A m q.length q fm x) (y:Fc):Der ps A y↔y∈q:=by
 refine⟨fun h=>h.least fun y I=>?_,inv.der y⟩;have d:∀ y,One ps A (·∈q) (fun y z=>y∈fm∨z∈fm) y→y∈q:=fun y I=>inv.cl y (by rw[List.take_length];exact I)
 have P:∀ f,Fmd fm f→∀ z∈q,z.kind=3→z.a=f.a→z.r=f.r→(max z.lo f.lo≤min z.hi f.hi→dC_ z f∈q)∧(min z.hi f.hi<max z.lo f.lo→Y_ z.a [33]∈q):=by
   intro f Y
   induction Y with
   | @base f hb =>
     intro z H hk M G;obtain⟨F,N⟩:=inv.fmq f hb;have T:=(hL_ (inv.form z H) hk).1;have ef:=(hL_ (inv.form f F) N).1;rw[← M,← G]at ef;refine⟨fun hl=>d _ (.r12 (by rw[← T];exact H) (by rw[← ef];exact F) (.inr (by rw[← ef];exact hb)) hl),fun hl=>d _ (.r13 (r:=z.r) (by rw[← T];exact H) (by rw[← ef];exact F) (.inr (by rw[← ef];exact hb)) hl)⟩
   | @meet y w I hw M G hl ih1 ih2 =>
     intro z H hk L O;have B:z.a=y.a:=L;have E:z.r=y.r:=O;obtain⟨Z,i2⟩:=ih1 z H hk B E;have K:(dC_ y w).lo=max y.lo w.lo:=rfl;have R:(dC_ y w).hi=min y.hi w.hi:=rfl;rw[K,R]
     by_cases J:max z.lo y.lo≤min z.hi y.hi
     · have Q:=Z J
       obtain⟨U,V⟩:=ih2 (dC_ z y) Q rfl (by rw[M,← B];rfl) (by rw[G,← E];rfl);have W:(dC_ z y).lo=max z.lo y.lo:=rfl;have X:(dC_ z y).hi=min z.hi y.hi:=rfl;rw[W,X]at U V;refine⟨fun v=>?_,fun v=>V (by rw[Int.max_assoc,Int.min_assoc];exact v)⟩;have:=U (by rw[Int.max_assoc,Int.min_assoc];exact v)
       have e:dC_ (dC_ z y) w=dC_ z (dC_ y w):=by
         simp only[dC_,am_];rw[Int.max_assoc,Int.min_assoc]
       rw[← e];exact this
     · exact⟨fun v=>absurd (mm_le v) J,fun _=>i2 (Int.not_le.1 J)⟩
 have C:∀ {a r:Str} {lo hi lo' hi':Int},am_ a r lo hi∈q→am_ a r lo' hi'∈q→(max lo lo'≤min hi hi'→am_ a r (max lo lo') (min hi hi')∈q)∧(min hi hi'<max lo lo'→Y_ a [33]∈q):=fun h k=>P _ (inv.firm _ k rfl) _ h rfl rfl rfl
 cases I with
 | r1 h=>exact d _ (.r1 h)
 | r2 h=>exact d _ (.r2 h)
 | r10 hx hk h=>exact d _ (.r10 hx hk h)
 | r3 hx hk h=>exact d _ (.r3 hx hk h)
 | r4 hx hk h k=>exact d _ (.r4 hx hk h k)
 | r5 hx hk h=>exact d _ (.r5 hx hk h)
 | r6 hx hk h=>exact d _ (.r6 hx hk h)
 | r7 hx hk h k=>exact d _ (.r7 hx hk h k)
 | r8 hx hk h k=>exact d _ (.r8 hx hk h k)
 | r9 h k=>exact d _ (.r9 h k)
 | r11 hx hk h=>exact d _ (.r11 hx hk h)
 | r12 h k hm hl=>exact (C h k).1 hl
 | r13 h k hm hl=>exact (C h k).2 hl
 | r14 hx hk h Q h2=>exact d _ (.r14 hx hk h Q h2)
end
def fj_ (loops:List Str) (A:List Str):List Fc:=A.flatMap fun a=>Y_ a a::Y_ a [42]::loops.map fun r=>ab_ a r a
theorem ly_ {ps:List Pc} {A:List Str} {S:Fc→Prop} {M:Fc→Fc→Prop}:∀ y∈fj_ (au_ ps) A,One ps A S M y:=by
 intro y d;obtain⟨a,e,d⟩:=List.mem_flatMap.1 d;simp only[List.mem_cons]at d;rcases d with rfl|rfl|d
 ·exact .r1 e
 ·exact .r2 e
 obtain⟨r,h,rfl⟩:=List.mem_map.1 d;obtain⟨z,k,rfl⟩:=List.mem_map.1 h;obtain⟨v,B⟩:=List.mem_filter.1 k;exact .r10 v (of_decide_eq_true B) e
theorem gW_ {ps:List Pc} {A:List Str} {a:Str} (d:a∈A):Y_ a a∈fj_ (au_ ps) A∧Y_ a [42]∈fj_ (au_ ps) A∧∀ z∈ps,z.kind=7→ab_ a z.r a∈fj_ (au_ ps) A:=by
  refine⟨List.mem_flatMap.2 ⟨a,d,by simp⟩,List.mem_flatMap.2 ⟨a,d,by simp⟩,fun z e hk=>List.mem_flatMap.2 ⟨a,d,?_⟩⟩;exact List.mem_cons_of_mem _ (List.mem_cons_of_mem _ (List.mem_map.2 ⟨z.r,List.mem_map.2 ⟨z,List.mem_filter.2 ⟨e,decide_eq_true hk⟩,rfl⟩,rfl⟩))
structure LoopA (ps:List Pc) (A:List Str) (m n:Nat) (q fm:List Fc) (x:Ix):Prop where
  nd:q.Nodup
  len:q.length≤m+1
  le:n≤q.length
  der:∀ y∈q,Der ps A y
  ix:x.of (·∈q.take n) (·∈fm)
  inv:q.length≤m→InvA ps A m n q fm x
section
variable {ps:List Pc} {A:List Str} {m n:Nat} {q fm:List Fc} {x:Ix} {f:Fc}
theorem qs_ (J:∀ x∈ps,x.vok) {q:List Fc} (E:emits (bm_ m) (fj_ (au_ ps) A) []=q):LoopA ps A m 0 q [] Ix.nil:=by
 have v:∀ y∈q,y∈fj_ (au_ ps) A:=fun y k=>by rw[← E]at k;exact (gt_ m _ _ y k).elim (fun h=>by simp at h) id
 have d:∀ y∈q,Der ps A y:=fun y k=>Der.step (ly_ y (v y k))
 have G:q.Nodup:=by rw[← E];exact iM_ m _ _ List.nodup_nil
 have F:Ix.nil.of (·∈q.take 0) (·∈([]:List Fc)):=by
   have e:(fun y=>y∈q.take 0)=(fun _=>False):=funext fun y=>by simp
   rw[e];exact Ix.of_nil _
 refine⟨G,by rw[← E];exact pi_ m _ _ zj_,Nat.zero_le _,d,F,fun hl=>⟨G,hl,Nat.zero_le _,d,fun y k=>(d y k).form J,F,by simp,fun y k hk=>?_,fun a I=>?_,fun y k=>?_⟩⟩
 ·exfalso
  obtain⟨a,_,h⟩:=List.mem_flatMap.1 (v y k);simp only[List.mem_cons]at h;rcases h with rfl|rfl|h
  ·simp[Y_]at hk
  ·simp[Y_]at hk
  obtain⟨r,_,rfl⟩:=List.mem_map.1 h;simp[ab_]at hk
 ·obtain⟨K,L,M⟩:=gW_ (ps:=ps) I
  rw[← E]at hl ⊢;exact⟨iN_ m _ _ hl _ K,iN_ m _ _ hl _ L,fun z H hk=>iN_ m _ _ hl _ (M z H hk)⟩
 rw[← E]at hl;have B:∀ a∈A,_:=fun a I=>gW_ (ps:=ps) I
 have C:∀ z∈fj_ (au_ ps) A,z∈q:=fun z H=>by rw[← E];exact iN_ m _ _ hl z H
 cases k with
 | r1 h=>exact C _ (B _ h).1
 | r2 h=>exact C _ (B _ h).2.1
 | r10 hx hk h=>exact C _ ((B _ h).2.2 _ hx hk)
 | r3 hx hk h=>simp at h
 | r4 hx hk h h'=>simp at h
 | r5 hx hk h=>simp at h
 | r6 hx hk h=>simp at h
 | r7 hx hk h h'=>simp at h
 | r8 hx hk h h'=>simp at h
 | r9 h h'=>simp at h
 | r11 hx hk h=>simp at h
 | r12 h h' hm hl=>simp at h
 | r13 h h' hm hl=>simp at h
 | r14 hx hk h h1 h2=>simp at h
theorem fZ_ (B:∀ x∈ps,x.vok) (h:LoopA ps A m n q fm x) (F:q[n]? = some f) (j:Nat) {e:List Fc×List Fc} (E:rls (bm_ m) idk (aL_ ps) (x.add (decide (f∈fm)) f) f j (q,fm)=e) :
    e.1.Nodup∧e.1.length≤m+1∧(∀ y∈e.1,Der ps A y)∧∃ t,e.1=q++t:=by
  have d:f∈q:=List.mem_of_getElem? F;have k:∀ y,(y∈q.take n∨y=f)→y∈q:=fun y C=>C.elim (fun h=>List.mem_of_mem_take h) (fun h=>h▸d)
  obtain⟨L,v⟩:=ku_ (ps:=ps) (x:=x.add (decide (f∈fm)) f) (f:=f) (fB_ m) j (q,fm);rw[E]at v;refine⟨by rw[v];exact iM_ m L q h.nd,by rw[v];exact pi_ m L q h.len,?_,by rw[v];exact jY_ m L q⟩;rw[← E];exact mA_ B (Ix.of_add h.ix f zj_) (fun y C=>(h.der y (k y C)).form B) ((h.der f d).form B) (q,fm) k d h.der j
theorem jq_ (e:∀ x∈ps,x.vok) (h:LoopA ps A m n q fm x) (v:q[n]? = some f) {d:List Fc×List Fc} (k:rls (bm_ m) idk (aL_ ps) (x.add (decide (f∈fm)) f) f (nrl f) (q,fm)=d) (hl:d.1.length≤m) :
    LoopA ps A m (n+1) d.1 d.2 (x.add (decide (f∈fm)) f):=by
  obtain⟨_,_,_,t,y⟩:=fZ_ e h v (nrl f) k;have hi:=vA_ e (h.inv (by rw[y,List.length_append]at hl;omega)) v k hl;exact⟨hi.nd,by have:=hi.len;omega,hi.le,hi.der,hi.ix,fun _=>hi⟩
theorem rF_ (h:LoopA ps A m q.length q fm x) (hl:q.length≤m) (y:Fc):Der ps A y↔y∈q:=vB_ (h.inv hl) y
end
theorem zf_eq (x:Pc):∃ n,{ x.zf with frm:=n }=x:=⟨x.frm,rfl⟩
theorem pF_ {p:List Pc} {A:List Str} {y:Fc}:Der (uniq [] p) A y↔Der p A y:=by
 constructor
 ·refine Der.mono (fun x d=>?_) (fun _ h=>h)
  rcases (jC_ p [] x).1 d with h|⟨z,e,rfl⟩
  ·simp at h
  exact⟨z,e,0,rfl⟩
 exact Der.mono (fun x d=>⟨x.zf,(jC_ p [] _).2 (.inr ⟨x,d,rfl⟩),zf_eq x⟩) (fun _ h=>h)
theorem ur_ {p:List Pc} (h:∀ x∈p,x.vok):∀ x∈uniq [] p,x.vok:=fun x e=>by
 rcases (jC_ p [] x).1 e with k|⟨z,d,rfl⟩
 ·simp at k
 exact⟨(h z d).rok,(h z d).num⟩
def Fc.lt (x y:Fc):Prop:=x.kind<y.kind∨x.kind=y.kind∧(x.a<y.a∨x.a=y.a∧(x.b<y.b∨x.b=y.b∧(x.r<y.r∨x.r=y.r∧(x.lo<y.lo∨x.lo=y.lo∧x.hi<y.hi))))
instance (x y:Fc):Decidable (Fc.lt x y):=by unfold Fc.lt;exact inferInstance
theorem oC_ (x:Str):¬ x<x:=List.lt_irrefl x
theorem oB_ (x y:Str):x<y∨x=y∨y<x:=by
 by_cases h:x<y
 ·exact .inl h
 by_cases d:y<x
 ·exact .inr (.inr d)
 exact .inr (.inl (List.le_antisymm (List.not_lt.1 d) (List.not_lt.1 h)))
theorem Fc.lt_irr (x:Fc):¬ x.lt x:=by
  unfold Fc.lt;simp[oC_]
theorem Fc.lt_tri (x y:Fc):x.lt y∨x=y∨y.lt x:=by
 unfold Fc.lt;rcases Int.lt_trichotomy x.kind y.kind with h|h|h
 ·exact .inl (.inl h)
 ·rcases oB_ x.a y.a with d|d|d
  ·exact .inl (.inr ⟨h,.inl d⟩)
  ·rcases oB_ x.b y.b with e|e|e
   ·exact .inl (.inr ⟨h,.inr ⟨d,.inl e⟩⟩)
   ·rcases oB_ x.r y.r with k|k|k
    ·exact .inl (.inr ⟨h,.inr ⟨d,.inr ⟨e,.inl k⟩⟩⟩)
    ·rcases Int.lt_trichotomy x.lo y.lo with v|v|v
     ·exact .inl (.inr ⟨h,.inr ⟨d,.inr ⟨e,.inr ⟨k,.inl v⟩⟩⟩⟩)
     ·rcases Int.lt_trichotomy x.hi y.hi with B|B|B
      ·exact .inl (.inr ⟨h,.inr ⟨d,.inr ⟨e,.inr ⟨k,.inr ⟨v,B⟩⟩⟩⟩⟩)
      ·refine .inr (.inl ?_);cases x;cases y;simp_all
      exact .inr (.inr (.inr ⟨h.symm,.inr ⟨d.symm,.inr ⟨e.symm,.inr ⟨k.symm,.inr ⟨v.symm,B⟩⟩⟩⟩⟩))
     exact .inr (.inr (.inr ⟨h.symm,.inr ⟨d.symm,.inr ⟨e.symm,.inr ⟨k.symm,.inl v⟩⟩⟩⟩))
    exact .inr (.inr (.inr ⟨h.symm,.inr ⟨d.symm,.inr ⟨e.symm,.inl k⟩⟩⟩))
   exact .inr (.inr (.inr ⟨h.symm,.inr ⟨d.symm,.inl e⟩⟩))
  exact .inr (.inr (.inr ⟨h.symm,.inl d⟩))
 exact .inr (.inr (.inl h))
theorem gP_ {α:Type} {lt:α→α→Prop} (k:∀ {x y z},lt x y→lt y z→lt x z) {x y z:α} {P Q R:Prop} (h:x=y→y=z→P→Q→R) (e:lt x y∨x=y∧P) (d:lt y z∨y=z∧Q):lt x z∨x=z∧R:=by
 rcases e with e|⟨rfl,e⟩
 ·rcases d with d|⟨rfl,d⟩
  ·exact .inl (k e d)
  exact .inl e
 rcases d with d|⟨rfl,d⟩
 ·exact .inl d
 exact .inr ⟨rfl,h rfl rfl e d⟩
theorem Fc.lt_trans {x y z:Fc} (d:x.lt y) (e:y.lt z):x.lt z :=
  gP_ (lt:=fun a b:Int=>a<b) Int.lt_trans (fun _ _=>gP_ (lt:=fun a b:Str=>a<b) List.lt_trans (fun _ _=>gP_ (lt:=fun a b:Str=>a<b) List.lt_trans (fun _ _=>gP_ (lt:=fun a b:Str=>a<b) List.lt_trans (fun _ _=>gP_ (lt:=fun a b:Int=>a<b) Int.lt_trans fun _ _=>Int.lt_trans)))) d e
theorem hl_ {α:Type} {lt:α→α→Prop} (hi:∀ x,¬ lt x x) (k:∀ {x y z},lt x y→lt y z→lt x z):∀ {l m:List α},l.Pairwise lt→m.Pairwise lt→(∀ x,x∈l↔x∈m)→l=m
 | [],[],_,_,_=>rfl
 | [],y::m,_,_,h=>by have:=(h y).2 zj_;simp at this
 | x::l,[],_,_,h=>by have:=(h x).1 zj_;simp at this
 | x::l,y::m,h1,h2,h=>by
   rw[List.pairwise_cons]at h1 h2
   have e:x=y:=by
     rcases List.mem_cons.1 ((h x).1 zj_) with e|v
     · exact e
     · rcases List.mem_cons.1 ((h y).2 zj_) with e|B
       · exact e.symm
       · exact absurd (k (h1.1 y B) (h2.1 x v)) (hi x)
   subst e
   congr 1
   refine hl_ hi k h1.2 h2.2 fun z=>⟨fun d=>?_,fun d=>?_⟩
   · rcases List.mem_cons.1 ((h z).1 zL_) with rfl|q
     · exact absurd (h1.1 z d) (hi z)
     · exact q
   · rcases List.mem_cons.1 ((h z).2 zL_) with rfl|q
     · exact absurd (h2.1 z d) (hi z)
     · exact q
abbrev Srt (l:List Fc):Prop:=l.Pairwise Fc.lt
theorem Srt.ext {l m:List Fc} (d:Srt l) (e:Srt m) (h:∀ x,x∈l↔x∈m):l=m:=hl_ Fc.lt_irr Fc.lt_trans d e h
def gy_ (p:List Pc) (A:List Str) (m:Nat):Option (List Fc)→Prop
  | some L=>Srt L∧(∀ y,y∈L↔Der p A y)∧L.length≤m
  | none=>∃ M:List Fc,M.Nodup∧(∀ y∈M,Der p A y)∧m<M.length
theorem cO_ {α:Type} [DecidableEq α]:∀ {l m:List α},l.Nodup→(∀ x∈l,x∈m)→l.length≤m.length
  | [],m,_,_=>by simp
  | x::l,m,h,hs=>by
    rw[List.nodup_cons]at h
    have:=cO_ (l:=l) (m:=m.erase x) h.2 fun y v=>by
      have d:y≠x:=fun e=>h.1 (e▸v)
      exact (List.mem_erase_of_ne d).2 (hs y zaG_)
    have k:=hs x zj_;rw[List.length_erase_of_mem k]at this;have:0<m.length:=List.length_pos_of_mem k;simp only[List.length_cons];omega
theorem gy_.uniq {p:List Pc} {A:List Str} {m:Nat} {r d:Option (List Fc)} (h:gy_ p A m r) (e:gy_ p A m d):r=d:=by
  cases r with
  | none =>
    cases d with
    | none=>rfl
    | some L =>
      obtain⟨M,B,k,C⟩:=h;obtain⟨_,y,E⟩:=e;have:=cO_ B fun x v=>(y x).2 (k x v)
      omega
  | some L =>
    cases d with
    | none =>
      obtain⟨M,B,k,C⟩:=e;obtain⟨_,y,E⟩:=h;have:=cO_ B fun x v=>(y x).2 (k x v)
      omega
    | some L'=>rw[h.1.ext e.1 fun x=>by rw[h.2.1,e.2.1]]
end Go.Vs
namespace Go.Vs
open Go Go.Sx
section
variable {ps:List Pc} {A:List Str} {c:List Fc} {x:Ix} {f:Fc}
theorem Cmpl.up {S F G good v:Fc→Prop} (h:Cmpl ps S F G good f) (q:∀ y,good y→v y):Cmpl ps S F G v f :=
  ⟨fun z a e d k=>q _ (h.c3 z a e d k),fun z a e d k m=>q _ (h.c4 z a e d k m),fun z a e d k m=>q _ (h.c4' z a e d k m),fun z a e d k=>q _ (h.c5 z a e d k),fun z a b e d k=>q _ (h.c6 z a b e d k),
   fun z a b c e d k m=>q _ (h.c7 z a b c e d k m),fun z a b c e d k m=>q _ (h.c7' z a b c e d k m),fun z a b e d k m=>q _ (h.c8 z a b e d k m),fun z a b e d k m=>q _ (h.c8' z a b e d k m),fun a r b e d=>q _ (h.c9 a r b e d),fun a r b e d=>q _ (h.c9' a r b e d),
   fun z a e d k=>q _ (h.c11 z a e d k),fun y e d k m B E C=>q _ (h.c12 y e d k m B E C),fun y e d k m B E C=>q _ (h.c13 y e d k m B E C),fun z a lo hi e d k m B=>q _ (h.c14 z a lo hi e d k m B)⟩
theorem vW_ {good:Fc→Prop} (e:∀ y∈fj_ (au_ ps) A,good y) (d:∀ f∈c,Cmpl ps (·∈c) (fun _=>True) (·∈c) good f) {y:Fc} (h:hF_ ps A (·∈c) y):good y:=by
  cases h with
  | r1 h=>exact e _ (gW_ h).1
  | r2 h=>exact e _ (gW_ h).2.1
  | r10 hx hk h=>exact e _ ((gW_ h).2.2 _ hx hk)
  | r3 hx hk h=>exact (d _ h).c3 _ _ hx hk rfl
  | r4 hx hk h h'=>exact (d _ h).c4 _ _ hx hk rfl h'
  | r5 hx hk h=>exact (d _ h).c5 _ _ hx hk rfl
  | r6 hx hk h=>exact (d _ h).c6 _ _ _ hx hk rfl
  | r7 hx hk h h'=>exact (d _ h).c7 _ _ _ _ hx hk rfl h'
  | r8 hx hk h h'=>exact (d _ h).c8 _ _ _ hx hk rfl h'
  | r9 h h'=>exact (d _ h).c9 _ _ _ rfl h'
  | r11 hx hk h=>exact (d _ h).c11 _ _ hx hk rfl
  | r12 h h' hm hl=>exact (d _ h).c12 _ rfl h' rfl rfl rfl (.inl trivial) hl
  | r13 h h' hm hl=>exact (d _ h).c13 _ rfl h' rfl rfl rfl (.inl trivial) hl
  | r14 hx hk h h1 h2=>exact (d _ h).c14 _ _ _ _ hx hk rfl h1 h2
end
def fb_ (l:List Fc) (f:Fc):Nat:=l.countP fun y=>decide (y.lt f)
def rM_ (l:List Fc) (f:Fc):List Fc:=if f∈l then l else l.take (fb_ l f)++f::l.drop (fb_ l f)
theorem ln_:∀ {l:List Fc} (f:Fc),Srt l→(∀ y∈l.take (fb_ l f),y.lt f)∧(∀ y∈l.drop (fb_ l f),¬ y.lt f)
 | [],f,_=>by simp[fb_]
 | x::l,f,h=>by
   rw[Srt,List.pairwise_cons]at h;obtain⟨v,B⟩:=ln_ f h.2
   by_cases m:x.lt f
   · have e:fb_ (x::l) f=fb_ l f+1:=by simp[fb_,m]
     rw[e];simp only[List.take_succ_cons,List.drop_succ_cons];exact⟨fun y d=>(List.mem_cons.1 d).elim (fun q=>q▸m) (v y),B⟩
   · have k:∀ y∈l,¬ y.lt f:=fun y d q=>m (Fc.lt_trans (h.1 y d) q)
     have e:fb_ (x::l) f=0:=by
       simp only[fb_,List.countP_cons,m,decide_false,Bool.false_eq_true,if_false,Nat.add_zero];rw[List.countP_eq_zero];intro y d;simpa using k y d
     rw[e];simp only[List.take_zero,List.not_mem_nil,false_imp_iff,implies_true,true_and,List.drop_zero];intro y d;rcases List.mem_cons.1 d with rfl|d
     · exact m
     · exact k y d
theorem vE_ (l:List Fc) (f y:Fc):y∈rM_ l f↔y∈l∨y=f:=by
 unfold rM_
 split
 ·rename_i h
  exact⟨.inl,fun q=>q.elim id fun e=>e▸h⟩
 have:y∈l↔y∈l.take (fb_ l f)∨y∈l.drop (fb_ l f):=by rw[← List.mem_append,List.take_append_drop]
 rw[this];simp only[List.mem_append,List.mem_cons];constructor
 ·rintro (h|h|h)
  ·exact .inl (.inl h)
  ·exact .inr h
  exact .inl (.inr h)
 rintro ((h|h)|h)
 ·exact .inl h
 ·exact .inr (.inr h)
 exact .inr (.inl h)
theorem vD_ {l:List Fc} (f:Fc) (h:Srt l):Srt (rM_ l f):=by
 unfold rM_
 split
 ·exact h
 rename_i C
 obtain⟨v,B⟩:=ln_ f h
 have k:∀ y∈l.drop (fb_ l f),f.lt y:=fun y e=>by
   rcases Fc.lt_tri f y with q|q|q
   · exact q
   · exact absurd (List.mem_of_mem_drop e) (q▸C)
   · exact absurd q (B y e)
 rw[Srt,List.pairwise_append];refine⟨h.sublist (List.take_sublist _ _),List.pairwise_cons.2 ⟨k,h.sublist (List.drop_sublist _ _)⟩,fun a m b d=>?_⟩;rcases List.mem_cons.1 d with rfl|d
 ·exact v a m
 exact Fc.lt_trans (v a m) (k b d)
def subA (p:List Pc) (l:List Fc) (f:Fc):List Fc:=p.flatMap fun x =>
  if x.kind=1∧x.a=f.b then [Y_ f.a x.c]
  else if x.kind=2∧(x.a=f.b∧Y_ f.a x.b∈l∨x.b=f.b∧Y_ f.a x.a∈l) then [Y_ f.a x.c]
  else if x.kind=3∧x.a=f.b then [ab_ f.a x.r x.c]
  else if x.kind=8∧x.a=f.b then [am_ f.a x.r x.lo x.hi]
  else []
def subBp (p:List Pc) (f y:Fc):List Fc:=p.flatMap fun x=>if x.kind=4∧x.r=y.r∧x.a=f.b then [Y_ y.a x.c] else []
def subB (p:List Pc) (f y:Fc):List Fc:=if y.kind≠2∨y.b≠f.a then [] else (if f.b=[33] then [Y_ y.a [33]] else [])++subBp p f y
def subS (p:List Pc) (l:List Fc) (f:Fc):List Fc:=subA p l f++l.flatMap (subB p f)
def sG_ (x:Pc) (f y:Fc):List Fc:=if y.kind≠2 then [] else (if x.r=f.r∧y.a=f.b∧y.r=x.s then [ab_ f.a x.t y.b] else [])++(if x.s=f.r∧y.b=f.a∧y.r=x.r then [ab_ y.a x.t f.b] else [])
def oi_ (l:List Fc) (f:Fc) (x:Pc):List Fc :=
  if x.kind=5∧x.r=f.r then [ab_ f.a x.t f.b]
  else if x.kind=4∧x.r=f.r∧Y_ f.b x.a∈l then [Y_ f.a x.c]
  else if x.kind=6 then l.flatMap (sG_ x f) else []
def ym_ (p:List Pc) (l:List Fc) (f:Fc):List Fc:=(if Y_ f.b [33]∈l then [Y_ f.a [33]] else [])++p.flatMap (oi_ l f)
def oL_ (f y:Fc):List Fc:=if y.kind≠3∨y.a≠f.a∨y.r≠f.r then [] else if max f.lo y.lo≤min f.hi y.hi then [dC_ f y] else [Y_ f.a [33]]
def rs_ (f:Fc) (x:Pc):List Fc:=if x.kind=9∧x.r=f.r∧x.lo≤f.lo∧f.hi≤x.hi then [Y_ f.a x.c] else []
def uS_ (p:List Pc) (l:List Fc) (f:Fc):List Fc:=l.flatMap (oL_ f)++p.flatMap (rs_ f)
def gI_ (p:List Pc) (l:List Fc) (f:Fc):List Fc:=if f.kind=1 then subS p l f else if f.kind=2 then ym_ p l f else uS_ p l f
def kD_ (p:List Pc) (A:List Str):List Fc:=A.flatMap fun a=>Y_ a a::Y_ a [42]::(p.filter fun x=>decide (x.kind=7)).map fun x=>ab_ a x.r a
theorem op_ (p:List Pc) (A:List Str):kD_ p A=fj_ (au_ p) A:=by
  unfold kD_ fj_ au_;simp[List.map_map,Function.comp_def]
section
variable {p:List Pc} {A:List Str} {l:List Fc} {f:Fc}
theorem pK_ (k:f∈l) (E:∀ y∈l,y.form):∀ y∈gI_ p l f,hF_ p A (·∈l) y:=by
 have C:=E f k;have hk:=iL_ C;intro y d;unfold gI_ at d
 split at d
 ·rename_i I
  have ef:=ni_ C I;rcases List.mem_append.1 d with d|d
  ·obtain⟨x,m,d⟩:=List.mem_flatMap.1 d
   split at d
   ·rename_i e
    simp at d;subst d
    exact .r3 m e.1 zao_
   split at d
   ·rename_i e
    simp at d;subst d
    rcases e.2 with h|h
    ·exact .r4 m e.1 (by rw[h.1,← ef];exact k) h.2
    exact .r4 m e.1 h.2 (by rw[h.1,← ef];exact k)
   split at d
   ·rename_i e
    simp at d;subst d
    exact .r5 m e.1 zao_
   split at d
   ·rename_i e
    simp at d;subst d
    exact .r11 m e.1 zao_
   simp at d
  obtain⟨g,v,d⟩:=List.mem_flatMap.1 d;unfold subB at d
  split at d
  ·simp at d
  rename_i e
  simp only[not_or,Decidable.not_not]at e;have B:=(jU_ (E g v) e.1).1;rcases List.mem_append.1 d with d|d
  ·split at d
   ·rename_i F
    simp at d;subst d
    exact .r9 (r:=g.r) (b:=g.b) (by rw[← B];exact v) (by rw[e.2,← F,← ef];exact k)
   simp at d
  obtain⟨x,m,d⟩:=List.mem_flatMap.1 d
  split at d
  ·rename_i q
   simp at d;subst d
   exact .r8 (b:=g.b) m q.1 (by rw[q.2.1,← B];exact v) (by rw[e.2,q.2.2,← ef];exact k)
  simp at d
 split at d
 ·rename_i H
  have ef:=(jU_ C H).1;rcases List.mem_append.1 d with d|d
  ·split at d
   ·rename_i F
    simp at d;subst d
    exact .r9 (r:=f.r) (b:=f.b) (by rw[← ef];exact k) F
   simp at d
  obtain⟨x,m,d⟩:=List.mem_flatMap.1 d;unfold oi_ at d
  split at d
  ·rename_i e
   simp at d;subst d
   exact .r6 m e.1 zao_
  split at d
  ·rename_i e
   simp at d;subst d
   exact .r8 (b:=f.b) m e.1 (by rw[e.2.1,← ef];exact k) e.2.2
  split at d
  ·rename_i e
   obtain⟨g,v,d⟩:=List.mem_flatMap.1 d;unfold sG_ at d
   split at d
   ·simp at d
   rename_i G
   have B:=(jU_ (E g v) (Decidable.not_not.1 G)).1;rcases List.mem_append.1 d with d|d
   ·split at d
    ·rename_i q
     simp at d;subst d
     exact .r7 (b:=f.b) m e (by rw[q.1,← ef];exact k) (by rw[← q.2.2,← q.2.1,← B];exact v)
    simp at d
   split at d
   ·rename_i q
    simp at d;subst d
    exact .r7 (b:=f.a) m e (by rw[← q.2.2,← q.2.1,← B];exact v) (by rw[q.1,← ef];exact k)
   simp at d
  simp at d
 rename_i I H
 have J:f.kind=3:=by omega
 have ef:=(hL_ C J).1;rcases List.mem_append.1 d with d|d
 ·obtain⟨g,v,d⟩:=List.mem_flatMap.1 d
  unfold oL_ at d
  split at d
  ·simp at d
  rename_i e
  simp only[not_or,Decidable.not_not]at e;have B:=(hL_ (E g v) e.1).1;rw[e.2.1,e.2.2]at B
  split at d
  ·rename_i hl
   simp at d;subst d
   exact .r12 (by rw[← ef];exact k) (by rw[← B];exact v) trivial hl
  rename_i hl
  simp at d;subst d
  exact .r13 (r:=f.r) (by rw[← ef];exact k) (by rw[← B];exact v) trivial (Int.not_le.1 hl)
 obtain⟨x,m,d⟩:=List.mem_flatMap.1 d;unfold rs_ at d
 split at d
 ·rename_i e
  simp at d;subst d
  exact .r14 m e.1 (by rw[e.2.1,← ef];exact k) e.2.2.1 e.2.2.2
 simp at d
theorem rk_:Cmpl p (·∈l) (fun _=>True) (·∈l) (·∈gI_ p l f) f:=by
 have k:∀ {a b y},f=Y_ a b→(y∈subS p l f)→y∈gI_ p l f:=fun e h=>by unfold gI_;rw[if_pos (by rw[e];rfl)];exact h
 have m:∀ {a r b y},f=ab_ a r b→(y∈ym_ p l f)→y∈gI_ p l f:=fun e h=>by unfold gI_;rw[if_neg (by rw[e];simp[ab_]),if_pos (by rw[e];rfl)];exact h
 have E:∀ {y},f.kind=3→(y∈uS_ p l f)→y∈gI_ p l f:=fun e h=>by unfold gI_;rw[if_neg (by rw[e];decide),if_neg (by rw[e];decide)];exact h
 refine⟨?_,?_,?_,?_,?_,?_,?_,?_,?_,?_,?_,?_,?_,?_,?_⟩
 ·intro z a d hk e
  refine k e (List.mem_append_left _ (List.mem_flatMap.2 ⟨z,d,?_⟩));rw[e,if_pos ⟨hk,rfl⟩];simp[Y_]
 ·intro z a d hk e h
  refine k e (List.mem_append_left _ (List.mem_flatMap.2 ⟨z,d,?_⟩));rw[e,if_neg zJ_,if_pos ⟨hk,.inl ⟨rfl,h⟩⟩];simp[Y_]
 ·intro z a d hk e h
  refine k e (List.mem_append_left _ (List.mem_flatMap.2 ⟨z,d,?_⟩));rw[e,if_neg zJ_,if_pos ⟨hk,.inr ⟨rfl,h⟩⟩];simp[Y_]
 ·intro z a d hk e
  refine k e (List.mem_append_left _ (List.mem_flatMap.2 ⟨z,d,?_⟩));rw[e,if_neg zJ_,if_neg zJ_,if_pos ⟨hk,rfl⟩];simp[Y_]
 ·intro z a b d hk e
  refine m e (List.mem_append_right _ (List.mem_flatMap.2 ⟨z,d,?_⟩));rw[e,oi_,if_pos ⟨hk,rfl⟩];simp[ab_]
 ·intro z a b c d hk e h
  refine m e (List.mem_append_right _ (List.mem_flatMap.2 ⟨z,d,?_⟩));rw[e,oi_,if_neg zJ_,if_neg zJ_,if_pos hk];refine List.mem_flatMap.2 ⟨_,h,?_⟩;rw[sG_,if_neg (by simp[ab_])];refine List.mem_append_left _ ?_;rw[if_pos ⟨rfl,rfl,rfl⟩];simp[ab_]
 ·intro z a b c d hk e h
  refine m e (List.mem_append_right _ (List.mem_flatMap.2 ⟨z,d,?_⟩));rw[e,oi_,if_neg zJ_,if_neg zJ_,if_pos hk];refine List.mem_flatMap.2 ⟨_,h,?_⟩;rw[sG_,if_neg (by simp[ab_])];refine List.mem_append_right _ ?_;rw[if_pos ⟨rfl,rfl,rfl⟩];simp[ab_]
 ·intro z a b d hk e h
  refine m e (List.mem_append_right _ (List.mem_flatMap.2 ⟨z,d,?_⟩));rw[e,oi_,if_neg zJ_,if_pos ⟨hk,rfl,h⟩];simp[ab_]
 ·intro z a b d hk e h
  refine k e (List.mem_append_right _ (List.mem_flatMap.2 ⟨_,h,?_⟩));rw[subB,if_neg (by rw[e];simp[ab_,Y_])];refine List.mem_append_right _ (List.mem_flatMap.2 ⟨z,d,?_⟩);rw[e,if_pos ⟨hk,rfl,rfl⟩];simp[ab_]
 ·intro a r b e h
  refine m e (List.mem_append_left _ ?_);rw[e,if_pos (show Y_ (ab_ a r b).b [33]∈l from h)];simp[ab_]
 ·intro a r b e h
  refine k e (List.mem_append_right _ (List.mem_flatMap.2 ⟨_,h,?_⟩));rw[subB,if_neg (by rw[e];simp[ab_,Y_])];refine List.mem_append_left _ ?_;rw[e,if_pos (show (Y_ b [33]).b=[33] from rfl)];simp[ab_]
 ·intro z a d hk e
  refine k e (List.mem_append_left _ (List.mem_flatMap.2 ⟨z,d,?_⟩));rw[e,if_neg zJ_,if_neg zJ_,if_neg zJ_,if_pos ⟨hk,rfl⟩];simp[Y_]
 ·intro y B v hk C q _ hl
  refine E B (List.mem_append_left _ (List.mem_flatMap.2 ⟨y,v,?_⟩));rw[oL_,if_neg (by simp[hk,C,q]),if_pos hl];simp
 ·intro y B v hk C q _ hl
  refine E B (List.mem_append_left _ (List.mem_flatMap.2 ⟨y,v,?_⟩));rw[oL_,if_neg (by simp[hk,C,q]),if_neg (Int.not_le.2 hl)];simp
 intro z a lo hi d hk e G F;refine E (by rw[e];rfl) (List.mem_append_right _ (List.mem_flatMap.2 ⟨z,d,?_⟩));rw[e,rs_,if_pos ⟨hk,rfl,G,F⟩];simp[am_]
theorem yq_ {α β:Type} {g:α→List β} {n:Nat}:∀ (l:List α),(∀ x∈l,(g x).length≤n)→(l.flatMap g).length≤l.length*n
  | [],_=>by simp
  | x::l,h=>by
    have:=yq_ l fun y d=>h y zL_
    have e:=h x zj_;simp only[List.flatMap_cons,List.length_append,List.length_cons,Nat.add_mul,Nat.one_mul];omega
theorem qm_ (h:∀ y∈l,y.form) (y:Fc):y∈kD_ p A++l.flatMap (fun f=>gI_ p l f)↔hF_ p A (·∈l) y:=by
 constructor
 ·intro d
  rcases List.mem_append.1 d with d|d
  ·rw[op_]at d;exact ly_ y d
  obtain⟨f,e,d⟩:=List.mem_flatMap.1 d;exact pK_ e h y d
 intro d;refine vW_ (c:=l) (good:=fun y=>y∈kD_ p A++l.flatMap (fun f=>gI_ p l f)) (fun y d=>List.mem_append_left _ (by rw[op_];exact d)) (fun f e=>?_) d;exact rk_.up fun y d=>List.mem_append_right _ (List.mem_flatMap.2 ⟨f,e,d⟩)
end
def grow1 (p:List Pc) (A:List Str) (l:List Fc):List Fc:=(kD_ p A++l.flatMap (fun f=>gI_ p l f)).foldl rM_ l
def nr_ (p:List Pc) (A:List Str):Nat→List Fc
  | 0=>[]
  | n+1=>grow1 p A (nr_ p A n)
theorem nf_:∀ (d l:List Fc) (y:Fc),y∈d.foldl rM_ l↔y∈l∨y∈d
 | [],l,y=>by simp
 | x::d,l,y=>by
   rw[List.foldl_cons,nf_ d,vE_];simp only[List.mem_cons];constructor
   · rintro ((h|h)|h)
     · exact .inl h
     · exact .inr (.inl h)
     · exact .inr (.inr h)
   · rintro (h|h|h)
     · exact .inl (.inl h)
     · exact .inl (.inr h)
     · exact .inr h
theorem ne_:∀ (d:List Fc) {l:List Fc},Srt l→Srt (d.foldl rM_ l)
  | [],_,h=>h
  | x::d,_,h=>ne_ d (vD_ x h)
theorem qR_ (p:List Pc) (A:List Str):∀ n,Srt (nr_ p A n)
  | 0=>List.Pairwise.nil
  | n+1=>ne_ _ (qR_ p A n)
theorem nq_ {p:List Pc} {A:List Str} (e:∀ x∈p,x.vok):∀ n,∀ y∈nr_ p A n,Der p A y
 | 0,y,hy=>by simp[nr_]at hy
 | n+1,y,hy=>by
   have d:=nq_ (A:=A) e n;rcases (nf_ _ _ y).1 hy with h|h
   · exact d y h
   · exact Der.step (((qm_ (fun z m=>(d z m).form e) y).1 h).mono (fun x k=>⟨x,k,x.frm,rfl⟩) (fun _ h=>h) d (fun _ _ h=>h))
theorem qS_ {p:List Pc} {A:List Str} (d:∀ x∈p,x.vok) (n m:Nat) (k:((kD_ p A++(nr_ p A n).flatMap (fun f=>gI_ p (nr_ p A n) f)).all fun y=>decide (y∈nr_ p A n))=true) (hl:(nr_ p A n).length≤m):gy_ p A m (some (nr_ p A n)):=by
  refine⟨qR_ p A n,fun y=>⟨nq_ d n y,fun h=>h.least fun z e=>?_⟩,hl⟩;exact of_decide_eq_true (List.all_eq_true.1 k z ((qm_ (fun w q=>(nq_ d n w q).form d) z).2 e))
end Go.Vs
