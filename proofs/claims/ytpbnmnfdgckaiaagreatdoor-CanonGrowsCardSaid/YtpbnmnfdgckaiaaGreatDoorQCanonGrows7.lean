/-
  Part of the proof of the law CanonGrows over this seat: the small logic, the data, the contracts of functions (no condition).
-/
import Derived.Test.YtpbnmnfdgckaiaaGreatDoorQCanonGrows6
import Derived.Test.YtpbnmnfdgckaiaaGreatDoorQCanonGrows2
set_option linter.unusedVariables false
set_option linter.unusedSimpArgs false
set_option linter.unusedSectionVars false
set_option maxHeartbeats 1000000
namespace Go.Vs
open Go Go.Sx
def ac_ (a b:Str):Fc:=⟨1,a,b,[],0,0⟩
def am_ (a r b:Str):Fc:=⟨2,a,b,r,0,0⟩
def ax_ (a r:Str) (lo hi:Int):Fc:=⟨3,a,[],r,lo,hi⟩
inductive One (p:List Pc) (A:List Str) (S:Fc→Prop) (M:Fc→Fc→Prop):Fc→Prop
  | r1 {a:Str} (h:a∈A):One p A S M (ac_ a a)
  | r2 {a:Str} (h:a∈A):One p A S M (ac_ a [42])
  | r10 {a:Str} {x:Pc} (hx:x∈p) (hk:x.kind=7) (h:a∈A):One p A S M (am_ a x.r a)
  | r3 {a:Str} {x:Pc} (hx:x∈p) (hk:x.kind=1) (h:S (ac_ a x.a)):One p A S M (ac_ a x.c)
  | r4 {a:Str} {x:Pc} (hx:x∈p) (hk:x.kind=2) (h:S (ac_ a x.a)) (h':S (ac_ a x.b)):One p A S M (ac_ a x.c)
  | r5 {a:Str} {x:Pc} (hx:x∈p) (hk:x.kind=3) (h:S (ac_ a x.a)):One p A S M (am_ a x.r x.c)
  | r6 {a b:Str} {x:Pc} (hx:x∈p) (hk:x.kind=5) (h:S (am_ a x.r b)):One p A S M (am_ a x.t b)
  | r7 {a b c:Str} {x:Pc} (hx:x∈p) (hk:x.kind=6) (h:S (am_ a x.r b)) (h':S (am_ b x.s c)):One p A S M (am_ a x.t c)
  | r8 {a b:Str} {x:Pc} (hx:x∈p) (hk:x.kind=4) (h:S (am_ a x.r b)) (h':S (ac_ b x.a)):One p A S M (ac_ a x.c)
  | r9 {a r b:Str} (h:S (am_ a r b)) (h':S (ac_ b [33])):One p A S M (ac_ a [33])
  | r11 {a:Str} {x:Pc} (hx:x∈p) (hk:x.kind=8) (h:S (ac_ a x.a)):One p A S M (ax_ a x.r x.lo x.hi)
  | r12 {a r:Str} {lo hi lo' hi':Int} (h:S (ax_ a r lo hi)) (h':S (ax_ a r lo' hi')) (hm:M (ax_ a r lo hi) (ax_ a r lo' hi')) (hl:max lo lo'≤min hi hi'):One p A S M (ax_ a r (max lo lo') (min hi hi'))
  | r13 {a r:Str} {lo hi lo' hi':Int} (h:S (ax_ a r lo hi)) (h':S (ax_ a r lo' hi')) (hm:M (ax_ a r lo hi) (ax_ a r lo' hi')) (hl:min hi hi'<max lo lo'):One p A S M (ac_ a [33])
  | r14 {a:Str} {lo hi:Int} {x:Pc} (hx:x∈p) (hk:x.kind=9) (h:S (ax_ a x.r lo hi)) (h1:x.lo≤lo) (h2:hi≤x.hi):One p A S M (ac_ a x.c)
abbrev ia_ (p:List Pc) (A:List Str) (S:Fc→Prop):Fc→Prop:=One p A S (fun _ _=>True)
theorem One.mono {p q:List Pc} {A C:List Str} {S v:Fc→Prop} {M B:Fc→Fc→Prop} (e:∀ x∈p,∃ y∈q,∃ n,{ y with frm:=n }=x) (k:∀ a∈A,a∈C) (hS:∀ y,S y→v y) (m:∀ x y,M x y→B x y) {y:Fc} (h:One p A S M y):One q C v B y:=by
  cases h with
  | r1 h=>exact .r1 (k _ h)
  | r2 h=>exact .r2 (k _ h)
  | r10 hx hk h=>obtain⟨z,d,n,rfl⟩:=e _ hx;exact One.r10 (x:=z) d hk (k _ h)
  | r3 hx hk h=>obtain⟨z,d,n,rfl⟩:=e _ hx;exact One.r3 (x:=z) d hk (hS _ h)
  | r4 hx hk h h'=>obtain⟨z,d,n,rfl⟩:=e _ hx;exact One.r4 (x:=z) d hk (hS _ h) (hS _ h')
  | r5 hx hk h=>obtain⟨z,d,n,rfl⟩:=e _ hx;exact One.r5 (x:=z) d hk (hS _ h)
  | r6 hx hk h=>obtain⟨z,d,n,rfl⟩:=e _ hx;exact One.r6 (x:=z) d hk (hS _ h)
  | r7 hx hk h h'=>obtain⟨z,d,n,rfl⟩:=e _ hx;exact One.r7 (x:=z) d hk (hS _ h) (hS _ h')
  | r8 hx hk h h'=>obtain⟨z,d,n,rfl⟩:=e _ hx;exact One.r8 (x:=z) d hk (hS _ h) (hS _ h')
  | r9 h h'=>exact .r9 (hS _ h) (hS _ h')
  | r11 hx hk h=>obtain⟨z,d,n,rfl⟩:=e _ hx;exact One.r11 (x:=z) d hk (hS _ h)
  | r12 h h' hm hl=>exact .r12 (hS _ h) (hS _ h') (m _ _ hm) hl
  | r13 h h' hm hl=>exact .r13 (hS _ h) (hS _ h') (m _ _ hm) hl
  | r14 hx hk h h1 h2=>obtain⟨z,d,n,rfl⟩:=e _ hx;exact One.r14 (x:=z) d hk (hS _ h) h1 h2
def Der (p:List Pc) (A:List Str) (y:Fc):Prop:=∀ T:Fc→Prop,(∀ y,ia_ p A T y→T y)→T y
theorem Der.step {p:List Pc} {A:List Str} {y:Fc} (h:ia_ p A (Der p A) y):Der p A y :=
  fun T d=>d y (h.mono (fun x k=>⟨x,k,x.frm,rfl⟩) (fun _ h=>h) (fun z e=>e T d) (fun _ _ h=>h))
theorem Der.mono {p d:List Pc} {A e:List Str} (k:∀ x∈p,∃ y∈d,∃ n,{ y with frm:=n }=x) (m:∀ a∈A,a∈e) {y:Fc} (h:Der p A y):Der d e y :=
  h _ fun _ q=>Der.step (q.mono k m (fun _ h=>h) (fun _ _ h=>h))
theorem Der.least {p:List Pc} {A:List Str} {T:Fc→Prop} (d:∀ y,ia_ p A T y→T y) {y:Fc} (h:Der p A y):T y:=h T d
structure Ky where
  kind:Int
  role:Str
  atom:Str
deriving DecidableEq
abbrev jY_:=Str×Str
def lat {K D:Type} [DecidableEq K] (l:List (K×D)) (k:K):List D:=(l.filter fun e=>decide (e.1=k)).map (·.2)
theorem bP_ {K D:Type} [DecidableEq K] {l:List (K×D)} {k:K} {d:D}:d∈lat l k↔(k,d)∈l:=by
  unfold lat;simp only[List.mem_map,List.mem_filter,decide_eq_true_eq];exact⟨fun⟨⟨a,b⟩,⟨e,m⟩,q⟩=>by subst m;subst q;exact e,fun h=>⟨(k,d),⟨h,rfl⟩,rfl⟩⟩
theorem nS_ {K D:Type} [DecidableEq K] (l m:List (K×D)) (k:K):lat (l++m) k=lat l k++lat m k:=by simp[lat]
theorem dO_ {K D:Type} [DecidableEq K] (l:List (K×D)) (k:K):(lat l k).length≤l.length:=by
  simp only[lat,List.length_map];exact List.length_filter_le _ _
def dr_ (x:Pc):List (Ky×Pc) :=
  if x.kind=1∨x.kind=3∨x.kind=8 then [(⟨x.kind,[],x.a⟩,x)]
  else if x.kind=2 then if x.b≠x.a then [(⟨x.kind,[],x.a⟩,x),(⟨x.kind,[],x.b⟩,x)] else [(⟨x.kind,[],x.a⟩,x)]
  else if x.kind=4 then [(⟨x.kind,[],x.a⟩,x),(⟨x.kind,x.r,x.a⟩,x)]
  else if x.kind=5∨x.kind=9 then [(⟨x.kind,x.r,[]⟩,x)]
  else if x.kind=6 then [(⟨x.kind,x.r,[]⟩,x),(⟨x.kind,[],x.s⟩,x)]
  else []
def Pc.zf (x:Pc):Pc:={ x with frm:=0 }
def uniq:List Pc→List Pc→List Pc
  | l,[]=>l
  | l,x::r=>uniq (if x.zf∈l then l else l++[x.zf]) r
theorem km_:∀ (r l:List Pc) (x:Pc),x∈uniq l r↔x∈l∨∃ y∈r,y.zf=x
 | [],l,x=>by simp[uniq]
 | y::r,l,x=>by
   rw[uniq,km_ r]
   by_cases h:y.zf∈l
   · rw[if_pos h]
     constructor
     · rintro (d|⟨z,d,e⟩)
       · exact .inl d
       · exact .inr ⟨z,by simp[d],e⟩
     · rintro (d|⟨z,d,e⟩)
       · exact .inl d
       · rcases List.mem_cons.1 d with rfl|d
         · exact .inl (e▸h)
         · exact .inr ⟨z,d,e⟩
   · rw[if_neg h]
     simp only[List.mem_append,List.mem_cons,List.not_mem_nil,or_false];constructor
     · rintro ((d|d)|⟨z,d,e⟩)
       · exact .inl d
       · exact .inr ⟨y,.inl rfl,d.symm⟩
       · exact .inr ⟨z,.inr d,e⟩
     · rintro (d|⟨z,d|d,e⟩)
       · exact .inl (.inl d)
       · subst d;exact .inl (.inr e.symm)
       · exact .inr ⟨z,d,e⟩
theorem kn_:∀ (r l:List Pc),(uniq l r).length≤l.length+r.length
  | [],l=>by simp[uniq]
  | y::r,l=>by
    rw[uniq];have:=kn_ r (if y.zf∈l then l else l++[y.zf]);have d:(if y.zf∈l then l else l++[y.zf]).length≤l.length+1:=by split<;>simp
    simp only[List.length_cons];omega
def aY_ (ps:List Pc):List (Ky×Pc):=ps.flatMap dr_
def aI_ (ps:List Pc):List Str:=(ps.filter fun x=>decide (x.kind=7)).map (·.r)
theorem vN_ (x:Pc):∀ e∈dr_ x,e.2=x∧e.1.kind=x.kind:=by
  unfold dr_
  repeat' split
  all_goals simp
theorem eo_ {x y:Pc} {k:Ky} (h:(k,y)∈dr_ x):y=x∧k.kind=x.kind:=vN_ x _ h
def Pc.rok (x:Pc):Prop:=(x.kind=4∨x.kind=5∨x.kind=6∨x.kind=9∨x.kind=3∨x.kind=7∨x.kind=8→x.r≠[])∧(x.kind=6→x.s≠[]∧x.t≠[])∧(x.kind=5→x.t≠[])
theorem gZ_ {ps:List Pc} {k:Ky} {x:Pc}:x∈lat (aY_ ps) k↔x∈ps∧(k,x)∈dr_ x:=by
 rw[bP_,aY_,List.mem_flatMap];constructor
 ·rintro ⟨y,d,h⟩
  obtain⟨rfl,_⟩:=eo_ h;exact⟨d,h⟩
 rintro ⟨e,m⟩;exact⟨x,e,m⟩
theorem pm1 {ps:List Pc} {b:Str} {x:Pc}:x∈lat (aY_ ps) ⟨1,[],b⟩↔x∈ps∧x.kind=1∧x.a=b:=by
 rw[gZ_];refine and_congr_right fun _=>⟨fun h=>?_,fun⟨h,d⟩=>?_⟩
 ·have hk:=(eo_ h).2
  simp only at hk;simp[dr_,← hk]at h
  exact⟨hk.symm,h.symm⟩
 subst d;simp[dr_,h]
theorem pm2 {ps:List Pc} {b:Str} {x:Pc}:x∈lat (aY_ ps) ⟨2,[],b⟩↔x∈ps∧x.kind=2∧(x.a=b∨x.b=b):=by
 rw[gZ_];refine and_congr_right fun _=>⟨fun h=>?_,fun⟨h,d⟩=>?_⟩
 ·have hk:=(eo_ h).2
  simp only at hk;simp[dr_,← hk]at h
  split at h
  ·simp at h;exact⟨hk.symm,.inl h.symm⟩
  simp at h;rcases h with h|h
  ·exact⟨hk.symm,.inl h.symm⟩
  exact⟨hk.symm,.inr h.symm⟩
 by_cases e:x.b=x.a
 ·have:x.a=b:=d.elim id (fun q=>e▸q)
  subst this;simp[dr_,h,e]
 rcases d with rfl|rfl<;>simp[dr_,h,e]
theorem pm3 {ps:List Pc} {b:Str} {x:Pc}:x∈lat (aY_ ps) ⟨3,[],b⟩↔x∈ps∧x.kind=3∧x.a=b:=by
 rw[gZ_];refine and_congr_right fun _=>⟨fun h=>?_,fun⟨h,d⟩=>?_⟩
 ·have hk:=(eo_ h).2
  simp only at hk;simp[dr_,← hk]at h
  exact⟨hk.symm,h.symm⟩
 subst d;simp[dr_,h]
theorem pm8 {ps:List Pc} {b:Str} {x:Pc}:x∈lat (aY_ ps) ⟨8,[],b⟩↔x∈ps∧x.kind=8∧x.a=b:=by
 rw[gZ_];refine and_congr_right fun _=>⟨fun h=>?_,fun⟨h,d⟩=>?_⟩
 ·have hk:=(eo_ h).2
  simp only at hk;simp[dr_,← hk]at h
  exact⟨hk.symm,h.symm⟩
 subst d;simp[dr_,h]
theorem pm5 {ps:List Pc} {r:Str} {x:Pc}:x∈lat (aY_ ps) ⟨5,r,[]⟩↔x∈ps∧x.kind=5∧x.r=r:=by
 rw[gZ_];refine and_congr_right fun _=>⟨fun h=>?_,fun⟨h,d⟩=>?_⟩
 ·have hk:=(eo_ h).2
  simp only at hk;simp[dr_,← hk]at h
  exact⟨hk.symm,h.symm⟩
 subst d;simp[dr_,h]
theorem pm9 {ps:List Pc} {r:Str} {x:Pc}:x∈lat (aY_ ps) ⟨9,r,[]⟩↔x∈ps∧x.kind=9∧x.r=r:=by
 rw[gZ_];refine and_congr_right fun _=>⟨fun h=>?_,fun⟨h,d⟩=>?_⟩
 ·have hk:=(eo_ h).2
  simp only at hk;simp[dr_,← hk]at h
  exact⟨hk.symm,h.symm⟩
 subst d;simp[dr_,h]
theorem pm6 {ps:List Pc} {r:Str} (e:r≠[]) {x:Pc}:x∈lat (aY_ ps) ⟨6,r,[]⟩↔x∈ps∧x.kind=6∧x.r=r:=by
 rw[gZ_];refine and_congr_right fun k=>⟨fun h=>?_,fun⟨h,d⟩=>?_⟩
 ·have hk:=(eo_ h).2
  simp only at hk;simp[dr_,← hk,e]at h
  exact⟨hk.symm,h.symm⟩
 subst d;simp[dr_,h]
theorem pm6' {ps:List Pc} {s:Str} {x:Pc} (e:s≠[]):x∈lat (aY_ ps) ⟨6,[],s⟩↔x∈ps∧x.kind=6∧x.s=s:=by
 rw[gZ_];refine and_congr_right fun k=>⟨fun h=>?_,fun⟨h,d⟩=>?_⟩
 ·have hk:=(eo_ h).2
  simp only at hk;simp[dr_,← hk,e]at h
  exact⟨hk.symm,h.symm⟩
 subst d;simp[dr_,h]
theorem pm4 {ps:List Pc} (e:∀ x∈ps,x.rok) {b:Str} {x:Pc}:x∈lat (aY_ ps) ⟨4,[],b⟩↔x∈ps∧x.kind=4∧x.a=b:=by
 rw[gZ_];refine and_congr_right fun k=>⟨fun h=>?_,fun⟨h,m⟩=>?_⟩
 ·have hk:=(eo_ h).2
  simp only at hk;have d:=(e x k).1 (.inl hk.symm);simp[dr_,← hk]at h
  refine⟨hk.symm,h.elim (fun q=>q.symm) (fun q=>absurd q.1 d)⟩
 subst m;simp[dr_,h]
theorem pm4' {ps:List Pc} {r b:Str} (k:r≠[]) {x:Pc}:x∈lat (aY_ ps) ⟨4,r,b⟩↔x∈ps∧x.kind=4∧x.r=r∧x.a=b:=by
 rw[gZ_];refine and_congr_right fun m=>⟨fun h=>?_,fun⟨h,e,d⟩=>?_⟩
 ·have hk:=(eo_ h).2
  simp only at hk;simp[dr_,← hk,k]at h
  exact⟨hk.symm,h.1.symm,h.2.symm⟩
 subst e d;simp[dr_,h]
structure Ix where
  above:List (Str×Str)
  under:List (Str×Str)
  frm:List (jY_×Str)
  into:List (jY_×Str)
  ranges:List (jY_×Fc)
  firms:List (jY_×Fc)
def Ix.nil:Ix:=⟨[],[],[],[],[],[]⟩
def Ix.add (x:Ix) (firm:Bool) (f:Fc):Ix :=
  if f.kind=1 then { x with above:=x.above++[(f.a,f.b)] }
  else if f.kind=2 then { x with under:=x.under++[(f.b,f.a)],frm:=x.frm++[((f.a,f.r),f.b)],into:=x.into++[((f.b,f.r),f.a)] }
  else if f.kind=3 then { x with ranges:=x.ranges++[((f.a,f.r),f)],firms:=if firm then x.firms++[((f.a,f.r),f)] else x.firms }
  else x
structure Ix.of (x:Ix) (S Fm:Fc→Prop):Prop where
  above:∀ a b,(a,b)∈x.above↔∃ f,S f∧f.kind=1∧f.a=a∧f.b=b
  under:∀ b a,(b,a)∈x.under↔∃ f,S f∧f.kind=2∧f.a=a∧f.b=b
  frm:∀ a r b,((a,r),b)∈x.frm↔∃ f,S f∧f.kind=2∧f.a=a∧f.r=r∧f.b=b
  into:∀ a r b,((b,r),a)∈x.into↔∃ f,S f∧f.kind=2∧f.a=a∧f.r=r∧f.b=b
  ranges:∀ a r f,((a,r),f)∈x.ranges↔S f∧f.kind=3∧f.a=a∧f.r=r
  firms:∀ a r f,((a,r),f)∈x.firms↔S f∧Fm f∧f.kind=3∧f.a=a∧f.r=r
theorem Ix.of_nil (Fm:Fc→Prop):Ix.nil.of (fun _=>False) Fm:=by
  constructor<;>simp[Ix.nil]
theorem Ix.of_add {x:Ix} {S Fm:Fc→Prop} (h:x.of S Fm) (f:Fc) {b:Bool} (v:b=true↔Fm f):(x.add b f).of (fun y=>S y∨y=f) Fm:=by
 have d:∀ (Q:Fc→Prop),(∃ y,(S y∨y=f)∧Q y)↔(∃ y,S y∧Q y)∨Q f:=fun Q=>by
   constructor
   · rintro ⟨y,m|rfl,k⟩
     · exact .inl ⟨y,m,k⟩
     · exact .inr k
   · rintro (⟨y,m,k⟩|k)
     · exact⟨y,.inl m,k⟩
     · exact⟨f,.inr rfl,k⟩
 unfold Ix.add
 split
 ·rename_i hk
  constructor
  ·intro a c;rw[d,← h.above];simp[hk];exact or_congr_right ⟨fun⟨p,q⟩=>⟨p.symm,q.symm⟩,fun⟨p,q⟩=>⟨p.symm,q.symm⟩⟩
  ·intro a c;rw[d,← h.under];simp[hk]
  ·intro a r c;rw[d,← h.frm];simp[hk]
  ·intro a r c;rw[d,← h.into];simp[hk]
  ·intro a r y;rw[h.ranges];constructor
   ·exact fun q=>⟨.inl q.1,q.2⟩
   rintro ⟨q|rfl,e⟩
   ·exact⟨q,e⟩
   rw[hk]at e;exact absurd e.1 zx_
  intro a r y;rw[h.firms];constructor
  ·exact fun q=>⟨.inl q.1,q.2⟩
  rintro ⟨q|rfl,e⟩
  ·exact⟨q,e⟩
  rw[hk]at e;exact absurd e.2.1 zx_
 split
 ·rename_i hk
  constructor
  ·intro a c;rw[d,← h.above];simp[hk]
  ·intro a c;rw[d,← h.under];simp[hk];exact or_congr_right ⟨fun⟨p,q⟩=>⟨q.symm,p.symm⟩,fun⟨p,q⟩=>⟨q.symm,p.symm⟩⟩
  ·intro a r c;rw[d,← h.frm];simp[hk];exact or_congr_right ⟨fun⟨⟨p,q⟩,s⟩=>⟨p.symm,q.symm,s.symm⟩,fun⟨p,q,s⟩=>⟨⟨p.symm,q.symm⟩,s.symm⟩⟩
  ·intro a r c;rw[d,← h.into];simp[hk];exact or_congr_right ⟨fun⟨⟨p,q⟩,s⟩=>⟨s.symm,q.symm,p.symm⟩,fun⟨p,q,s⟩=>⟨⟨s.symm,q.symm⟩,p.symm⟩⟩
  ·intro a r y;rw[h.ranges];constructor
   ·exact fun q=>⟨.inl q.1,q.2⟩
   rintro ⟨q|rfl,e⟩
   ·exact⟨q,e⟩
   rw[hk]at e;exact absurd e.1 zx_
  intro a r y;rw[h.firms];constructor
  ·exact fun q=>⟨.inl q.1,q.2⟩
  rintro ⟨q|rfl,e⟩
  ·exact⟨q,e⟩
  rw[hk]at e;exact absurd e.2.1 zx_
 split
 ·rename_i hk
  constructor
  ·intro a c;rw[d,← h.above];simp[hk]
  ·intro a c;rw[d,← h.under];simp[hk]
  ·intro a r c;rw[d,← h.frm];simp[hk]
  ·intro a r c;rw[d,← h.into];simp[hk]
  ·intro a r y
   simp only[List.mem_append,List.mem_singleton,h.ranges,Prod.mk.injEq];constructor
   ·rintro (⟨q,e⟩|⟨⟨rfl,rfl⟩,rfl⟩)
    ·exact⟨.inl q,e⟩
    exact⟨.inr rfl,hk,rfl,rfl⟩
   rintro ⟨q|rfl,e,rfl,rfl⟩
   ·exact .inl ⟨q,e,rfl,rfl⟩
   exact .inr ⟨⟨rfl,rfl⟩,rfl⟩
  intro a r y;cases b with
  | false =>
    simp only[Bool.false_eq_true,if_false,h.firms];constructor
    · exact fun q=>⟨.inl q.1,q.2⟩
    · rintro ⟨q|rfl,e⟩
      · exact⟨q,e⟩
      · exact absurd (v.2 e.1) zx_
  | true =>
    simp only[if_true,List.mem_append,List.mem_singleton,h.firms,Prod.mk.injEq];constructor
    · rintro (⟨q,e⟩|⟨⟨rfl,rfl⟩,rfl⟩)
      · exact⟨.inl q,e⟩
      · exact⟨.inr rfl,v.1 rfl,hk,rfl,rfl⟩
    · rintro ⟨q|rfl,e,C,rfl,rfl⟩
      · exact .inl ⟨q,e,C,rfl,rfl⟩
      · exact .inr ⟨⟨rfl,rfl⟩,rfl⟩
 rename_i m k B
 constructor
 ·intro a c;rw[d,← h.above];simp[m]
 ·intro a c;rw[d,← h.under];simp[k]
 ·intro a r c;rw[d,← h.frm];simp[k]
 ·intro a r c;rw[d,← h.into];simp[k]
 ·intro a r y;rw[h.ranges];constructor
  ·exact fun q=>⟨.inl q.1,q.2⟩
  rintro ⟨q|rfl,e⟩
  ·exact⟨q,e⟩
  exact absurd e.1 B
 intro a r y;rw[h.firms];constructor
 ·exact fun q=>⟨.inl q.1,q.2⟩
 rintro ⟨q|rfl,e⟩
 ·exact⟨q,e⟩
 exact absurd e.2.1 B
theorem Ix.of_firm {x:Ix} {S Fm d:Fc→Prop} (h:x.of S Fm) (k:∀ y,S y→(Fm y↔d y)):x.of S d :=
  ⟨h.above,h.under,h.frm,h.into,h.ranges,fun a r f=>by rw[h.firms];exact and_congr_right fun e=>by rw[k f e]⟩
section
variable (pm:List (Ky×Pc)) (x:Ix) (f:Fc)
def hp_:List Fc:=(lat pm ⟨1,[],f.b⟩).map fun y=>ac_ f.a y.c
def oM_:List Fc:=(lat pm ⟨3,[],f.b⟩).map fun y=>am_ f.a y.r y.c
def hm_:List Fc:=(lat pm ⟨5,f.r,[]⟩).map fun y=>am_ f.a y.t f.b
def gj_:List Fc:=(lat pm ⟨6,f.r,[]⟩).flatMap fun y=>(lat x.frm (f.b,y.s)).map fun c=>am_ f.a y.t c
def hY_:List Fc:=(lat pm ⟨6,[],f.r⟩).flatMap fun y=>(lat x.into (f.a,y.r)).map fun a=>am_ a y.t f.b
def gn_:List Fc:=(lat x.above f.b).flatMap fun c=>(lat pm ⟨4,f.r,c⟩).map fun y=>ac_ f.a y.c
def go_:List Fc:=(lat pm ⟨4,[],f.b⟩).flatMap fun y=>(lat x.into (f.a,y.r)).map fun a=>ac_ a y.c
def dL_:List Fc:=if f.b=[33] then (lat x.under f.a).map fun a=>ac_ a [33] else []
def uo_:List Fc:=((lat pm ⟨9,f.r,[]⟩).filter fun y=>decide (y.lo≤f.lo∧f.hi≤y.hi)).map fun y=>ac_ f.a y.c
def dT_ (y:Fc):Fc:=ax_ f.a f.r (max f.lo y.lo) (min f.hi y.hi)
def fo_ (y:Fc):Bool:=decide (min f.hi y.hi<max f.lo y.lo)
def eV_ (firm:Bool):List Fc:=if firm then lat x.ranges (f.a,f.r) else lat x.firms (f.a,f.r)
def gR_ (l:List Fc):List Fc:=(l.filter fun y=>!fo_ f y&&decide (dT_ f y≠f∧dT_ f y≠y)).map (dT_ f)
def id_ (l:List Fc):List Fc:=if l.any (fo_ f) then [ac_ f.a [33]] else []
end
section
variable (stp:Fc→List Fc→List Fc) (kof:List Fc→List Fc)
def emits (L:List Fc) (s:List Fc):List Fc:=L.foldl (fun s y=>stp y s) s
def eH_ (f:Fc) (l:List Pc) (s:List Fc):List Fc:=l.foldl (fun s y=>if ac_ f.a y.a∈kof s∧ac_ f.a y.b∈kof s then stp (ac_ f.a y.c) s else s) s
def cw_ (f:Fc) (l:List Pc) (s:List Fc×List Fc):List Fc×List Fc:=l.foldl (fun s y=>(stp (ax_ f.a y.r y.lo y.hi) s.1,if ax_ f.a y.r y.lo y.hi∈kof s.1 then s.2 else ax_ f.a y.r y.lo y.hi::s.2)) s
end
theorem aR_ (stp:Fc→List Fc→List Fc) (L M:List Fc) (s:List Fc):emits stp (L++M) s=emits stp M (emits stp L s):=by simp[emits]
structure Grows (stp:Fc→List Fc→List Fc) (kof:List Fc→List Fc):Prop where
  up:∀ y s z,z∈kof s→z∈kof (stp y s)
theorem Grows.emits {stp:Fc→List Fc→List Fc} {kof:List Fc→List Fc} (h:Grows stp kof):∀ (L s:List Fc) (z:Fc),z∈kof s→z∈kof (emits stp L s)
  | [],_,_,hz=>hz
  | y::L,s,z,hz=>h.emits L _ z (h.up y s z hz)
theorem fT_ {stp:Fc→List Fc→List Fc} {kof:List Fc→List Fc} (h:Grows stp kof) (f:Fc):∀ (l:List Pc) (s:List Fc),
    ∃ L,eH_ stp kof f l s=emits stp L s∧(∀ y∈L,∃ x∈l,y=ac_ f.a x.c∧ac_ f.a x.a∈kof (eH_ stp kof f l s)∧ac_ f.a x.b∈kof (eH_ stp kof f l s))∧(∀ x∈l,ac_ f.a x.a∈kof s→ac_ f.a x.b∈kof s→ac_ f.a x.c∈L)
  | [],s=>⟨[],rfl,by simp,by simp⟩
  | x::l,s=>by
    by_cases k:ac_ f.a x.a∈kof s∧ac_ f.a x.b∈kof s
    · obtain⟨L,v,E,F⟩:=fT_ h f l (stp (ac_ f.a x.c) s)
      have e:eH_ stp kof f (x::l) s=eH_ stp kof f l (stp (ac_ f.a x.c) s):=by simp only[eH_,List.foldl_cons,if_pos k]
      refine⟨ac_ f.a x.c::L,by rw[e,v];rfl,fun y m=>?_,fun z d C B=>?_⟩
      · rw[e]
        rcases List.mem_cons.1 m with rfl|m
        · refine⟨x,by simp,rfl,?_,?_⟩<;>rw[v]<;>exact h.emits L _ _ (h.up _ _ _ (by first|exact k.1|exact k.2))
        · obtain⟨z,d,q⟩:=E y m
          exact⟨z,by simp[d],q⟩
      · rcases List.mem_cons.1 d with rfl|d
        · simp
        · exact List.mem_cons_of_mem _ (F z d (h.up _ _ _ C) (h.up _ _ _ B))
    · obtain⟨L,v,E,F⟩:=fT_ h f l s
      have e:eH_ stp kof f (x::l) s=eH_ stp kof f l s:=by simp only[eH_,List.foldl_cons,if_neg k]
      refine⟨L,by rw[e,v],fun y m=>?_,fun z d C B=>?_⟩
      · rw[e]
        obtain⟨z,d,q⟩:=E y m;exact⟨z,by simp[d],q⟩
      · rcases List.mem_cons.1 d with rfl|d
        · exact absurd ⟨C,B⟩ k
        · exact F z d C B
theorem fw_ (stp:Fc→List Fc→List Fc) (kof:List Fc→List Fc) (f:Fc):∀ (l:List Pc) (s fm:List Fc),(cw_ stp kof f l (s,fm)).1=emits stp (l.map fun y=>ax_ f.a y.r y.lo y.hi) s
  | [],_,_=>rfl
  | x::l,s,fm=>by
    simp only[cw_,List.foldl_cons,List.map_cons,emits];exact fw_ stp kof f l _ _
theorem hB_ {stp:Fc→List Fc→List Fc} {kof:List Fc→List Fc} (h:Grows stp kof) (f:Fc):∀ (l:List Pc) (s fm:List Fc) (z:Fc),z∈(cw_ stp kof f l (s,fm)).2↔z∈fm∨(z ∉ kof s∧z∈(cw_ stp kof f l (s,fm)).2)
 | [],s,fm,z=>by simp[cw_]
 | x::l,s,fm,z=>by
   have m:=hB_ h f l (stp (ax_ f.a x.r x.lo x.hi) s) (if ax_ f.a x.r x.lo x.hi∈kof s then fm else ax_ f.a x.r x.lo x.hi::fm) z;have e:cw_ stp kof f (x::l) (s,fm)=cw_ stp kof f l (stp (ax_ f.a x.r x.lo x.hi) s,if ax_ f.a x.r x.lo x.hi∈kof s then fm else ax_ f.a x.r x.lo x.hi::fm):=rfl;rw[e];constructor
   · intro k
     rcases m.1 k with d|d
     · split at d
       · exact .inl d
       · rename_i v
         rcases List.mem_cons.1 d with rfl|d
         · exact .inr ⟨v,k⟩
         · exact .inl d
     · exact .inr ⟨fun q=>d.1 (h.up _ _ _ q),k⟩
   · rintro (d|d)
     · exact m.2 (.inl (by split<;>simp[d]))
     · exact d.2
theorem nc_ {stp:Fc→List Fc→List Fc} {kof:List Fc→List Fc} (f:Fc):∀ (l:List Pc) (s fm:List Fc) (z:Fc),z∈(cw_ stp kof f l (s,fm)).2→z∈fm∨∃ y∈l,z=ax_ f.a y.r y.lo y.hi
 | [],s,fm,z,hz=>.inl hz
 | x::l,s,fm,z,hz=>by
   have e:cw_ stp kof f (x::l) (s,fm)=cw_ stp kof f l (stp (ax_ f.a x.r x.lo x.hi) s,if ax_ f.a x.r x.lo x.hi∈kof s then fm else ax_ f.a x.r x.lo x.hi::fm):=rfl;rw[e]at hz;rcases nc_ f l _ _ z hz with d|⟨y,h,d⟩
   · split at d
     · exact .inl d
     · rcases List.mem_cons.1 d with rfl|d
       · exact .inr ⟨x,by simp,rfl⟩
       · exact .inl d
   · exact .inr ⟨y,by simp[h],d⟩
def Fc.form (y:Fc):Prop:=(∃ a b,y=ac_ a b)∨(∃ a r b,y=am_ a r b∧r≠[])∨(∃ a r lo hi,y=ax_ a r lo hi∧r≠[]∧-1099511627776≤lo∧lo≤hi∧hi≤1099511627776)
structure Pc.vok (x:Pc):Prop where
  rok:x.rok
  num:x.kind=8∨x.kind=9→-1099511627776≤x.lo∧x.lo≤x.hi∧x.hi≤1099511627776
theorem eW_ (a b:Str):(ac_ a b).form:=.inl ⟨a,b,rfl⟩
theorem ob_ {f:Fc} (h:f.form) (hk:f.kind=1):f=ac_ f.a f.b:=by
 rcases h with⟨a,b,rfl⟩|⟨a,r,b,rfl,_⟩|⟨a,r,lo,hi,rfl,_⟩
 ·rfl
 ·simp[am_]at hk
 simp[ax_]at hk
theorem kF_ {f:Fc} (h:f.form) (hk:f.kind=2):f=am_ f.a f.r f.b∧f.r≠[]:=by
 rcases h with⟨a,b,rfl⟩|⟨a,r,b,rfl,h⟩|⟨a,r,lo,hi,rfl,_⟩
 ·simp[ac_]at hk
 ·exact⟨rfl,h⟩
 simp[ax_]at hk
theorem ig_ {f:Fc} (h:f.form) (hk:f.kind=3):f=ax_ f.a f.r f.lo f.hi∧f.r≠[]∧-1099511627776≤f.lo∧f.lo≤f.hi∧f.hi≤1099511627776:=by
 rcases h with⟨a,b,rfl⟩|⟨a,r,b,rfl,_⟩|⟨a,r,lo,hi,rfl,h⟩
 ·simp[ac_]at hk
 ·simp[am_]at hk
 exact⟨rfl,h⟩
theorem jp_ {f:Fc} (h:f.form):f.kind=1∨f.kind=2∨f.kind=3:=by
  rcases h with⟨a,b,rfl⟩|⟨a,r,b,rfl,h⟩|⟨a,r,lo,hi,rfl,_⟩<;>simp[ac_,am_,ax_]
theorem One.form {p:List Pc} {A:List Str} {S:Fc→Prop} {M:Fc→Fc→Prop} (e:∀ x∈p,x.vok) (hS:∀ y,S y→y.form) {y:Fc} (h:One p A S M y):y.form:=by
  have k:∀ {a r b:Str},S (am_ a r b)→r≠[]:=fun h=>(kF_ (hS _ h) rfl).2
  have d:∀ {a r:Str} {lo hi:Int},S (ax_ a r lo hi)→r≠[]∧-1099511627776≤lo∧lo≤hi∧hi≤1099511627776:=fun h=>(ig_ (hS _ h) rfl).2
  cases h with
  | r1 _=>exact eW_ _ _
  | r2 _=>exact eW_ _ _
  | r10 hx hk _=>exact .inr (.inl ⟨_,_,_,rfl,(e _ hx).rok.1 zao_⟩)
  | r3 _ _ _=>exact eW_ _ _
  | r4 _ _ _ _=>exact eW_ _ _
  | r5 hx hk _=>exact .inr (.inl ⟨_,_,_,rfl,(e _ hx).rok.1 zao_⟩)
  | r6 hx hk _=>exact .inr (.inl ⟨_,_,_,rfl,(e _ hx).rok.2.2 hk⟩)
  | r7 hx hk _ _=>exact .inr (.inl ⟨_,_,_,rfl,((e _ hx).rok.2.1 hk).2⟩)
  | r8 _ _ _ _=>exact eW_ _ _
  | r9 _ _=>exact eW_ _ _
  | r11 hx hk _=>exact .inr (.inr ⟨_,_,_,_,rfl,(e _ hx).rok.1 zao_,(e _ hx).num (.inl hk)⟩)
  | r12 h h' _ hl=>exact .inr (.inr ⟨_,_,_,_,rfl,(d h).1,by have:=d h;omega,hl,by have:=d h;omega⟩)
  | r13 _ _ _ _=>exact eW_ _ _
  | r14 _ _ _ _ _=>exact eW_ _ _
section
variable {ps:List Pc} {A:List Str} {x:Ix} {S Fm:Fc→Prop} {f:Fc} {kn:List Fc}
theorem oA_ (hk:f.kind=1) (m:f.form) (d:f∈kn):∀ y∈hp_ (aY_ ps) f,ia_ ps A (·∈kn) y:=by
  intro y e;obtain⟨z,v,rfl⟩:=List.mem_map.1 e;obtain⟨h,k,q⟩:=pm1.1 v;exact .r3 h k zbe_
theorem sa_ (hk:f.kind=1) (m:f.form) (d:f∈kn):∀ y∈oM_ (aY_ ps) f,ia_ ps A (·∈kn) y:=by
  intro y e;obtain⟨z,v,rfl⟩:=List.mem_map.1 e;obtain⟨h,k,q⟩:=pm3.1 v;exact .r5 h k zbe_
theorem qv_ (hk:f.kind=1) (m:f.form) (d:f∈kn):∀ y∈(lat (aY_ ps) ⟨8,[],f.b⟩).map (fun y=>ax_ f.a y.r y.lo y.hi),ia_ ps A (·∈kn) y:=by
  intro y e;obtain⟨z,v,rfl⟩:=List.mem_map.1 e;obtain⟨h,k,q⟩:=pm8.1 v;exact .r11 h k zbe_
theorem oy_ (hk:f.kind=2) (m:f.form) (d:f∈kn):∀ y∈hm_ (aY_ ps) f,ia_ ps A (·∈kn) y:=by
  intro y e;obtain⟨z,v,rfl⟩:=List.mem_map.1 e;obtain⟨h,k,q⟩:=pm5.1 v;exact .r6 h k (by rw[q,← (kF_ m hk).1];exact d)
theorem mJ_ {hS:∀ y,S y→y.form} {a r b:Str} (h:∃ g,S g∧g.kind=2∧g.a=a∧g.r=r∧g.b=b):S (am_ a r b):=by
  obtain⟨g,d,e,rfl,rfl,rfl⟩:=h;rw[← (kF_ (hS g d) e).1];exact d
theorem ix_sub {hS:∀ y,S y→y.form} {a b:Str} (h:∃ g,S g∧g.kind=1∧g.a=a∧g.b=b):S (ac_ a b):=by
  obtain⟨g,d,e,rfl,rfl⟩:=h;rw[← ob_ (hS g d) e];exact d
theorem rJ_ (E:x.of S Fm) (hS:∀ y,S y→y.form) (h:∀ y,S y→y∈kn) (hk:f.kind=2) (G:f.form) (k:f∈kn):∀ y∈gj_ (aY_ ps) x f++hY_ (aY_ ps) x f,ia_ ps A (·∈kn) y:=by
 intro y d;obtain⟨e,F⟩:=kF_ G hk;rcases List.mem_append.1 d with d|d
 ·obtain⟨z,B,d⟩:=List.mem_flatMap.1 d
  obtain⟨c,v,rfl⟩:=List.mem_map.1 d;obtain⟨m,q,C⟩:=(pm6 F).1 B;exact .r7 m q (by rw[C,← e];exact k) (h _ (mJ_ (hS:=hS) ((E.frm _ _ _).1 (bP_.1 v))))
 obtain⟨z,B,d⟩:=List.mem_flatMap.1 d;obtain⟨c,v,rfl⟩:=List.mem_map.1 d;obtain⟨m,q,C⟩:=(pm6' F).1 B;exact .r7 m q (h _ (mJ_ (hS:=hS) ((E.into _ _ _).1 (bP_.1 v)))) (by rw[C,← e];exact k)
theorem og_ (C:x.of S Fm) (hS:∀ y,S y→y.form) (d:∀ y,S y→y∈kn) (hk:f.kind=2) (F:f.form) (k:f∈kn):∀ y∈gn_ (aY_ ps) x f,ia_ ps A (·∈kn) y:=by
  intro y h;obtain⟨e,E⟩:=kF_ F hk;obtain⟨c,v,h⟩:=List.mem_flatMap.1 h;obtain⟨z,B,rfl⟩:=List.mem_map.1 h;obtain⟨m,q,G,H⟩:=(pm4' E).1 B;exact .r8 (b:=f.b) m q (by rw[G,← e];exact k) (by rw[H];exact d _ (ix_sub (hS:=hS) ((C.above _ _).1 (bP_.1 v))))
theorem oh_ (B:∀ x∈ps,x.vok) (e:x.of S Fm) (hS:∀ y,S y→y.form) (d:∀ y,S y→y∈kn) (hk:f.kind=1) (E:f.form) (k:f∈kn):∀ y∈go_ (aY_ ps) x f,ia_ ps A (·∈kn) y:=by
  intro y h;obtain⟨z,C,h⟩:=List.mem_flatMap.1 h;obtain⟨c,v,rfl⟩:=List.mem_map.1 h;obtain⟨m,q,F⟩:=(pm4 (fun x e=>(B x e).rok)).1 C;exact .r8 (b:=f.a) m q (d _ (mJ_ (hS:=hS) ((e.into _ _ _).1 (bP_.1 v)))) (by rw[F,← ob_ E hk];exact k)
theorem mB_ (v:x.of S Fm) (hS:∀ y,S y→y.form) (e:∀ y,S y→y∈kn) (hk:f.kind=1) (B:f.form) (h:f∈kn):∀ y∈dL_ x f,ia_ ps A (·∈kn) y:=by
 intro y d;unfold dL_ at d
 split at d
 ·rename_i q
  obtain⟨a,E,rfl⟩:=List.mem_map.1 d;obtain⟨g,k,m,C,F⟩:=(v.under _ _).1 (bP_.1 E);exact .r9 (r:=g.r) (e _ (mJ_ (hS:=hS) ⟨g,k,m,C,rfl,F⟩)) (by rw[← q,← ob_ B hk];exact h)
 simp at d
theorem mA_ (hk:f.kind=2) (e:f.form) (d:f∈kn) (h:ac_ f.b [33]∈kn):ia_ ps A (·∈kn) (ac_ f.a [33]) :=
  .r9 (r:=f.r) (b:=f.b) (by rw[← (kF_ e hk).1];exact d) h
theorem un_ (hk:f.kind=3) (v:f.form) (e:f∈kn):∀ y∈uo_ (aY_ ps) f,ia_ ps A (·∈kn) y:=by
  intro y k;obtain⟨z,h,rfl⟩:=List.mem_map.1 k;obtain⟨h,d⟩:=List.mem_filter.1 h;obtain⟨m,q,B⟩:=pm9.1 h;have d:=of_decide_eq_true d;exact .r14 m q (by rw[B,← (ig_ v hk).1];exact e) d.1 d.2
theorem lk_ (e:x.of S Fm) {firm:Bool} {y:Fc} (d:y∈eV_ x f firm):S y∧y.kind=3∧y.a=f.a∧y.r=f.r:=by
 unfold eV_ at d
 split at d
 ·exact (e.ranges _ _ _).1 (bP_.1 d)
 have:=(e.firms _ _ _).1 (bP_.1 d);exact⟨this.1,this.2.2⟩
theorem ss_ (G:x.of S Fm) (hS:∀ y,S y→y.form) (k:∀ y,S y→y∈kn) (hk:f.kind=3) (H:f.form) (v:f∈kn) {firm:Bool}:∀ y∈gR_ f (eV_ x f firm)++id_ f (eV_ x f firm),ia_ ps A (·∈kn) y:=by
 intro y d;have e:=(ig_ H hk).1;rcases List.mem_append.1 d with d|d
 ·obtain⟨z,m,rfl⟩:=List.mem_map.1 d
  obtain⟨m,B⟩:=List.mem_filter.1 m;obtain⟨h,C,E,F⟩:=lk_ G m;simp only[fo_,Bool.and_eq_true,Bool.not_eq_true',decide_eq_false_iff_not,Int.not_lt]at B;have q:=(ig_ (hS z h) C).1;rw[E,F]at q;exact .r12 (by rw[← e];exact v) (by rw[← q];exact k z h) trivial B.1
 unfold id_ at d
 split at d
 ·rename_i I
  obtain⟨z,m,B⟩:=List.any_eq_true.1 I;obtain⟨h,C,E,F⟩:=lk_ G m;have q:=(ig_ (hS z h) C).1;rw[E,F]at q;simp only[List.mem_singleton]at d;subst d;exact .r13 (r:=f.r) (by rw[← e];exact v) (by rw[← q];exact k z h) trivial (by simpa [fo_] using B)
 simp at d
theorem rC_ {z:Pc} {a:Str} (d:z∈ps) (hk:z.kind=1):ac_ a z.c∈hp_ (aY_ ps) (ac_ a z.a) :=
  List.mem_map.2 ⟨z,pm1.2 ⟨d,hk,rfl⟩,rfl⟩
theorem vz_ {z:Pc} {a:Str} (d:z∈ps) (hk:z.kind=3):am_ a z.r z.c∈oM_ (aY_ ps) (ac_ a z.a) :=
  List.mem_map.2 ⟨z,pm3.2 ⟨d,hk,rfl⟩,rfl⟩
theorem tP_ {z:Pc} {a:Str} (d:z∈ps) (hk:z.kind=8):ax_ a z.r z.lo z.hi∈(lat (aY_ ps) ⟨8,[],(ac_ a z.a).b⟩).map (fun y=>ax_ (ac_ a z.a).a y.r y.lo y.hi) :=
  List.mem_map.2 ⟨z,pm8.2 ⟨d,hk,rfl⟩,rfl⟩
theorem rr_ {z:Pc} {a b:Str} (d:z∈ps) (hk:z.kind=5):am_ a z.t b∈hm_ (aY_ ps) (am_ a z.r b) :=
  List.mem_map.2 ⟨z,pm5.2 ⟨d,hk,rfl⟩,rfl⟩
theorem sN_ (k:x.of S Fm) (e:∀ x∈ps,x.vok) {z:Pc} {a b c:Str} (d:z∈ps) (hk:z.kind=6) (h:S (am_ b z.s c)):am_ a z.t c∈gj_ (aY_ ps) x (am_ a z.r b) :=
  List.mem_flatMap.2 ⟨z,(pm6 ((e z d).rok.1 zao_)).2 ⟨d,hk,rfl⟩,List.mem_map.2 ⟨c,bP_.2 ((k.frm _ _ _).2 ⟨_,h,rfl,rfl,rfl,rfl⟩),rfl⟩⟩
theorem sM_ (k:x.of S Fm) (e:∀ x∈ps,x.vok) {z:Pc} {a b c:Str} (d:z∈ps) (hk:z.kind=6) (h:S (am_ a z.r b)):am_ a z.t c∈hY_ (aY_ ps) x (am_ b z.s c) :=
  List.mem_flatMap.2 ⟨z,(pm6' ((e z d).rok.2.1 hk).1).2 ⟨d,hk,rfl⟩,List.mem_map.2 ⟨a,bP_.2 ((k.into _ _ _).2 ⟨_,h,rfl,rfl,rfl,rfl⟩),rfl⟩⟩
theorem pZ_ (k:x.of S Fm) (e:∀ x∈ps,x.vok) {z:Pc} {a b:Str} (d:z∈ps) (hk:z.kind=4) (h:S (ac_ b z.a)):ac_ a z.c∈gn_ (aY_ ps) x (am_ a z.r b) :=
  List.mem_flatMap.2 ⟨z.a,bP_.2 ((k.above _ _).2 ⟨_,h,rfl,rfl,rfl⟩),List.mem_map.2 ⟨z,(pm4' ((e z d).rok.1 zao_)).2 ⟨d,hk,rfl,rfl⟩,rfl⟩⟩
theorem qa_ (d:x.of S Fm) (k:∀ x∈ps,x.vok) {z:Pc} {a b:Str} (e:z∈ps) (hk:z.kind=4) (h:S (am_ a z.r b)):ac_ a z.c∈go_ (aY_ ps) x (ac_ b z.a) :=
  List.mem_flatMap.2 ⟨z,(pm4 (fun x d=>(k x d).rok)).2 ⟨e,hk,rfl⟩,List.mem_map.2 ⟨a,bP_.2 ((d.into _ _ _).2 ⟨_,h,rfl,rfl,rfl,rfl⟩),rfl⟩⟩
theorem oz_ (d:x.of S Fm) {a r b:Str} (h:S (am_ a r b)):ac_ a [33]∈dL_ x (ac_ b [33]):=by
  unfold dL_;rw[if_pos (show (ac_ b [33]).b=[33] from rfl)];exact List.mem_map.2 ⟨a,bP_.2 ((d.under _ _).2 ⟨_,h,rfl,rfl,rfl⟩),rfl⟩
theorem yc_ {z:Pc} {a:Str} {lo hi:Int} (h:z∈ps) (hk:z.kind=9) (d:z.lo≤lo) (e:hi≤z.hi):ac_ a z.c∈uo_ (aY_ ps) (ax_ a z.r lo hi) :=
  List.mem_map.2 ⟨z,List.mem_filter.2 ⟨pm9.2 ⟨h,hk,rfl⟩,decide_eq_true ⟨d,e⟩⟩,rfl⟩
theorem pc_ (m:x.of S Fm) {firm:Bool} (d:firm=true↔Fm f) {y:Fc} (e:S y) (hk:y.kind=3) (k:y.a=f.a) (h:y.r=f.r) (hm:Fm f∨Fm y):y∈eV_ x f firm:=by
  unfold eV_;cases firm with
  | true=>rw[if_pos rfl];exact bP_.2 ((m.ranges _ _ _).2 ⟨e,hk,k,h⟩)
  | false =>
    rw[if_neg zx_];refine bP_.2 ((m.firms _ _ _).2 ⟨e,hm.resolve_left (fun q=>?_),hk,k,h⟩);exact absurd (d.2 q) zx_
theorem rh_ {l:List Fc} {y:Fc} (d:y∈l) :
    (max f.lo y.lo≤min f.hi y.hi→dT_ f y∈gR_ f l∨dT_ f y=f∨dT_ f y=y)∧(min f.hi y.hi<max f.lo y.lo→ac_ f.a [33]∈id_ f l):=by
  refine⟨fun h=>?_,fun h=>?_⟩
  · by_cases e:dT_ f y=f
    · exact .inr (.inl e)
    · by_cases k:dT_ f y=y
      · exact .inr (.inr k)
      · refine .inl (List.mem_map.2 ⟨y,List.mem_filter.2 ⟨d,?_⟩,rfl⟩)
        simp only[fo_,Bool.and_eq_true,Bool.not_eq_true',decide_eq_false_iff_not,Int.not_lt,decide_eq_true_eq];exact⟨h,e,k⟩
  · unfold id_
    rw[if_pos (List.any_eq_true.2 ⟨y,d,by simpa [fo_] using h⟩)];simp
end
section
variable (stp:Fc→List Fc→List Fc) (kof:List Fc→List Fc) (pm:List (Ky×Pc)) (x:Ix) (f:Fc)
def rl (j:Nat) (s:List Fc×List Fc):List Fc×List Fc :=
  if f.kind=1 then
    (match j with
    | 0=>(emits stp (hp_ pm f) s.1,s.2)
    | 1=>(eH_ stp kof f (lat pm ⟨2,[],f.b⟩) s.1,s.2)
    | 2=>(emits stp (oM_ pm f) s.1,s.2)
    | 3=>(emits stp (go_ pm x f) s.1,s.2)
    | 4=>(emits stp (dL_ x f) s.1,s.2)
    | _=>cw_ stp kof f (lat pm ⟨8,[],f.b⟩) s)
  else if f.kind=2 then
    (match j with
    | 0=>(emits stp (hm_ pm f) s.1,s.2)
    | 1=>(emits stp (gj_ pm x f++hY_ pm x f) s.1,s.2)
    | 2=>(emits stp (gn_ pm x f) s.1,s.2)
    | _=>(if ac_ f.b [33]∈kof s.1 then stp (ac_ f.a [33]) s.1 else s.1,s.2))
  else
    (match j with
    | 0=>(emits stp (gR_ f (eV_ x f (decide (f∈s.2)))++id_ f (eV_ x f (decide (f∈s.2)))) s.1,s.2)
    | _=>(emits stp (uo_ pm f) s.1,s.2))
def rls:Nat→List Fc×List Fc→List Fc×List Fc
  | 0,s=>s
  | j+1,s=>rl stp kof pm x f j (rls j s)
def nrl:Nat:=if f.kind=1 then 6 else if f.kind=2 then 4 else 2
end
structure Cmpl (ps:List Pc) (S Fm kn good:Fc→Prop) (f:Fc):Prop where
  c3:∀ z a,z∈ps→z.kind=1→f=ac_ a z.a→good (ac_ a z.c)
  c4:∀ z a,z∈ps→z.kind=2→f=ac_ a z.a→kn (ac_ a z.b)→good (ac_ a z.c)
  c4':∀ z a,z∈ps→z.kind=2→f=ac_ a z.b→kn (ac_ a z.a)→good (ac_ a z.c)
  c5:∀ z a,z∈ps→z.kind=3→f=ac_ a z.a→good (am_ a z.r z.c)
  c6:∀ z a b,z∈ps→z.kind=5→f=am_ a z.r b→good (am_ a z.t b)
  c7:∀ z a b c,z∈ps→z.kind=6→f=am_ a z.r b→S (am_ b z.s c)→good (am_ a z.t c)
  c7':∀ z a b c,z∈ps→z.kind=6→f=am_ b z.s c→S (am_ a z.r b)→good (am_ a z.t c)
  c8:∀ z a b,z∈ps→z.kind=4→f=am_ a z.r b→S (ac_ b z.a)→good (ac_ a z.c)
  c8':∀ z a b,z∈ps→z.kind=4→f=ac_ b z.a→S (am_ a z.r b)→good (ac_ a z.c)
  c9:∀ a r b,f=am_ a r b→kn (ac_ b [33])→good (ac_ a [33])
  c9':∀ a r b,f=ac_ b [33]→S (am_ a r b)→good (ac_ a [33])
  c11:∀ z a,z∈ps→z.kind=8→f=ac_ a z.a→good (ax_ a z.r z.lo z.hi)
  c12:∀ y,f.kind=3→S y→y.kind=3→y.a=f.a→y.r=f.r→(Fm f∨Fm y)→max f.lo y.lo≤min f.hi y.hi→good (dT_ f y)
  c13:∀ y,f.kind=3→S y→y.kind=3→y.a=f.a→y.r=f.r→(Fm f∨Fm y)→min f.hi y.hi<max f.lo y.lo→good (ac_ f.a [33])
  c14:∀ z a lo hi,z∈ps→z.kind=9→f=ax_ a z.r lo hi→z.lo≤lo→hi≤z.hi→good (ac_ a z.c)
section
variable {stp:Fc→List Fc→List Fc} {kof:List Fc→List Fc} {ps:List Pc} {A:List Str} {x:Ix} {S Fm:Fc→Prop} {f:Fc}
theorem qL_ (d:Grows stp kof) (j:Nat) (s:List Fc×List Fc):∃ L,(rl stp kof (aY_ ps) x f j s).1=emits stp L s.1:=by
 unfold rl
 split
 ·split
  ·exact⟨_,rfl⟩
  ·obtain⟨L,h,_⟩:=fT_ d f (lat (aY_ ps) ⟨2,[],f.b⟩) s.1
   exact⟨L,h⟩
  ·exact⟨_,rfl⟩
  ·exact⟨_,rfl⟩
  ·exact⟨_,rfl⟩
  exact⟨_,fw_ stp kof f _ s.1 s.2⟩
 split
 ·split
  ·exact⟨_,rfl⟩
  ·exact⟨_,rfl⟩
  ·exact⟨_,rfl⟩
  simp only
  split
  ·exact⟨[ac_ f.a [33]],rfl⟩
  exact⟨[],rfl⟩
 split
 ·exact⟨_,rfl⟩
 exact⟨_,rfl⟩
theorem lf_ (d:Grows stp kof) (j:Nat) (s:List Fc×List Fc):∃ L,(rls stp kof (aY_ ps) x f j s).1=emits stp L s.1:=by
  induction j with
  | zero=>exact⟨[],rfl⟩
  | succ j ih =>
    obtain⟨L,h⟩:=ih;obtain⟨M,e⟩:=qL_ (ps:=ps) (x:=x) (f:=f) d j (rls stp kof (aY_ ps) x f j s);exact⟨L++M,by rw[rls,e,h,aR_]⟩
theorem le_ (d:Grows stp kof) (j:Nat) (s:List Fc×List Fc) (z:Fc) (e:z∈kof s.1):z∈kof (rls stp kof (aY_ ps) x f j s).1:=by
  obtain⟨L,h⟩:=lf_ (ps:=ps) (x:=x) (f:=f) d j s;rw[h];exact d.emits L _ z e
theorem qK_ (j:Nat) (s:List Fc×List Fc) (h:f.kind=1→j≤5):(rls stp kof (aY_ ps) x f j s).2=s.2:=by
 induction j with
 | zero=>rfl
 | succ j ih =>
   rw[← ih (fun hk=>by have:=h hk;omega),rls,rl.eq_def]
   split
   · rename_i hk
     have:=h hk
     match j,this with
     | 0,_=>rfl
     | 1,_=>rfl
     | 2,_=>rfl
     | 3,_=>rfl
     | 4,_=>rfl
   · split
     · split<;>rfl
     · split<;>rfl
theorem vG_ (P:Grows stp kof) (R:∀ x∈ps,x.vok) (F:x.of S Fm) (s:List Fc×List Fc) (T:∀ y,S y→(Fm y↔y∈s.2)) (Q:S f) (J:∀ y,S y→y∈kof s.1) (good:Fc→Prop) (hS:∀ y,S y→good y)
    (H:∀ j,j<nrl f→∀ L,(rls stp kof (aY_ ps) x f (j+1) s).1=emits stp L (rls stp kof (aY_ ps) x f j s).1→∀ y∈L,good y) :
    Cmpl ps S Fm (·∈kof s.1) good f:=by
  have K:∀ k j,f.kind=k→j<nrl f→∀ L,(rl stp kof (aY_ ps) x f j (rls stp kof (aY_ ps) x f j s)).1=emits stp L (rls stp kof (aY_ ps) x f j s).1→∀ y∈L,good y:=fun k j _ Z L hL=>H j Z L (by rw[rls];exact hL)
  have I:f.kind=1→nrl f=6:=fun h=>by simp[nrl,h]
  have M:f.kind=2→nrl f=4:=fun h=>by simp[nrl,h]
  have Y:f.kind=3→nrl f=2:=fun h=>by simp[nrl,h]
  have k1:∀ {a b},f=ac_ a b→f.kind=1:=fun e=>by rw[e];rfl
  have k2:∀ {a r b},f=am_ a r b→f.kind=2:=fun e=>by rw[e];rfl
  have k3:∀ {a r lo hi},f=ax_ a r lo hi→f.kind=3:=fun e=>by rw[e];rfl
  have C:∀ z a,z∈ps→z.kind=2→f.kind=1→f.a=a→(z.a=f.b∨z.b=f.b)→ac_ a z.a∈kof s.1→ac_ a z.b∈kof s.1→good (ac_ a z.c):=by
    intro z a m hk d N hb U W;subst N;obtain⟨L,V,e2,e3⟩:=fT_ P f (lat (aY_ ps) ⟨2,[],f.b⟩) (rls stp kof (aY_ ps) x f 1 s).1;exact K 1 1 d zaI_ L (by rw[rl.eq_def,if_pos d];exact V) _ (e3 z (pm2.2 ⟨m,hk,hb⟩) (le_ P 1 s _ U) (le_ P 1 s _ W))
  have X:f.kind=3→(∀ y∈gR_ f (eV_ x f (decide (f∈s.2)))++id_ f (eV_ x f (decide (f∈s.2))),good y):=fun E =>
    K 3 0 E (by rw[Y E];decide) _ (by rw[rl.eq_def,if_neg (by rw[E];decide),if_neg (by rw[E];decide)];rfl)
  have B:decide (f∈s.2)=true↔Fm f:=by rw[decide_eq_true_eq];exact (T f Q).symm
  refine⟨?_,?_,?_,?_,?_,?_,?_,?_,?_,?_,?_,?_,?_,?_,?_⟩
  · intro z a m hk e
    have d:=k1 e;exact K 1 0 d zaI_ (hp_ (aY_ ps) f) zaB_ _ (by rw[e];exact rC_ m hk)
  · intro z a m hk e h
    have d:=k1 e;exact C z a m hk d (by rw[e];rfl) (by rw[e];exact .inl rfl) (by rw[← e];exact J f Q) h
  · intro z a m hk e h
    have d:=k1 e;exact C z a m hk d (by rw[e];rfl) (by rw[e];exact .inr rfl) h (by rw[← e];exact J f Q)
  · intro z a m hk e
    have d:=k1 e;exact K 1 2 d zaI_ (oM_ (aY_ ps) f) zaB_ _ (by rw[e];exact vz_ m hk)
  · intro z a b m hk e
    have d:=k2 e;exact K 2 0 d zaR_ (hm_ (aY_ ps) f) zY_ _ (by rw[e];exact rr_ m hk)
  · intro z a b c m hk e h
    have d:=k2 e;exact K 2 1 d zaR_ (gj_ (aY_ ps) x f++hY_ (aY_ ps) x f) zY_ _ (List.mem_append_left _ (by rw[e];exact sN_ F R m hk h))
  · intro z a b c m hk e h
    have d:=k2 e;exact K 2 1 d zaR_ (gj_ (aY_ ps) x f++hY_ (aY_ ps) x f) zY_ _ (List.mem_append_right _ (by rw[e];exact sM_ F R m hk h))
  · intro z a b m hk e h
    have d:=k2 e;exact K 2 2 d zaR_ (gn_ (aY_ ps) x f) zY_ _ (by rw[e];exact pZ_ F R m hk h)
  · intro z a b m hk e h
    have d:=k1 e;exact K 1 3 d zaI_ (go_ (aY_ ps) x f) zaB_ _ (by rw[e];exact qa_ F R m hk h)
  · intro a r b e h
    have d:=k2 e;have V:ac_ f.b [33]∈kof (rls stp kof (aY_ ps) x f 3 s).1:=le_ P 3 s _ (by rw[e];exact h);exact K 2 3 d zaR_ [ac_ f.a [33]] (by rw[rl.eq_def,if_neg (by rw[d];decide),if_pos d];simp only[if_pos V];rfl) _ (by rw[e];simp[am_])
  · intro a r b e h
    have d:=k1 e;exact K 1 4 d zaI_ (dL_ x f) zaB_ _ (by rw[e];exact oz_ F h)
  · intro z a m hk e
    have d:=k1 e;exact K 1 5 d zaI_ ((lat (aY_ ps) ⟨8,[],f.b⟩).map fun y=>ax_ f.a y.r y.lo y.hi) (by rw[rl.eq_def,if_pos d];exact fw_ stp kof f _ _ _) _ (by rw[e];exact tP_ m hk)
  · intro y E O hk N G hm hl
    have v:=pc_ F B O hk N G hm;rcases (rh_ (f:=f) v).1 hl with q|q|q
    · exact X E _ (List.mem_append_left _ q)
    · rw[q];exact hS f Q
    · rw[q];exact hS y O
  · intro y E O hk N G hm hl
    have v:=pc_ F B O hk N G hm;exact X E _ (List.mem_append_right _ ((rh_ (f:=f) v).2 hl))
  · intro z a lo hi m hk e U W
    have d:=k3 e;exact K 3 1 d (by rw[Y d];decide) (uo_ (aY_ ps) f) (by rw[rl.eq_def,if_neg (by rw[d];decide),if_neg (by rw[d];decide)]<;>rfl) _ (by rw[e];exact yc_ m hk U W)
end
end Go.Vs
namespace Go.Vs
open Go Go.Sx
def bD_ (m:Nat) (y:Fc) (q:List Fc):List Fc:=if q.length≤m∧y ∉ q then q++[y] else q
abbrev idk:List Fc→List Fc:=fun q=>q
theorem qA_ (m:Nat) (y:Fc) (q:List Fc):∃ t,bD_ m y q=q++t:=by
 unfold bD_;split
 ·exact⟨[y],rfl⟩
 exact⟨[],by simp⟩
theorem kK_ (m:Nat):∀ (L q:List Fc),∃ t,emits (bD_ m) L q=q++t
  | [],q=>⟨[],by simp[emits]⟩
  | y::L,q=>by
    obtain⟨t,h⟩:=qA_ m y q;obtain⟨u,d⟩:=kK_ m L (bD_ m y q);exact⟨t++u,by rw[← List.append_assoc,← h,← d];rfl⟩
theorem ga_ (m:Nat):Grows (bD_ m) idk:=⟨fun y s z d=>by obtain⟨t,h⟩:=qA_ m y s;rw[h];exact List.mem_append_left _ d⟩
theorem gT_ (m:Nat):∀ (L q:List Fc) (z:Fc),z∈emits (bD_ m) L q→z∈q∨z∈L
 | [],q,z,h=>.inl h
 | y::L,q,z,h=>by
   rcases gT_ m L (bD_ m y q) z h with h|h
   · unfold bD_ at h
     split at h
     · rcases List.mem_append.1 h with h|h
       · exact .inl h
       · exact .inr (by simp at h;simp[h])
     · exact .inl h
   · exact .inr (List.mem_cons_of_mem _ h)
theorem jq_ (m:Nat):∀ (L q:List Fc),q.Nodup→(emits (bD_ m) L q).Nodup
 | [],q,h=>h
 | y::L,q,h=>by
   refine jq_ m L (bD_ m y q) ?_;unfold bD_
   split
   · rename_i k
     rw[List.nodup_append];exact⟨h,by simp,fun a v b d e=>by simp at d;subst d;subst e;exact k.2 v⟩
   · exact h
theorem qc_ (m:Nat):∀ (L q:List Fc),q.length≤m+1→(emits (bD_ m) L q).length≤m+1
 | [],q,h=>h
 | y::L,q,h=>by
   refine qc_ m L (bD_ m y q) ?_;unfold bD_
   split
   · rename_i d;simp;exact d.1
   · exact h
theorem jr_ (m:Nat):∀ (L q:List Fc),(emits (bD_ m) L q).length≤m→∀ y∈L,y∈emits (bD_ m) L q
 | [],q,_,y,d=>by simp at d
 | x::L,q,h,y,d=>by
   have e:emits (bD_ m) (x::L) q=emits (bD_ m) L (bD_ m x q):=rfl;rw[e]at h ⊢;rcases List.mem_cons.1 d with rfl|d
   · obtain⟨t,v⟩:=kK_ m L (bD_ m y q)
     rw[v]at h ⊢;refine List.mem_append_left _ ?_;have hl:(bD_ m y q).length≤m:=by rw[List.length_append]at h;omega
     unfold bD_ at hl ⊢
     split
     · simp
     · rename_i k
       rw[if_neg k]at hl;exact Classical.byContradiction fun B=>k ⟨hl,B⟩
   · exact jr_ m L _ h y d
theorem ms_ {ps:List Pc} {A:List Str} {m:Nat} {f:Fc}:∀ (l:List Pc) (s:List Fc),(∀ z∈l,z∈ps∧z.kind=2)→(∀ y∈s,Der ps A y)→∀ y∈eH_ (bD_ m) idk f l s,Der ps A y
 | [],s,_,hs,y,d=>hs y d
 | z::l,s,hl,hs,y,d=>by
   have e:=hl z zC_;simp only[eH_,List.foldl_cons]at d;refine ms_ l _ (fun z e=>hl z (by simp[e])) (fun y d=>?_) y d
   split at d
   · rename_i k
     have:=gT_ m [ac_ f.a z.c] s y d;rcases this with h|h
     · exact hs y h
     · simp at h;subst h
       exact Der.step (.r4 e.1 e.2 (hs _ k.1) (hs _ k.2))
   · exact hs y d
section
variable {ps:List Pc} {A:List Str} {m:Nat} {x:Ix} {S Fm:Fc→Prop} {f:Fc}
theorem uc_ (J:∀ x∈ps,x.vok) (v:x.of S Fm) (hS:∀ y,S y→y.form) (hk:f.kind=1∨f.kind=2∨f.kind=3) (k:f.form) (j:Nat) (s:List Fc×List Fc) (e:∀ y,S y→y∈s.1) (d:f∈s.1) (F:∀ y∈s.1,Der ps A y) :
    ∀ y∈(rl (bD_ m) idk (aY_ ps) x f j s).1,Der ps A y:=by
  have E:∀ L,(∀ y∈L,ia_ ps A (·∈s.1) y)→∀ y∈emits (bD_ m) L s.1,Der ps A y:=fun L M y G=>by
    rcases gT_ m L s.1 y G with h|h
    · exact F y h
    · exact Der.step ((M y h).mono (fun x v=>⟨x,v,x.frm,rfl⟩) (fun _ h=>h) F (fun _ _ h=>h))
  unfold rl
  split
  · rename_i B
    split
    · exact E _ (oA_ B k d)
    · exact ms_ _ s.1 (fun z K=>by have:=pm2.1 K;exact⟨this.1,this.2.1⟩) F
    · exact E _ (sa_ B k d)
    · exact E _ (oh_ J v hS e B k d)
    · exact E _ (mB_ v hS e B k d)
    · rw[fw_];exact E _ (qv_ B k d)
  · split
    · rename_i C
      split
      · exact E _ (oy_ C k d)
      · exact E _ (rJ_ v hS e C k d)
      · exact E _ (og_ v hS e C k d)
      · simp only
        split
        · rename_i I
          exact E [ac_ f.a [33]] (fun y G=>by simp at G;subst G;exact mA_ C k d I)
        · exact F
    · rename_i B C
      have H:f.kind=3:=by omega
      split
      · exact E _ (ss_ v hS e H k d)
      · exact E _ (un_ H k d)
theorem nu_ (B:∀ x∈ps,x.vok) (C:x.of S Fm) (hS:∀ y,S y→y.form) (h:f.form) (s:List Fc×List Fc) (d:∀ y,S y→y∈s.1) (e:f∈s.1) (v:∀ y∈s.1,Der ps A y) (j:Nat) :
    ∀ y∈(rls (bD_ m) idk (aY_ ps) x f j s).1,Der ps A y:=by
  induction j with
  | zero=>exact v
  | succ j ih=>exact uc_ B C hS (jp_ h) h j _ (fun y k=>le_ (ga_ m) j s y (d y k)) (le_ (ga_ m) j s f e) ih
end
inductive Fmd (fm:List Fc):Fc→Prop
  | base {y:Fc} (h:y∈fm):Fmd fm y
  | meet {y z:Fc} (hy:Fmd fm y) (hz:Fmd fm z) (ha:z.a=y.a) (hr:z.r=y.r) (hl:max y.lo z.lo≤min y.hi z.hi):Fmd fm (dT_ y z)
theorem Fmd.mono {fm d:List Fc} (h:∀ y∈fm,y∈d) {y:Fc} (e:Fmd fm y):Fmd d y:=by
  induction e with
  | base h1=>exact .base (h _ h1)
  | meet _ _ ha hr hl ih1 ih2=>exact .meet ih1 ih2 ha hr hl
structure InvA (ps:List Pc) (A:List Str) (m n:Nat) (q fm:List Fc) (x:Ix):Prop where
  nd:q.Nodup
  len:q.length≤m
  le:n≤q.length
  der:∀ y∈q,Der ps A y
  form:∀ y∈q,y.form
  ix:x.of (·∈q.take n) (·∈fm)
  fmq:∀ y∈fm,y∈q∧y.kind=3
  firm:∀ y∈q,y.kind=3→Fmd fm y
  st:∀ a∈A,ac_ a a∈q∧ac_ a [42]∈q∧∀ z∈ps,z.kind=7→am_ a z.r a∈q
  cl:∀ y,One ps A (·∈q.take n) (fun y z=>y∈fm∨z∈fm) y→y∈q
theorem Der.form {p:List Pc} {A:List Str} (d:∀ x∈p,x.vok) {y:Fc} (h:Der p A y):y.form:=h _ fun _ e=>One.form d (fun _ h=>h) e
theorem me_ {stp:Fc→List Fc→List Fc} {kof:List Fc→List Fc} (hk:∀ i s z,z∈kof (stp i s)→z∈kof s∨z=i) (h:Grows stp kof) (f:Fc):∀ (l:List Pc) (s fm:List Fc),∀ y∈l,ax_ f.a y.r y.lo y.hi∈kof s∨ax_ f.a y.r y.lo y.hi∈(cw_ stp kof f l (s,fm)).2
 | [],s,fm,y,d=>by simp at d
 | x::l,s,fm,y,d=>by
   have e:cw_ stp kof f (x::l) (s,fm)=cw_ stp kof f l (stp (ax_ f.a x.r x.lo x.hi) s,if ax_ f.a x.r x.lo x.hi∈kof s then fm else ax_ f.a x.r x.lo x.hi::fm):=rfl;rw[e]
   by_cases v:ax_ f.a y.r y.lo y.hi=ax_ f.a x.r x.lo x.hi
   · rw[v]
     by_cases B:ax_ f.a x.r x.lo x.hi∈kof s
     · exact .inl B
     · refine .inr ((hB_ h f l _ _ _).2 (.inl ?_))
       rw[if_neg B];simp
   · rcases List.mem_cons.1 d with rfl|d
     · exact absurd rfl v
     · rcases me_ hk h f l (stp (ax_ f.a x.r x.lo x.hi) s) (if ax_ f.a x.r x.lo x.hi∈kof s then fm else ax_ f.a x.r x.lo x.hi::fm) y d with k|k
       · exact (hk _ _ _ k).imp id fun q=>absurd q v
       · exact .inr k
theorem vl_ {q:List Fc} {n:Nat} {f z:Fc} (d:q[n]? = some f):z∈q.take (n+1)↔z∈q.take n∨z=f:=by
  rw[List.take_add_one,d];simp
theorem yH_ {ps:List Pc} {A:List Str} {S Fm B good:Fc→Prop} {f:Fc} (k:Cmpl ps (fun y=>S y∨y=f) Fm B good f) (v:∀ y,S y∨y=f→B y) (h:∀ y,One ps A S (fun y z=>Fm y∨Fm z) y→good y) (y:Fc) (C:One ps A (fun y=>S y∨y=f) (fun y z=>Fm y∨Fm z) y):good y:=by
 cases C with
 | r1 d=>exact h _ (.r1 d)
 | r2 d=>exact h _ (.r2 d)
 | r10 hx hk d=>exact h _ (.r10 hx hk d)
 | r3 hx hk d=>exact d.elim (fun q=>h _ (.r3 hx hk q)) (fun q=>k.c3 _ _ hx hk q.symm)
 | r4 hx hk d e =>
   rcases d with d|d
   · rcases e with e|e
     · exact h _ (.r4 hx hk d e)
     · exact k.c4' _ _ hx hk e.symm (v _ (.inl d))
   · exact k.c4 _ _ hx hk d.symm (v _ e)
 | r5 hx hk d=>exact d.elim (fun q=>h _ (.r5 hx hk q)) (fun q=>k.c5 _ _ hx hk q.symm)
 | r6 hx hk d=>exact d.elim (fun q=>h _ (.r6 hx hk q)) (fun q=>k.c6 _ _ _ hx hk q.symm)
 | r7 hx hk d e =>
   rcases d with d|d
   · rcases e with e|e
     · exact h _ (.r7 hx hk d e)
     · exact k.c7' _ _ _ _ hx hk e.symm (.inl d)
   · exact k.c7 _ _ _ _ hx hk d.symm e
 | r8 hx hk d e =>
   rcases d with d|d
   · rcases e with e|e
     · exact h _ (.r8 hx hk d e)
     · exact k.c8' _ _ _ hx hk e.symm (.inl d)
   · exact k.c8 _ _ _ hx hk d.symm e
 | r9 d e =>
   rcases d with d|d
   · rcases e with e|e
     · exact h _ (.r9 d e)
     · exact k.c9' _ _ _ e.symm (.inl d)
   · exact k.c9 _ _ _ d.symm (v _ e)
 | r11 hx hk d=>exact d.elim (fun q=>h _ (.r11 hx hk q)) (fun q=>k.c11 _ _ hx hk q.symm)
 | @r12 a r lo hi lo' hi' d e hm hl =>
   rcases d with d|d
   · rcases e with e|e
     · exact h _ (.r12 d e hm hl)
     · have:=k.c12 (ax_ a r lo hi) zaF_ (.inl d) rfl zaF_ zaF_ (by rw[← e];exact hm.symm) (by rw[← e];simp only[ax_];omega)
       rw[← e]at this;rw[Int.max_comm,Int.min_comm];exact this
   · have:=k.c12 (ax_ a r lo' hi') zaM_ e rfl zaM_ zaM_ (by rw[← d];exact hm) (by rw[← d];exact hl)
     rw[← d]at this;exact this
 | @r13 a r lo hi lo' hi' d e hm hl =>
   rcases d with d|d
   · rcases e with e|e
     · exact h _ (.r13 d e hm hl)
     · have:=k.c13 (ax_ a r lo hi) zaF_ (.inl d) rfl zaF_ zaF_ (by rw[← e];exact hm.symm) (by rw[← e];simp only[ax_];omega)
       rw[← e]at this;exact this
   · have:=k.c13 (ax_ a r lo' hi') zaM_ e rfl zaM_ zaM_ (by rw[← d];exact hm) (by rw[← d];exact hl)
     rw[← d]at this;exact this
 | r14 hx hk d g1 g2=>exact d.elim (fun q=>h _ (.r14 hx hk q g1 g2)) (fun q=>k.c14 _ _ _ _ hx hk q.symm g1 g2)
theorem One.congrM {p:List Pc} {A:List Str} {S:Fc→Prop} {M e:Fc→Fc→Prop} (d:∀ y z,S y→S z→M y z→e y z) {y:Fc} (h:One p A S M y):One p A S e y:=by
  cases h with
  | r1 h=>exact .r1 h
  | r2 h=>exact .r2 h
  | r10 hx hk h=>exact .r10 hx hk h
  | r3 hx hk h=>exact .r3 hx hk h
  | r4 hx hk h h'=>exact .r4 hx hk h h'
  | r5 hx hk h=>exact .r5 hx hk h
  | r6 hx hk h=>exact .r6 hx hk h
  | r7 hx hk h h'=>exact .r7 hx hk h h'
  | r8 hx hk h h'=>exact .r8 hx hk h h'
  | r9 h h'=>exact .r9 h h'
  | r11 hx hk h=>exact .r11 hx hk h
  | r12 h h' hm hl=>exact .r12 h h' (d _ _ h h' hm) hl
  | r13 h h' hm hl=>exact .r13 h h' (d _ _ h h' hm) hl
  | r14 hx hk h h1 h2=>exact .r14 hx hk h h1 h2
section
variable {ps:List Pc} {A:List Str} {m n:Nat} {q fm:List Fc} {x:Ix} {f:Fc}
theorem vH_ (j k:Nat) (s:List Fc×List Fc):∃ t,(rls (bD_ m) idk (aY_ ps) x f (j+k) s).1=(rls (bD_ m) idk (aY_ ps) x f j s).1++t:=by
  induction k with
  | zero=>exact⟨[],by simp⟩
  | succ k ih =>
    obtain⟨t,h⟩:=ih;obtain⟨L,e⟩:=qL_ (ps:=ps) (x:=x) (f:=f) (ga_ m) (j+k) (rls (bD_ m) idk (aY_ ps) x f (j+k) s);obtain⟨u,d⟩:=kK_ m L (rls (bD_ m) idk (aY_ ps) x f (j+k) s).1;exact⟨t++u,by rw[← Nat.add_assoc,rls,e,d,h,List.append_assoc]⟩
theorem qM_ (j:Nat) (s:List Fc×List Fc) (h:f.kind=1→j≤4) (N:f.kind=3→j≠0) (hk:f.kind=1∨f.kind=2∨f.kind=3):∀ y∈(rl (bD_ m) idk (aY_ ps) x f j s).1,y.kind=3→y∈s.1:=by
 have E:∀ L:List Fc,(∀ y∈L,y.kind≠3)→∀ y∈emits (bD_ m) L s.1,y.kind=3→y∈s.1:=fun L O y d hk =>
   (gT_ m L s.1 y d).elim id fun q=>absurd hk (O y q)
 have B:∀ {α:Type} (l:List α) (g:α→Fc),(∀ a,(g a).kind≠3)→∀ y∈l.map g,y.kind≠3:=fun l g C y d=>by
   obtain⟨a,_,rfl⟩:=List.mem_map.1 d;exact C a
 have v:∀ {α β:Type} (l:List α) (k:α→List β) (g:α→β→Fc),(∀ a b,(g a b).kind≠3)→∀ y∈l.flatMap (fun a=>(k a).map (g a)),y.kind≠3:=fun l k g C y d=>by
   obtain⟨a,_,d⟩:=List.mem_flatMap.1 d;exact B _ _ (C a) y d
 unfold rl
 split
 ·rename_i F
  split
  ·exact E _ (B _ _ fun _=>by simp[ac_])
  ·obtain⟨L,P,H,_⟩:=fT_ (ga_ m) f (lat (aY_ ps) ⟨2,[],f.b⟩) s.1
   rw[P];exact E L fun y d=>by obtain⟨_,_,rfl,_⟩:=H y d;simp[ac_]
  ·exact E _ (B _ _ fun _=>by simp[am_])
  ·exact E _ (v _ _ _ fun _ _=>by simp[ac_])
  ·refine E _ fun y d=>?_
   unfold dL_ at d
   split at d
   ·exact B _ _ (fun _=>by simp[ac_]) y d
   simp at d
  have:=h F
  rename_i J K I M G
  have e:j=0∨j=1∨j=2∨j=3∨j=4:=by omega
  rcases e with e|e|e|e|e
  ·exact (J e).elim
  ·exact (K e).elim
  ·exact (I e).elim
  ·exact (M e).elim
  exact (G e).elim
 split
 ·split
  ·exact E _ (B _ _ fun _=>by simp[am_])
  ·refine E _ fun y d=>?_
   rcases List.mem_append.1 d with d|d
   ·exact v _ _ _ (fun _ _=>by simp[am_]) y d
   exact v _ _ _ (fun _ _=>by simp[am_]) y d
  ·exact E _ (v _ _ _ fun _ _=>by simp[ac_])
  simp only
  split
  ·exact E [ac_ f.a [33]] (by simp[ac_])
  exact fun y d _=>d
 rename_i F Q
 split
 ·exact absurd rfl (N zr_)
 exact E _ (B _ _ fun _=>by simp[ac_])
theorem oP_ (j:Nat) (s:List Fc×List Fc) (h:f.kind=1→j≤5) (v:f.kind≠3) (hk:f.kind=1∨f.kind=2∨f.kind=3):∀ y∈(rls (bD_ m) idk (aY_ ps) x f j s).1,y.kind=3→y∈s.1:=by
  induction j with
  | zero=>exact fun y k _=>k
  | succ j ih=>exact fun y k d=>ih (fun e=>by have:=h e;omega) y (qM_ j _ (fun e=>by have:=h e;omega) (fun e=>absurd e v) hk y k d) d
theorem ws_ (hr:∀ x∈ps,x.vok) (inv:InvA ps A m n q fm x) (hn:q[n]? = some f) {B:List Fc×List Fc} (E:rls (bD_ m) idk (aY_ ps) (x.add (decide (f∈fm)) f) f (nrl f) (q,fm)=B) (hl:B.1.length≤m) :
    InvA ps A m (n+1) B.1 B.2 (x.add (decide (f∈fm)) f):=by
  have O:f∈q:=List.mem_of_getElem? hn;have hlt:n<q.length:=(List.getElem?_eq_some_iff.1 hn).1;have K:=inv.form f O;have hk:=jp_ K;have N:(x.add (decide (f∈fm)) f).of (fun y=>y∈q.take n∨y=f) (·∈fm):=Ix.of_add inv.ix f zC_;have F:∀ y,(y∈q.take n∨y=f)→y∈q:=fun y d=>d.elim (fun h=>List.mem_of_mem_take h) (fun h=>h▸O)
  obtain⟨L,V⟩:=lf_ (ps:=ps) (x:=x.add (decide (f∈fm)) f) (f:=f) (ga_ m) (nrl f) (q,fm);rw[E]at V;obtain⟨t,ht⟩:=kK_ m L q;have M:B.1=q++t:=by rw[V];exact ht
  have k:∀ y∈q,y∈B.1:=fun y d=>by rw[M];exact List.mem_append_left _ d
  have T:B.1.take (n+1)=q.take (n+1):=by rw[M,List.take_append_of_le_length zr_]
  have P:∀ y,y∈B.1.take (n+1)↔(y∈q.take n∨y=f):=fun y=>by rw[T];exact vl_ hn
  have Q:∀ y∈B.1,Der ps A y:=by rw[← E];exact nu_ hr N (fun y d=>inv.form y (F y d)) K (q,fm) F O inv.der (nrl f)
  have H:∀ j,j<nrl f→∀ L,(rls (bD_ m) idk (aY_ ps) (x.add (decide (f∈fm)) f) f (j+1) (q,fm)).1=emits (bD_ m) L (rls (bD_ m) idk (aY_ ps) (x.add (decide (f∈fm)) f) f j (q,fm)).1→∀ y∈L,y∈B.1:=by
    intro j hj L V y d;obtain⟨u,W⟩:=vH_ (m:=m) (ps:=ps) (x:=x.add (decide (f∈fm)) f) (f:=f) (j+1) (nrl f - (j+1)) (q,fm);rw[show j+1+(nrl f - (j+1))=nrl f by omega,E]at W;have Z:(rls (bD_ m) idk (aY_ ps) (x.add (decide (f∈fm)) f) f (j+1) (q,fm)).1.length≤m:=by rw[W,List.length_append]at hl;omega
    rw[V]at Z;have:=jr_ m L _ Z y d;rw[W,V];exact List.mem_append_left _ this
  have hc:=vG_ (ga_ m) hr N (q,fm) (fun _ _=>Iff.rfl) (.inr rfl) F (·∈B.1) (fun y d=>k y (F y d)) H
  -- the firm ones
  have C:(∀ y∈fm,y∈B.2)∧(∀ y∈B.2,y∈fm∨(y ∉ q∧y∈B.1∧y.kind=3))∧(∀ y∈B.1,y.kind=3→y∈q∨y∈B.2∨∃ z,(z∈q.take n∨z=f)∧z.kind=3∧f.kind=3∧z.a=f.a∧z.r=f.r∧max f.lo z.lo≤min f.hi z.hi∧y=dT_ f z):=by
    by_cases R:f.kind=1
    · have e6:nrl f=5+1:=by simp[nrl,R]
      rw[e6,rls]at E;have hf5:(rls (bD_ m) idk (aY_ ps) (x.add (decide (f∈fm)) f) f 5 (q,fm)).2=fm:=qK_ 5 (q,fm) (fun _=>Nat.le_refl _);have U:=oP_ (m:=m) (ps:=ps) (x:=x.add (decide (f∈fm)) f) (f:=f) 5 (q,fm) (fun _=>Nat.le_refl _) zr_ hk;have hq5:∀ y∈q,y∈(rls (bD_ m) idk (aY_ ps) (x.add (decide (f∈fm)) f) f 5 (q,fm)).1:=fun y d=>le_ (ga_ m) 5 (q,fm) y d
      have H5:=H 5 zr_;rw[rls]at H5;generalize rls (bD_ m) idk (aY_ ps) (x.add (decide (f∈fm)) f) f 5 (q,fm)=s5 at E hf5 U hq5 H5
      have er:rl (bD_ m) idk (aY_ ps) (x.add (decide (f∈fm)) f) f 5 s5=cw_ (bD_ m) idk f (lat (aY_ ps) ⟨8,[],f.b⟩) s5:=by rw[rl.eq_def,if_pos R]<;>rfl
      rw[er]at E H5;have es5:s5=(s5.1,fm):=by rw[← hf5]
      rw[es5]at E H5;have Hv:=H5 _ (fw_ (bD_ m) idk f _ s5.1 fm);refine⟨fun y d=>?_,fun y d=>?_,fun y d I=>?_⟩
      · rw[← E];exact (hB_ (ga_ m) f _ _ _ _).2 (.inl d)
      · rw[← E]at d
        rcases (hB_ (ga_ m) f _ _ _ _).1 d with h|h
        · exact .inl h
        · rcases nc_ f _ _ _ _ h.2 with g|⟨z,G,rfl⟩
          · exact .inl g
          · exact .inr ⟨fun hq=>h.1 (hq5 _ hq),Hv _ (List.mem_map.2 ⟨z,G,rfl⟩),rfl⟩
      · have hy':=d
        rw[← E,fw_]at d;rcases gT_ m _ _ y d with h|h
        · exact .inl (U y h I)
        · obtain⟨z,G,rfl⟩:=List.mem_map.1 h
          rcases me_ (stp:=bD_ m) (kof:=idk) (fun i s z G=>(gT_ m [i] s z G).imp id zC_) (ga_ m) f _ s5.1 fm z G with g|g
          · exact .inl (U _ g rfl)
          · exact .inr (.inl (by rw[← E];exact g))
    · have hf2:B.2=fm:=by rw[← E];exact qK_ _ (q,fm) (fun h=>absurd h R)
      refine⟨fun y d=>by rw[hf2];exact d,fun y d=>.inl (by rw[← hf2];exact d),fun y d I=>?_⟩
      by_cases Y:f.kind=3
      · have e2:nrl f=0+1+1:=by simp[nrl,Y]
        rw[e2,rls]at E;rw[← E]at d;have hy1:=qM_ 1 _ (fun h=>absurd h R) (fun _=>by decide) hk y d I;rw[rls,rl.eq_def,if_neg R,if_neg zr_]at hy1;rcases gT_ m _ _ y hy1 with h|h
        · exact .inl h
        · rcases List.mem_append.1 h with h|h
          · obtain⟨z,G,rfl⟩:=List.mem_map.1 h
            obtain⟨G,hcc⟩:=List.mem_filter.1 G;obtain⟨g1,g2,g3,g4⟩:=lk_ N G;simp only[fo_,Bool.and_eq_true,Bool.not_eq_true',decide_eq_false_iff_not,Int.not_lt]at hcc;exact .inr (.inr ⟨z,g1,g2,Y,g3,g4,hcc.1,rfl⟩)
          · unfold id_ at h
            split at h
            · simp at h;rw[h]at I;simp[ac_]at I
            · simp at h
      · rw[← E]at d
        exact .inl (oP_ _ _ (fun h=>absurd h R) Y hk y d I)
  have J:∀ y,(y∈q.take n∨y=f)→(y∈fm↔y∈B.2):=fun y d=>⟨fun h=>C.1 y h,fun h=>(C.2.1 y h).elim id fun g=>absurd (F y d) g.1⟩
  refine⟨?_,hl,?_,Q,fun y d=>(Q y d).form hr,?_,?_,?_,?_,?_⟩
  · rw[V];exact jq_ m L q inv.nd
  · rw[M,List.length_append];omega
  · have:=Ix.of_firm N J
    have e:(fun y=>y∈B.1.take (n+1))=(fun y=>y∈q.take n∨y=f):=funext fun y=>propext (P y)
    rw[e];exact this
  · intro y d
    rcases C.2.1 y d with h|h
    · exact⟨k y (inv.fmq y h).1,(inv.fmq y h).2⟩
    · exact h.2
  · intro y d X
    rcases C.2.2 y d X with h|h|⟨z,R,h2,Y,h4,h5,h6,rfl⟩
    · exact (inv.firm y h X).mono C.1
    · exact .base h
    · exact .meet ((inv.firm f O Y).mono C.1) ((inv.firm z (F z R) h2).mono C.1) h4 h5 h6
  · intro a ha
    obtain⟨g1,g2,g3⟩:=inv.st a ha;exact⟨k _ g1,k _ g2,fun z G hk=>k _ (g3 z G hk)⟩
  · intro y d
    have e:(fun y=>y∈B.1.take (n+1))=(fun y=>y∈q.take n∨y=f):=funext fun y=>propext (P y)
    rw[e]at d;refine yH_ (A:=A) hc F (fun z G=>k z (inv.cl z G)) y (d.congrM fun u v W hv hm=>hm.imp (J u W).2 (J v hv).2)
theorem mm_le {a b c d e g:Int} (h:max a (max b c)≤min d (min e g)):max a b≤min d e:=by omega
theorem wt_ (inv:InvA ps A m q.length q fm x) (y:Fc):Der ps A y↔y∈q:=by
 refine⟨fun h=>h.least fun y I=>?_,inv.der y⟩;have d:∀ y,One ps A (·∈q) (fun y z=>y∈fm∨z∈fm) y→y∈q:=fun y I=>inv.cl y (by rw[List.take_length];exact I)
 have L:∀ f,Fmd fm f→∀ z∈q,z.kind=3→z.a=f.a→z.r=f.r→(max z.lo f.lo≤min z.hi f.hi→dT_ z f∈q)∧(min z.hi f.hi<max z.lo f.lo→ac_ z.a [33]∈q):=by
   intro f W
   induction W with
   | @base f hb =>
     intro z H hk N G;obtain⟨F,Q⟩:=inv.fmq f hb;have V:=(ig_ (inv.form z H) hk).1;have ef:=(ig_ (inv.form f F) Q).1;rw[← N,← G]at ef;refine⟨fun hl=>d _ (.r12 (by rw[← V];exact H) (by rw[← ef];exact F) (.inr (by rw[← ef];exact hb)) hl),fun hl=>d _ (.r13 (r:=z.r) (by rw[← V];exact H) (by rw[← ef];exact F) (.inr (by rw[← ef];exact hb)) hl)⟩
   | @meet y w I hw N G hl ih1 ih2 =>
     intro z H hk O J;have C:z.a=y.a:=O;have E:z.r=y.r:=J;obtain⟨i1,Y⟩:=ih1 z H hk C E;have M:(dT_ y w).lo=max y.lo w.lo:=rfl;have R:(dT_ y w).hi=min y.hi w.hi:=rfl;rw[M,R]
     by_cases K:max z.lo y.lo≤min z.hi y.hi
     · have P:=i1 K
       obtain⟨T,U⟩:=ih2 (dT_ z y) P rfl (by rw[N,← C];rfl) (by rw[G,← E];rfl);have X:(dT_ z y).lo=max z.lo y.lo:=rfl;have Z:(dT_ z y).hi=min z.hi y.hi:=rfl;rw[X,Z]at T U;refine⟨fun v=>?_,fun v=>U (by rw[Int.max_assoc,Int.min_assoc];exact v)⟩;have:=T (by rw[Int.max_assoc,Int.min_assoc];exact v)
       have e:dT_ (dT_ z y) w=dT_ z (dT_ y w):=by
         simp only[dT_,ax_];rw[Int.max_assoc,Int.min_assoc]
       rw[← e];exact this
     · exact⟨fun v=>absurd (mm_le v) K,fun _=>Y (Int.not_le.1 K)⟩
 have B:∀ {a r:Str} {lo hi lo' hi':Int},ax_ a r lo hi∈q→ax_ a r lo' hi'∈q→(max lo lo'≤min hi hi'→ax_ a r (max lo lo') (min hi hi')∈q)∧(min hi hi'<max lo lo'→ac_ a [33]∈q):=fun h k=>L _ (inv.firm _ k rfl) _ h rfl rfl rfl
 cases I with
 | r1 h=>exact d _ (.r1 h)
 | r2 h=>exact d _ (.r2 h)
 | r10 hx hk h=>exact d _ (.r10 hx hk h)
 | r3 hx hk h=>exact d _ (.r3 hx hk h)
 | r4 hx hk h k=>exact d _ (.r4 hx hk h k)
 | r5 hx hk h=>exact d _ (.r5 hx hk h)
 | r6 hx hk h=>exact d _ (.r6 hx hk h)
 | r7 hx hk h k=>exact d _ (.r7 hx hk h k)
 | r8 hx hk h k=>exact d _ (.r8 hx hk h k)
 | r9 h k=>exact d _ (.r9 h k)
 | r11 hx hk h=>exact d _ (.r11 hx hk h)
 | r12 h k hm hl=>exact (B h k).1 hl
 | r13 h k hm hl=>exact (B h k).2 hl
 | r14 hx hk h P h2=>exact d _ (.r14 hx hk h P h2)
end
def fG_ (loops:List Str) (A:List Str):List Fc:=A.flatMap fun a=>ac_ a a::ac_ a [42]::loops.map fun r=>am_ a r a
theorem mt_ {ps:List Pc} {A:List Str} {S:Fc→Prop} {M:Fc→Fc→Prop}:∀ y∈fG_ (aI_ ps) A,One ps A S M y:=by
 intro y d;obtain⟨a,e,d⟩:=List.mem_flatMap.1 d;simp only[List.mem_cons]at d;rcases d with rfl|rfl|d
 ·exact .r1 e
 ·exact .r2 e
 obtain⟨r,B,rfl⟩:=List.mem_map.1 d;obtain⟨z,v,rfl⟩:=List.mem_map.1 B;obtain⟨h,k⟩:=List.mem_filter.1 v;exact .r10 h (of_decide_eq_true k) e
theorem hr_ {ps:List Pc} {A:List Str} {a:Str} (d:a∈A):ac_ a a∈fG_ (aI_ ps) A∧ac_ a [42]∈fG_ (aI_ ps) A∧∀ z∈ps,z.kind=7→am_ a z.r a∈fG_ (aI_ ps) A:=by
  refine⟨List.mem_flatMap.2 ⟨a,d,by simp⟩,List.mem_flatMap.2 ⟨a,d,by simp⟩,fun z e hk=>List.mem_flatMap.2 ⟨a,d,?_⟩⟩;exact List.mem_cons_of_mem _ (List.mem_cons_of_mem _ (List.mem_map.2 ⟨z.r,List.mem_map.2 ⟨z,List.mem_filter.2 ⟨e,decide_eq_true hk⟩,rfl⟩,rfl⟩))
structure LoopA (ps:List Pc) (A:List Str) (m n:Nat) (q fm:List Fc) (x:Ix):Prop where
  nd:q.Nodup
  len:q.length≤m+1
  le:n≤q.length
  der:∀ y∈q,Der ps A y
  ix:x.of (·∈q.take n) (·∈fm)
  inv:q.length≤m→InvA ps A m n q fm x
section
variable {ps:List Pc} {A:List Str} {m n:Nat} {q fm:List Fc} {x:Ix} {f:Fc}
theorem rj_ (L:∀ x∈ps,x.vok) {q:List Fc} (E:emits (bD_ m) (fG_ (aI_ ps) A) []=q):LoopA ps A m 0 q [] Ix.nil:=by
 have v:∀ y∈q,y∈fG_ (aI_ ps) A:=fun y k=>by rw[← E]at k;exact (gT_ m _ _ y k).elim (fun h=>by simp at h) id
 have d:∀ y∈q,Der ps A y:=fun y k=>Der.step (mt_ y (v y k))
 have F:q.Nodup:=by rw[← E];exact jq_ m _ _ List.nodup_nil
 have G:Ix.nil.of (·∈q.take 0) (·∈([]:List Fc)):=by
   have e:(fun y=>y∈q.take 0)=(fun _=>False):=funext fun y=>by simp
   rw[e];exact Ix.of_nil _
 refine⟨F,by rw[← E];exact qc_ m _ _ zC_,Nat.zero_le _,d,G,fun hl=>⟨F,hl,Nat.zero_le _,d,fun y k=>(d y k).form L,G,by simp,fun y k hk=>?_,fun a I=>?_,fun y k=>?_⟩⟩
 ·exfalso
  obtain⟨a,_,h⟩:=List.mem_flatMap.1 (v y k);simp only[List.mem_cons]at h;rcases h with rfl|rfl|h
  ·simp[ac_]at hk
  ·simp[ac_]at hk
  obtain⟨r,_,rfl⟩:=List.mem_map.1 h;simp[am_]at hk
 ·obtain⟨M,J,K⟩:=hr_ (ps:=ps) I
  rw[← E]at hl ⊢;exact⟨jr_ m _ _ hl _ M,jr_ m _ _ hl _ J,fun z H hk=>jr_ m _ _ hl _ (K z H hk)⟩
 rw[← E]at hl;have B:∀ a∈A,_:=fun a I=>hr_ (ps:=ps) I
 have C:∀ z∈fG_ (aI_ ps) A,z∈q:=fun z H=>by rw[← E];exact jr_ m _ _ hl z H
 cases k with
 | r1 h=>exact C _ (B _ h).1
 | r2 h=>exact C _ (B _ h).2.1
 | r10 hx hk h=>exact C _ ((B _ h).2.2 _ hx hk)
 | r3 hx hk h=>simp at h
 | r4 hx hk h h'=>simp at h
 | r5 hx hk h=>simp at h
 | r6 hx hk h=>simp at h
 | r7 hx hk h h'=>simp at h
 | r8 hx hk h h'=>simp at h
 | r9 h h'=>simp at h
 | r11 hx hk h=>simp at h
 | r12 h h' hm hl=>simp at h
 | r13 h h' hm hl=>simp at h
 | r14 hx hk h h1 h2=>simp at h
theorem gB_ (C:∀ x∈ps,x.vok) (h:LoopA ps A m n q fm x) (F:q[n]? = some f) (j:Nat) {k:List Fc×List Fc} (E:rls (bD_ m) idk (aY_ ps) (x.add (decide (f∈fm)) f) f j (q,fm)=k) :
    k.1.Nodup∧k.1.length≤m+1∧(∀ y∈k.1,Der ps A y)∧∃ t,k.1=q++t:=by
  have d:f∈q:=List.mem_of_getElem? F;have e:∀ y,(y∈q.take n∨y=f)→y∈q:=fun y B=>B.elim (fun h=>List.mem_of_mem_take h) (fun h=>h▸d)
  obtain⟨L,v⟩:=lf_ (ps:=ps) (x:=x.add (decide (f∈fm)) f) (f:=f) (ga_ m) j (q,fm);rw[E]at v;refine⟨by rw[v];exact jq_ m L q h.nd,by rw[v];exact qc_ m L q h.len,?_,by rw[v];exact kK_ m L q⟩;rw[← E];exact nu_ C (Ix.of_add h.ix f zC_) (fun y B=>(h.der y (e y B)).form C) ((h.der f d).form C) (q,fm) e d h.der j
theorem jR_ (k:∀ x∈ps,x.vok) (h:LoopA ps A m n q fm x) (v:q[n]? = some f) {d:List Fc×List Fc} (e:rls (bD_ m) idk (aY_ ps) (x.add (decide (f∈fm)) f) f (nrl f) (q,fm)=d) (hl:d.1.length≤m) :
    LoopA ps A m (n+1) d.1 d.2 (x.add (decide (f∈fm)) f):=by
  obtain⟨_,_,_,t,y⟩:=gB_ k h v (nrl f) e;have hi:=ws_ k (h.inv (by rw[y,List.length_append]at hl;omega)) v e hl;exact⟨hi.nd,by have:=hi.len;omega,hi.le,hi.der,hi.ix,fun _=>hi⟩
theorem st_ (h:LoopA ps A m q.length q fm x) (hl:q.length≤m) (y:Fc):Der ps A y↔y∈q:=wt_ (h.inv hl) y
end
theorem zf_eq (x:Pc):∃ n,{ x.zf with frm:=n }=x:=⟨x.frm,rfl⟩
theorem qw_ {p:List Pc} {A:List Str} {y:Fc}:Der (uniq [] p) A y↔Der p A y:=by
 constructor
 ·refine Der.mono (fun x d=>?_) (fun _ h=>h)
  rcases (km_ p [] x).1 d with h|⟨z,e,rfl⟩
  ·simp at h
  exact⟨z,e,0,rfl⟩
 exact Der.mono (fun x d=>⟨x.zf,(km_ p [] _).2 (.inr ⟨x,d,rfl⟩),zf_eq x⟩) (fun _ h=>h)
theorem vj_ {p:List Pc} (h:∀ x∈p,x.vok):∀ x∈uniq [] p,x.vok:=fun x k=>by
 rcases (km_ p [] x).1 k with e|⟨z,d,rfl⟩
 ·simp at e
 exact⟨(h z d).rok,(h z d).num⟩
def Fc.lt (x y:Fc):Prop:=x.kind<y.kind∨x.kind=y.kind∧(x.a<y.a∨x.a=y.a∧(x.b<y.b∨x.b=y.b∧(x.r<y.r∨x.r=y.r∧(x.lo<y.lo∨x.lo=y.lo∧x.hi<y.hi))))
instance (x y:Fc):Decidable (Fc.lt x y):=by unfold Fc.lt;exact inferInstance
theorem ge_ (x:Str):¬ x<x:=List.lt_irrefl x
theorem pz_ (x y:Str):x<y∨x=y∨y<x:=by
 by_cases h:x<y
 ·exact .inl h
 by_cases d:y<x
 ·exact .inr (.inr d)
 exact .inr (.inl (List.le_antisymm (List.not_lt.1 d) (List.not_lt.1 h)))
theorem Fc.lt_irr (x:Fc):¬ x.lt x:=by
  unfold Fc.lt;simp[ge_]
theorem Fc.lt_tri (x y:Fc):x.lt y∨x=y∨y.lt x:=by
 unfold Fc.lt;rcases Int.lt_trichotomy x.kind y.kind with h|h|h
 ·exact .inl (.inl h)
 ·rcases pz_ x.a y.a with d|d|d
  ·exact .inl (.inr ⟨h,.inl d⟩)
  ·rcases pz_ x.b y.b with e|e|e
   ·exact .inl (.inr ⟨h,.inr ⟨d,.inl e⟩⟩)
   ·rcases pz_ x.r y.r with k|k|k
    ·exact .inl (.inr ⟨h,.inr ⟨d,.inr ⟨e,.inl k⟩⟩⟩)
    ·rcases Int.lt_trichotomy x.lo y.lo with v|v|v
     ·exact .inl (.inr ⟨h,.inr ⟨d,.inr ⟨e,.inr ⟨k,.inl v⟩⟩⟩⟩)
     ·rcases Int.lt_trichotomy x.hi y.hi with B|B|B
      ·exact .inl (.inr ⟨h,.inr ⟨d,.inr ⟨e,.inr ⟨k,.inr ⟨v,B⟩⟩⟩⟩⟩)
      ·refine .inr (.inl ?_);cases x;cases y;simp_all
      exact .inr (.inr (.inr ⟨h.symm,.inr ⟨d.symm,.inr ⟨e.symm,.inr ⟨k.symm,.inr ⟨v.symm,B⟩⟩⟩⟩⟩))
     exact .inr (.inr (.inr ⟨h.symm,.inr ⟨d.symm,.inr ⟨e.symm,.inr ⟨k.symm,.inl v⟩⟩⟩⟩))
    exact .inr (.inr (.inr ⟨h.symm,.inr ⟨d.symm,.inr ⟨e.symm,.inl k⟩⟩⟩))
   exact .inr (.inr (.inr ⟨h.symm,.inr ⟨d.symm,.inl e⟩⟩))
  exact .inr (.inr (.inr ⟨h.symm,.inl d⟩))
 exact .inr (.inr (.inl h))
theorem hj_ {α:Type} {lt:α→α→Prop} (h:∀ {x y z},lt x y→lt y z→lt x z) {x y z:α} {P Q R:Prop} (k:x=y→y=z→P→Q→R) (e:lt x y∨x=y∧P) (d:lt y z∨y=z∧Q):lt x z∨x=z∧R:=by
 rcases e with e|⟨rfl,e⟩
 ·rcases d with d|⟨rfl,d⟩
  ·exact .inl (h e d)
  exact .inl e
 rcases d with d|⟨rfl,d⟩
 ·exact .inl d
 exact .inr ⟨rfl,k rfl rfl e d⟩
theorem Fc.lt_trans {x y z:Fc} (d:x.lt y) (e:y.lt z):x.lt z :=
  hj_ (lt:=fun a b:Int=>a<b) Int.lt_trans (fun _ _=>hj_ (lt:=fun a b:Str=>a<b) List.lt_trans (fun _ _=>hj_ (lt:=fun a b:Str=>a<b) List.lt_trans (fun _ _=>hj_ (lt:=fun a b:Str=>a<b) List.lt_trans (fun _ _=>hj_ (lt:=fun a b:Int=>a<b) Int.lt_trans fun _ _=>Int.lt_trans)))) d e
theorem gr_ {α:Type} {lt:α→α→Prop} (hi:∀ x,¬ lt x x) (k:∀ {x y z},lt x y→lt y z→lt x z):∀ {l m:List α},l.Pairwise lt→m.Pairwise lt→(∀ x,x∈l↔x∈m)→l=m
 | [],[],_,_,_=>rfl
 | [],y::m,_,_,h=>by have:=(h y).2 zC_;simp at this
 | x::l,[],_,_,h=>by have:=(h x).1 zC_;simp at this
 | x::l,y::m,h1,h2,h=>by
   rw[List.pairwise_cons]at h1 h2
   have e:x=y:=by
     rcases List.mem_cons.1 ((h x).1 zC_) with e|B
     · exact e
     · rcases List.mem_cons.1 ((h y).2 zC_) with e|v
       · exact e.symm
       · exact absurd (k (h1.1 y v) (h2.1 x B)) (hi x)
   subst e
   congr 1
   refine gr_ hi k h1.2 h2.2 fun z=>⟨fun d=>?_,fun d=>?_⟩
   · rcases List.mem_cons.1 ((h z).1 zah_) with rfl|q
     · exact absurd (h1.1 z d) (hi z)
     · exact q
   · rcases List.mem_cons.1 ((h z).2 zah_) with rfl|q
     · exact absurd (h2.1 z d) (hi z)
     · exact q
abbrev Srt (l:List Fc):Prop:=l.Pairwise Fc.lt
theorem Srt.ext {l m:List Fc} (d:Srt l) (e:Srt m) (h:∀ x,x∈l↔x∈m):l=m:=gr_ Fc.lt_irr Fc.lt_trans d e h
theorem Srt.nodup {l:List Fc} (h:Srt l):l.Nodup:=by
  unfold List.Nodup;refine List.Pairwise.imp ?_ h;intro a b d e;exact Fc.lt_irr b (e▸d)
def eJ_ (p:List Pc) (A:List Str) (m:Nat):Option (List Fc)→Prop
  | some L=>Srt L∧(∀ y,y∈L↔Der p A y)∧L.length≤m
  | none=>∃ M:List Fc,M.Nodup∧(∀ y∈M,Der p A y)∧m<M.length
theorem cd_ {α:Type} [DecidableEq α]:∀ {l m:List α},l.Nodup→(∀ x∈l,x∈m)→l.length≤m.length
  | [],m,_,_=>by simp
  | x::l,m,h,hs=>by
    rw[List.nodup_cons]at h
    have:=cd_ (l:=l) (m:=m.erase x) h.2 fun y k=>by
      have d:y≠x:=fun e=>h.1 (e▸k)
      exact (List.mem_erase_of_ne d).2 (hs y zaX_)
    have v:=hs x zC_;rw[List.length_erase_of_mem v]at this;have:0<m.length:=List.length_pos_of_mem v;simp only[List.length_cons];omega
theorem eJ_.uniq {p:List Pc} {A:List Str} {m:Nat} {r d:Option (List Fc)} (h:eJ_ p A m r) (e:eJ_ p A m d):r=d:=by
  cases r with
  | none =>
    cases d with
    | none=>rfl
    | some L =>
      obtain⟨M,v,y,E⟩:=h;obtain⟨_,k,C⟩:=e;have:=cd_ v fun x B=>(k x).2 (y x B)
      omega
  | some L =>
    cases d with
    | none =>
      obtain⟨M,v,y,E⟩:=e;obtain⟨_,k,C⟩:=h;have:=cd_ v fun x B=>(k x).2 (y x B)
      omega
    | some L'=>rw[h.1.ext e.1 fun x=>by rw[h.2.1,e.2.1]]
end Go.Vs
namespace Go.Vs
open Go Go.Sx
section
variable {ps:List Pc} {A:List Str} {c:List Fc} {x:Ix} {f:Fc}
theorem Cmpl.up {S G F good v:Fc→Prop} (h:Cmpl ps S G F good f) (q:∀ y,good y→v y):Cmpl ps S G F v f :=
  ⟨fun z a d e k=>q _ (h.c3 z a d e k),fun z a d e k m=>q _ (h.c4 z a d e k m),fun z a d e k m=>q _ (h.c4' z a d e k m),fun z a d e k=>q _ (h.c5 z a d e k),fun z a b d e k=>q _ (h.c6 z a b d e k),
   fun z a b c d e k m=>q _ (h.c7 z a b c d e k m),fun z a b c d e k m=>q _ (h.c7' z a b c d e k m),fun z a b d e k m=>q _ (h.c8 z a b d e k m),fun z a b d e k m=>q _ (h.c8' z a b d e k m),fun a r b d e=>q _ (h.c9 a r b d e),fun a r b d e=>q _ (h.c9' a r b d e),
   fun z a d e k=>q _ (h.c11 z a d e k),fun y d e k m B E C=>q _ (h.c12 y d e k m B E C),fun y d e k m B E C=>q _ (h.c13 y d e k m B E C),fun z a lo hi d e k m B=>q _ (h.c14 z a lo hi d e k m B)⟩
theorem wO_ {good:Fc→Prop} (e:∀ y∈fG_ (aI_ ps) A,good y) (d:∀ f∈c,Cmpl ps (·∈c) (fun _=>True) (·∈c) good f) {y:Fc} (h:ia_ ps A (·∈c) y):good y:=by
  cases h with
  | r1 h=>exact e _ (hr_ h).1
  | r2 h=>exact e _ (hr_ h).2.1
  | r10 hx hk h=>exact e _ ((hr_ h).2.2 _ hx hk)
  | r3 hx hk h=>exact (d _ h).c3 _ _ hx hk rfl
  | r4 hx hk h h'=>exact (d _ h).c4 _ _ hx hk rfl h'
  | r5 hx hk h=>exact (d _ h).c5 _ _ hx hk rfl
  | r6 hx hk h=>exact (d _ h).c6 _ _ _ hx hk rfl
  | r7 hx hk h h'=>exact (d _ h).c7 _ _ _ _ hx hk rfl h'
  | r8 hx hk h h'=>exact (d _ h).c8 _ _ _ hx hk rfl h'
  | r9 h h'=>exact (d _ h).c9 _ _ _ rfl h'
  | r11 hx hk h=>exact (d _ h).c11 _ _ hx hk rfl
  | r12 h h' hm hl=>exact (d _ h).c12 _ rfl h' rfl rfl rfl (.inl trivial) hl
  | r13 h h' hm hl=>exact (d _ h).c13 _ rfl h' rfl rfl rfl (.inl trivial) hl
  | r14 hx hk h h1 h2=>exact (d _ h).c14 _ _ _ _ hx hk rfl h1 h2
end
def cT_ (l:List Fc) (f:Fc):Nat:=l.countP fun y=>decide (y.lt f)
def sz_ (l:List Fc) (f:Fc):List Fc:=if f∈l then l else l.take (cT_ l f)++f::l.drop (cT_ l f)
theorem uj_ (l:List Fc) (f:Fc):cT_ l f≤l.length:=List.countP_le_length
theorem iL_:∀ {l:List Fc} (f:Fc),Srt l→(∀ y∈l.take (cT_ l f),y.lt f)∧(∀ y∈l.drop (cT_ l f),¬ y.lt f)
 | [],f,_=>by simp[cT_]
 | x::l,f,h=>by
   rw[Srt,List.pairwise_cons]at h;obtain⟨B,v⟩:=iL_ f h.2
   by_cases m:x.lt f
   · have e:cT_ (x::l) f=cT_ l f+1:=by simp[cT_,m]
     rw[e];simp only[List.take_succ_cons,List.drop_succ_cons];exact⟨fun y d=>(List.mem_cons.1 d).elim (fun q=>q▸m) (B y),v⟩
   · have k:∀ y∈l,¬ y.lt f:=fun y d q=>m (Fc.lt_trans (h.1 y d) q)
     have e:cT_ (x::l) f=0:=by
       simp only[cT_,List.countP_cons,m,decide_false,Bool.false_eq_true,if_false,Nat.add_zero];rw[List.countP_eq_zero];intro y d;simpa using k y d
     rw[e];simp only[List.take_zero,List.not_mem_nil,false_imp_iff,implies_true,true_and,List.drop_zero];intro y d;rcases List.mem_cons.1 d with rfl|d
     · exact m
     · exact k y d
theorem ww_ (l:List Fc) (f y:Fc):y∈sz_ l f↔y∈l∨y=f:=by
 unfold sz_
 split
 ·rename_i h
  exact⟨.inl,fun q=>q.elim id fun e=>e▸h⟩
 have:y∈l↔y∈l.take (cT_ l f)∨y∈l.drop (cT_ l f):=by rw[← List.mem_append,List.take_append_drop]
 rw[this];simp only[List.mem_append,List.mem_cons];constructor
 ·rintro (h|h|h)
  ·exact .inl (.inl h)
  ·exact .inr h
  exact .inl (.inr h)
 rintro ((h|h)|h)
 ·exact .inl h
 ·exact .inr (.inr h)
 exact .inr (.inl h)
theorem wv_ {l:List Fc} (f:Fc) (h:Srt l):Srt (sz_ l f):=by
 unfold sz_
 split
 ·exact h
 rename_i C
 obtain⟨k,B⟩:=iL_ f h
 have m:∀ y∈l.drop (cT_ l f),f.lt y:=fun y e=>by
   rcases Fc.lt_tri f y with q|q|q
   · exact q
   · exact absurd (List.mem_of_mem_drop e) (q▸C)
   · exact absurd q (B y e)
 rw[Srt,List.pairwise_append];refine⟨h.sublist (List.take_sublist _ _),List.pairwise_cons.2 ⟨m,h.sublist (List.drop_sublist _ _)⟩,fun a v b d=>?_⟩;rcases List.mem_cons.1 d with rfl|d
 ·exact k a v
 exact Fc.lt_trans (k a v) (m b d)
theorem ph_ {l:List Fc} (h:Srt l) (f:Fc):f∈l↔l[cT_ l f]? = some f:=by
 obtain⟨m,k⟩:=iL_ f h;refine⟨fun d=>?_,fun d=>List.mem_of_getElem? d⟩;rw[← List.take_append_drop (cT_ l f) l,List.mem_append]at d;rcases d with d|d
 ·exact absurd (m f d) (Fc.lt_irr f)
 have e:Srt (l.drop (cT_ l f)):=h.sublist (List.drop_sublist _ _);cases hd:l.drop (cT_ l f) with
 | nil=>rw[hd]at d;simp at d
 | cons z r =>
   have v:l[cT_ l f]? = some z:=by
     have:=congrArg (fun q=>q[0]?) hd;simpa [List.getElem?_drop] using this
   rw[hd]at d e k;rcases List.mem_cons.1 d with rfl|d
   · exact v
   · rw[Srt,List.pairwise_cons]at e
     exact absurd (e.1 f d) (k z zC_)
def subA (p:List Pc) (l:List Fc) (f:Fc):List Fc:=p.flatMap fun x =>
  if x.kind=1∧x.a=f.b then [ac_ f.a x.c]
  else if x.kind=2∧(x.a=f.b∧ac_ f.a x.b∈l∨x.b=f.b∧ac_ f.a x.a∈l) then [ac_ f.a x.c]
  else if x.kind=3∧x.a=f.b then [am_ f.a x.r x.c]
  else if x.kind=8∧x.a=f.b then [ax_ f.a x.r x.lo x.hi]
  else []
def subBp (p:List Pc) (f y:Fc):List Fc:=p.flatMap fun x=>if x.kind=4∧x.r=y.r∧x.a=f.b then [ac_ y.a x.c] else []
def subB (p:List Pc) (f y:Fc):List Fc:=if y.kind≠2∨y.b≠f.a then [] else (if f.b=[33] then [ac_ y.a [33]] else [])++subBp p f y
def subS (p:List Pc) (l:List Fc) (f:Fc):List Fc:=subA p l f++l.flatMap (subB p f)
def tt_ (x:Pc) (f y:Fc):List Fc:=if y.kind≠2 then [] else (if x.r=f.r∧y.a=f.b∧y.r=x.s then [am_ f.a x.t y.b] else [])++(if x.s=f.r∧y.b=f.a∧y.r=x.r then [am_ y.a x.t f.b] else [])
def pe_ (l:List Fc) (f:Fc) (x:Pc):List Fc :=
  if x.kind=5∧x.r=f.r then [am_ f.a x.t f.b]
  else if x.kind=4∧x.r=f.r∧ac_ f.b x.a∈l then [ac_ f.a x.c]
  else if x.kind=6 then l.flatMap (tt_ x f) else []
def zi_ (p:List Pc) (l:List Fc) (f:Fc):List Fc:=(if ac_ f.b [33]∈l then [ac_ f.a [33]] else [])++p.flatMap (pe_ l f)
def pF_ (f y:Fc):List Fc:=if y.kind≠3∨y.a≠f.a∨y.r≠f.r then [] else if max f.lo y.lo≤min f.hi y.hi then [dT_ f y] else [ac_ f.a [33]]
def sg_ (f:Fc) (x:Pc):List Fc:=if x.kind=9∧x.r=f.r∧x.lo≤f.lo∧f.hi≤x.hi then [ac_ f.a x.c] else []
def vL_ (p:List Pc) (l:List Fc) (f:Fc):List Fc:=l.flatMap (pF_ f)++p.flatMap (sg_ f)
def hf_ (p:List Pc) (l:List Fc) (f:Fc):List Fc:=if f.kind=1 then subS p l f else if f.kind=2 then zi_ p l f else vL_ p l f
def lp_ (p:List Pc) (A:List Str):List Fc:=A.flatMap fun a=>ac_ a a::ac_ a [42]::(p.filter fun x=>decide (x.kind=7)).map fun x=>am_ a x.r a
theorem pm_ (p:List Pc) (A:List Str):lp_ p A=fG_ (aI_ p) A:=by
  unfold lp_ fG_ aI_;simp[List.map_map,Function.comp_def]
section
variable {p:List Pc} {A:List Str} {l:List Fc} {f:Fc}
theorem qB_ (k:f∈l) (E:∀ y∈l,y.form):∀ y∈hf_ p l f,ia_ p A (·∈l) y:=by
 have C:=E f k;have hk:=jp_ C;intro y d;unfold hf_ at d
 split at d
 ·rename_i H
  have ef:=ob_ C H;rcases List.mem_append.1 d with d|d
  ·obtain⟨x,m,d⟩:=List.mem_flatMap.1 d
   split at d
   ·rename_i e
    simp at d;subst d
    exact .r3 m e.1 zaN_
   split at d
   ·rename_i e
    simp at d;subst d
    rcases e.2 with h|h
    ·exact .r4 m e.1 (by rw[h.1,← ef];exact k) h.2
    exact .r4 m e.1 h.2 (by rw[h.1,← ef];exact k)
   split at d
   ·rename_i e
    simp at d;subst d
    exact .r5 m e.1 zaN_
   split at d
   ·rename_i e
    simp at d;subst d
    exact .r11 m e.1 zaN_
   simp at d
  obtain⟨g,v,d⟩:=List.mem_flatMap.1 d;unfold subB at d
  split at d
  ·simp at d
  rename_i e
  simp only[not_or,Decidable.not_not]at e;have B:=(kF_ (E g v) e.1).1;rcases List.mem_append.1 d with d|d
  ·split at d
   ·rename_i F
    simp at d;subst d
    exact .r9 (r:=g.r) (b:=g.b) (by rw[← B];exact v) (by rw[e.2,← F,← ef];exact k)
   simp at d
  obtain⟨x,m,d⟩:=List.mem_flatMap.1 d
  split at d
  ·rename_i q
   simp at d;subst d
   exact .r8 (b:=g.b) m q.1 (by rw[q.2.1,← B];exact v) (by rw[e.2,q.2.2,← ef];exact k)
  simp at d
 split at d
 ·rename_i I
  have ef:=(kF_ C I).1;rcases List.mem_append.1 d with d|d
  ·split at d
   ·rename_i F
    simp at d;subst d
    exact .r9 (r:=f.r) (b:=f.b) (by rw[← ef];exact k) F
   simp at d
  obtain⟨x,m,d⟩:=List.mem_flatMap.1 d;unfold pe_ at d
  split at d
  ·rename_i e
   simp at d;subst d
   exact .r6 m e.1 zaN_
  split at d
  ·rename_i e
   simp at d;subst d
   exact .r8 (b:=f.b) m e.1 (by rw[e.2.1,← ef];exact k) e.2.2
  split at d
  ·rename_i e
   obtain⟨g,v,d⟩:=List.mem_flatMap.1 d;unfold tt_ at d
   split at d
   ·simp at d
   rename_i G
   have B:=(kF_ (E g v) (Decidable.not_not.1 G)).1;rcases List.mem_append.1 d with d|d
   ·split at d
    ·rename_i q
     simp at d;subst d
     exact .r7 (b:=f.b) m e (by rw[q.1,← ef];exact k) (by rw[← q.2.2,← q.2.1,← B];exact v)
    simp at d
   split at d
   ·rename_i q
    simp at d;subst d
    exact .r7 (b:=f.a) m e (by rw[← q.2.2,← q.2.1,← B];exact v) (by rw[q.1,← ef];exact k)
   simp at d
  simp at d
 rename_i H I
 have J:f.kind=3:=by omega
 have ef:=(ig_ C J).1;rcases List.mem_append.1 d with d|d
 ·obtain⟨g,v,d⟩:=List.mem_flatMap.1 d
  unfold pF_ at d
  split at d
  ·simp at d
  rename_i e
  simp only[not_or,Decidable.not_not]at e;have B:=(ig_ (E g v) e.1).1;rw[e.2.1,e.2.2]at B
  split at d
  ·rename_i hl
   simp at d;subst d
   exact .r12 (by rw[← ef];exact k) (by rw[← B];exact v) trivial hl
  rename_i hl
  simp at d;subst d
  exact .r13 (r:=f.r) (by rw[← ef];exact k) (by rw[← B];exact v) trivial (Int.not_le.1 hl)
 obtain⟨x,m,d⟩:=List.mem_flatMap.1 d;unfold sg_ at d
 split at d
 ·rename_i e
  simp at d;subst d
  exact .r14 m e.1 (by rw[e.2.1,← ef];exact k) e.2.2.1 e.2.2.2
 simp at d
theorem rX_:Cmpl p (·∈l) (fun _=>True) (·∈l) (·∈hf_ p l f) f:=by
 have k:∀ {a b y},f=ac_ a b→(y∈subS p l f)→y∈hf_ p l f:=fun e h=>by unfold hf_;rw[if_pos (by rw[e];rfl)];exact h
 have m:∀ {a r b y},f=am_ a r b→(y∈zi_ p l f)→y∈hf_ p l f:=fun e h=>by unfold hf_;rw[if_neg (by rw[e];simp[am_]),if_pos (by rw[e];rfl)];exact h
 have q:∀ {y},f.kind=3→(y∈vL_ p l f)→y∈hf_ p l f:=fun e h=>by unfold hf_;rw[if_neg (by rw[e];decide),if_neg (by rw[e];decide)];exact h
 refine⟨?_,?_,?_,?_,?_,?_,?_,?_,?_,?_,?_,?_,?_,?_,?_⟩
 ·intro z a d hk e
  refine k e (List.mem_append_left _ (List.mem_flatMap.2 ⟨z,d,?_⟩));rw[e,if_pos ⟨hk,rfl⟩];simp[ac_]
 ·intro z a d hk e h
  refine k e (List.mem_append_left _ (List.mem_flatMap.2 ⟨z,d,?_⟩));rw[e,if_neg zae_,if_pos ⟨hk,.inl ⟨rfl,h⟩⟩];simp[ac_]
 ·intro z a d hk e h
  refine k e (List.mem_append_left _ (List.mem_flatMap.2 ⟨z,d,?_⟩));rw[e,if_neg zae_,if_pos ⟨hk,.inr ⟨rfl,h⟩⟩];simp[ac_]
 ·intro z a d hk e
  refine k e (List.mem_append_left _ (List.mem_flatMap.2 ⟨z,d,?_⟩));rw[e,if_neg zae_,if_neg zae_,if_pos ⟨hk,rfl⟩];simp[ac_]
 ·intro z a b d hk e
  refine m e (List.mem_append_right _ (List.mem_flatMap.2 ⟨z,d,?_⟩));rw[e,pe_,if_pos ⟨hk,rfl⟩];simp[am_]
 ·intro z a b c d hk e h
  refine m e (List.mem_append_right _ (List.mem_flatMap.2 ⟨z,d,?_⟩));rw[e,pe_,if_neg zae_,if_neg zae_,if_pos hk];refine List.mem_flatMap.2 ⟨_,h,?_⟩;rw[tt_,if_neg (by simp[am_])];refine List.mem_append_left _ ?_;rw[if_pos ⟨rfl,rfl,rfl⟩];simp[am_]
 ·intro z a b c d hk e h
  refine m e (List.mem_append_right _ (List.mem_flatMap.2 ⟨z,d,?_⟩));rw[e,pe_,if_neg zae_,if_neg zae_,if_pos hk];refine List.mem_flatMap.2 ⟨_,h,?_⟩;rw[tt_,if_neg (by simp[am_])];refine List.mem_append_right _ ?_;rw[if_pos ⟨rfl,rfl,rfl⟩];simp[am_]
 ·intro z a b d hk e h
  refine m e (List.mem_append_right _ (List.mem_flatMap.2 ⟨z,d,?_⟩));rw[e,pe_,if_neg zae_,if_pos ⟨hk,rfl,h⟩];simp[am_]
 ·intro z a b d hk e h
  refine k e (List.mem_append_right _ (List.mem_flatMap.2 ⟨_,h,?_⟩));rw[subB,if_neg (by rw[e];simp[am_,ac_])];refine List.mem_append_right _ (List.mem_flatMap.2 ⟨z,d,?_⟩);rw[e,if_pos ⟨hk,rfl,rfl⟩];simp[am_]
 ·intro a r b e h
  refine m e (List.mem_append_left _ ?_);rw[e,if_pos (show ac_ (am_ a r b).b [33]∈l from h)];simp[am_]
 ·intro a r b e h
  refine k e (List.mem_append_right _ (List.mem_flatMap.2 ⟨_,h,?_⟩));rw[subB,if_neg (by rw[e];simp[am_,ac_])];refine List.mem_append_left _ ?_;rw[e,if_pos (show (ac_ b [33]).b=[33] from rfl)];simp[am_]
 ·intro z a d hk e
  refine k e (List.mem_append_left _ (List.mem_flatMap.2 ⟨z,d,?_⟩));rw[e,if_neg zae_,if_neg zae_,if_neg zae_,if_pos ⟨hk,rfl⟩];simp[ac_]
 ·intro y C B hk E v _ hl
  refine q C (List.mem_append_left _ (List.mem_flatMap.2 ⟨y,B,?_⟩));rw[pF_,if_neg (by simp[hk,E,v]),if_pos hl];simp
 ·intro y C B hk E v _ hl
  refine q C (List.mem_append_left _ (List.mem_flatMap.2 ⟨y,B,?_⟩));rw[pF_,if_neg (by simp[hk,E,v]),if_neg (Int.not_le.2 hl)];simp
 intro z a lo hi d hk e F G;refine q (by rw[e];rfl) (List.mem_append_right _ (List.mem_flatMap.2 ⟨z,d,?_⟩));rw[e,sg_,if_pos ⟨hk,rfl,F,G⟩];simp[ax_]
theorem zm_ {α β:Type} {g:α→List β} {n:Nat}:∀ (l:List α),(∀ x∈l,(g x).length≤n)→(l.flatMap g).length≤l.length*n
  | [],_=>by simp
  | x::l,h=>by
    have:=zm_ l fun y d=>h y zah_
    have e:=h x zC_;simp only[List.flatMap_cons,List.length_append,List.length_cons,Nat.add_mul,Nat.one_mul];omega
theorem rd_ (h:∀ y∈l,y.form) (y:Fc):y∈lp_ p A++l.flatMap (fun f=>hf_ p l f)↔ia_ p A (·∈l) y:=by
 constructor
 ·intro d
  rcases List.mem_append.1 d with d|d
  ·rw[pm_]at d;exact mt_ y d
  obtain⟨f,e,d⟩:=List.mem_flatMap.1 d;exact qB_ e h y d
 intro d;refine wO_ (c:=l) (good:=fun y=>y∈lp_ p A++l.flatMap (fun f=>hf_ p l f)) (fun y d=>List.mem_append_left _ (by rw[pm_];exact d)) (fun f e=>?_) d;exact rX_.up fun y d=>List.mem_append_right _ (List.mem_flatMap.2 ⟨f,e,d⟩)
end
def grow1 (p:List Pc) (A:List Str) (l:List Fc):List Fc:=(lp_ p A++l.flatMap (fun f=>hf_ p l f)).foldl sz_ l
def ol_ (p:List Pc) (A:List Str):Nat→List Fc
  | 0=>[]
  | n+1=>grow1 p A (ol_ p A n)
theorem nY_:∀ (d l:List Fc) (y:Fc),y∈d.foldl sz_ l↔y∈l∨y∈d
 | [],l,y=>by simp
 | x::d,l,y=>by
   rw[List.foldl_cons,nY_ d,ww_];simp only[List.mem_cons];constructor
   · rintro ((h|h)|h)
     · exact .inl h
     · exact .inr (.inl h)
     · exact .inr (.inr h)
   · rintro (h|h|h)
     · exact .inl (.inl h)
     · exact .inl (.inr h)
     · exact .inr h
theorem nX_:∀ (d:List Fc) {l:List Fc},Srt l→Srt (d.foldl sz_ l)
  | [],_,h=>h
  | x::d,_,h=>nX_ d (wv_ x h)
theorem rE_ (p:List Pc) (A:List Str):∀ n,Srt (ol_ p A n)
  | 0=>List.Pairwise.nil
  | n+1=>nX_ _ (rE_ p A n)
theorem ok_ {p:List Pc} {A:List Str} (e:∀ x∈p,x.vok):∀ n,∀ y∈ol_ p A n,Der p A y
 | 0,y,hy=>by simp[ol_]at hy
 | n+1,y,hy=>by
   have d:=ok_ (A:=A) e n;rcases (nY_ _ _ y).1 hy with h|h
   · exact d y h
   · exact Der.step (((rd_ (fun z k=>(d z k).form e) y).1 h).mono (fun x m=>⟨x,m,x.frm,rfl⟩) (fun _ h=>h) d (fun _ _ h=>h))
theorem rF_ {p:List Pc} {A:List Str} (d:∀ x∈p,x.vok) (n m:Nat) (e:((lp_ p A++(ol_ p A n).flatMap (fun f=>hf_ p (ol_ p A n) f)).all fun y=>decide (y∈ol_ p A n))=true) (hl:(ol_ p A n).length≤m):eJ_ p A m (some (ol_ p A n)):=by
  refine⟨rE_ p A n,fun y=>⟨ok_ d n y,fun h=>h.least fun z k=>?_⟩,hl⟩;exact of_decide_eq_true (List.all_eq_true.1 e z ((rd_ (fun w q=>(ok_ d n w q).form d) z).2 k))
end Go.Vs
