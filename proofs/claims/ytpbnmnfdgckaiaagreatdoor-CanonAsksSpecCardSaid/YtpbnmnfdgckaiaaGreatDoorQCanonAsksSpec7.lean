/-
  Part of the proof of the law CanonAsksSpec over this seat: the small logic, the data, the contracts of functions (no condition).
-/
import Derived.Test.YtpbnmnfdgckaiaaGreatDoorQCanonAsksSpec6
import Derived.Test.YtpbnmnfdgckaiaaGreatDoorQCanonAsksSpec2
set_option linter.unusedVariables false
set_option linter.unusedSimpArgs false
set_option linter.unusedSectionVars false
set_option maxHeartbeats 1000000
namespace Go.Vs
open Go Go.Sx
def Z_ (a b:Str):Fc:=⟨1,a,b,[],0,0⟩
def aa_ (a r b:Str):Fc:=⟨2,a,b,r,0,0⟩
def af_ (a r:Str) (lo hi:Int):Fc:=⟨3,a,[],r,lo,hi⟩
inductive One (p:List Pc) (A:List Str) (S:Fc→Prop) (M:Fc→Fc→Prop):Fc→Prop
  | r1 {a:Str} (h:a∈A):One p A S M (Z_ a a)
  | r2 {a:Str} (h:a∈A):One p A S M (Z_ a [42])
  | r10 {a:Str} {x:Pc} (hx:x∈p) (hk:x.kind=7) (h:a∈A):One p A S M (aa_ a x.r a)
  | r3 {a:Str} {x:Pc} (hx:x∈p) (hk:x.kind=1) (h:S (Z_ a x.a)):One p A S M (Z_ a x.c)
  | r4 {a:Str} {x:Pc} (hx:x∈p) (hk:x.kind=2) (h:S (Z_ a x.a)) (h':S (Z_ a x.b)):One p A S M (Z_ a x.c)
  | r5 {a:Str} {x:Pc} (hx:x∈p) (hk:x.kind=3) (h:S (Z_ a x.a)):One p A S M (aa_ a x.r x.c)
  | r6 {a b:Str} {x:Pc} (hx:x∈p) (hk:x.kind=5) (h:S (aa_ a x.r b)):One p A S M (aa_ a x.t b)
  | r7 {a b c:Str} {x:Pc} (hx:x∈p) (hk:x.kind=6) (h:S (aa_ a x.r b)) (h':S (aa_ b x.s c)):One p A S M (aa_ a x.t c)
  | r8 {a b:Str} {x:Pc} (hx:x∈p) (hk:x.kind=4) (h:S (aa_ a x.r b)) (h':S (Z_ b x.a)):One p A S M (Z_ a x.c)
  | r9 {a r b:Str} (h:S (aa_ a r b)) (h':S (Z_ b [33])):One p A S M (Z_ a [33])
  | r11 {a:Str} {x:Pc} (hx:x∈p) (hk:x.kind=8) (h:S (Z_ a x.a)):One p A S M (af_ a x.r x.lo x.hi)
  | r12 {a r:Str} {lo hi lo' hi':Int} (h:S (af_ a r lo hi)) (h':S (af_ a r lo' hi')) (hm:M (af_ a r lo hi) (af_ a r lo' hi')) (hl:max lo lo'≤min hi hi'):One p A S M (af_ a r (max lo lo') (min hi hi'))
  | r13 {a r:Str} {lo hi lo' hi':Int} (h:S (af_ a r lo hi)) (h':S (af_ a r lo' hi')) (hm:M (af_ a r lo hi) (af_ a r lo' hi')) (hl:min hi hi'<max lo lo'):One p A S M (Z_ a [33])
  | r14 {a:Str} {lo hi:Int} {x:Pc} (hx:x∈p) (hk:x.kind=9) (h:S (af_ a x.r lo hi)) (h1:x.lo≤lo) (h2:hi≤x.hi):One p A S M (Z_ a x.c)
abbrev hI_ (p:List Pc) (A:List Str) (S:Fc→Prop):Fc→Prop:=One p A S (fun _ _=>True)
theorem One.mono {p F:List Pc} {A B:List Str} {S G:Fc→Prop} {M E:Fc→Fc→Prop} (e:∀ x∈p,∃ y∈F,∃ n,{ y with frm:=n }=x) (q:∀ a∈A,a∈B) (hS:∀ y,S y→G y) (C:∀ x y,M x y→E x y) {y:Fc} (h:One p A S M y):One F B G E y:=by
  cases h with
  | r1 h=>exact .r1 (q _ h)
  | r2 h=>exact .r2 (q _ h)
  | r10 hx hk h=>obtain⟨z,d,n,rfl⟩:=e _ hx;exact One.r10 (x:=z) d hk (q _ h)
  | r3 hx hk h=>obtain⟨z,d,n,rfl⟩:=e _ hx;exact One.r3 (x:=z) d hk (hS _ h)
  | r4 hx hk h h'=>obtain⟨z,d,n,rfl⟩:=e _ hx;exact One.r4 (x:=z) d hk (hS _ h) (hS _ h')
  | r5 hx hk h=>obtain⟨z,d,n,rfl⟩:=e _ hx;exact One.r5 (x:=z) d hk (hS _ h)
  | r6 hx hk h=>obtain⟨z,d,n,rfl⟩:=e _ hx;exact One.r6 (x:=z) d hk (hS _ h)
  | r7 hx hk h h'=>obtain⟨z,d,n,rfl⟩:=e _ hx;exact One.r7 (x:=z) d hk (hS _ h) (hS _ h')
  | r8 hx hk h h'=>obtain⟨z,d,n,rfl⟩:=e _ hx;exact One.r8 (x:=z) d hk (hS _ h) (hS _ h')
  | r9 h h'=>exact .r9 (hS _ h) (hS _ h')
  | r11 hx hk h=>obtain⟨z,d,n,rfl⟩:=e _ hx;exact One.r11 (x:=z) d hk (hS _ h)
  | r12 h h' hm hl=>exact .r12 (hS _ h) (hS _ h') (C _ _ hm) hl
  | r13 h h' hm hl=>exact .r13 (hS _ h) (hS _ h') (C _ _ hm) hl
  | r14 hx hk h h1 h2=>obtain⟨z,d,n,rfl⟩:=e _ hx;exact One.r14 (x:=z) d hk (hS _ h) h1 h2
def Der (p:List Pc) (A:List Str) (y:Fc):Prop:=∀ T:Fc→Prop,(∀ y,hI_ p A T y→T y)→T y
theorem Der.step {p:List Pc} {A:List Str} {y:Fc} (h:hI_ p A (Der p A) y):Der p A y :=
  fun T d=>d y (h.mono (fun x e=>⟨x,e,x.frm,rfl⟩) (fun _ h=>h) (fun z q=>q T d) (fun _ _ h=>h))
theorem Der.mono {p e:List Pc} {A d:List Str} (q:∀ x∈p,∃ y∈e,∃ n,{ y with frm:=n }=x) (C:∀ a∈A,a∈d) {y:Fc} (h:Der p A y):Der e d y :=
  h _ fun _ B=>Der.step (B.mono q C (fun _ h=>h) (fun _ _ h=>h))
theorem Der.least {p:List Pc} {A:List Str} {T:Fc→Prop} (d:∀ y,hI_ p A T y→T y) {y:Fc} (h:Der p A y):T y:=h T d
structure Ky where
  kind:Int
  role:Str
  atom:Str
deriving DecidableEq
abbrev jD_:=Str×Str
def lat {K D:Type} [DecidableEq K] (l:List (K×D)) (k:K):List D:=(l.filter fun e=>decide (e.1=k)).map (·.2)
theorem bN_ {K D:Type} [DecidableEq K] {l:List (K×D)} {k:K} {d:D}:d∈lat l k↔(k,d)∈l:=by
  unfold lat;simp only[List.mem_map,List.mem_filter,decide_eq_true_eq];exact⟨fun⟨⟨a,b⟩,⟨y,e⟩,q⟩=>by subst e;subst q;exact y,fun h=>⟨(k,d),⟨h,rfl⟩,rfl⟩⟩
theorem ns_ {K D:Type} [DecidableEq K] (l m:List (K×D)) (k:K):lat (l++m) k=lat l k++lat m k:=by simp[lat]
theorem dB_ {K D:Type} [DecidableEq K] (l:List (K×D)) (k:K):(lat l k).length≤l.length:=by
  simp only[lat,List.length_map];exact List.length_filter_le _ _
def da_ (x:Pc):List (Ky×Pc) :=
  if x.kind=1∨x.kind=3∨x.kind=8 then [(⟨x.kind,[],x.a⟩,x)]
  else if x.kind=2 then if x.b≠x.a then [(⟨x.kind,[],x.a⟩,x),(⟨x.kind,[],x.b⟩,x)] else [(⟨x.kind,[],x.a⟩,x)]
  else if x.kind=4 then [(⟨x.kind,[],x.a⟩,x),(⟨x.kind,x.r,x.a⟩,x)]
  else if x.kind=5∨x.kind=9 then [(⟨x.kind,x.r,[]⟩,x)]
  else if x.kind=6 then [(⟨x.kind,x.r,[]⟩,x),(⟨x.kind,[],x.s⟩,x)]
  else []
def Pc.zf (x:Pc):Pc:={ x with frm:=0 }
def uniq:List Pc→List Pc→List Pc
  | l,[]=>l
  | l,x::r=>uniq (if x.zf∈l then l else l++[x.zf]) r
theorem jM_:∀ (r l:List Pc) (x:Pc),x∈uniq l r↔x∈l∨∃ y∈r,y.zf=x
 | [],l,x=>by simp[uniq]
 | y::r,l,x=>by
   rw[uniq,jM_ r]
   by_cases h:y.zf∈l
   · rw[if_pos h]
     constructor
     · rintro (d|⟨z,d,e⟩)
       · exact .inl d
       · exact .inr ⟨z,by simp[d],e⟩
     · rintro (d|⟨z,d,e⟩)
       · exact .inl d
       · rcases List.mem_cons.1 d with rfl|d
         · exact .inl (e▸h)
         · exact .inr ⟨z,d,e⟩
   · rw[if_neg h]
     simp only[List.mem_append,List.mem_cons,List.not_mem_nil,or_false];constructor
     · rintro ((d|d)|⟨z,d,e⟩)
       · exact .inl d
       · exact .inr ⟨y,.inl rfl,d.symm⟩
       · exact .inr ⟨z,.inr d,e⟩
     · rintro (d|⟨z,d|d,e⟩)
       · exact .inl (.inl d)
       · subst d;exact .inl (.inr e.symm)
       · exact .inr ⟨z,d,e⟩
theorem jN_:∀ (r l:List Pc),(uniq l r).length≤l.length+r.length
  | [],l=>by simp[uniq]
  | y::r,l=>by
    rw[uniq];have:=jN_ r (if y.zf∈l then l else l++[y.zf]);have d:(if y.zf∈l then l else l++[y.zf]).length≤l.length+1:=by split<;>simp
    simp only[List.length_cons];omega
def aM_ (ps:List Pc):List (Ky×Pc):=ps.flatMap da_
def aw_ (ps:List Pc):List Str:=(ps.filter fun x=>decide (x.kind=7)).map (·.r)
theorem vB_ (x:Pc):∀ e∈da_ x,e.2=x∧e.1.kind=x.kind:=by
  unfold da_
  repeat' split
  all_goals simp
theorem ec_ {x y:Pc} {k:Ky} (h:(k,y)∈da_ x):y=x∧k.kind=x.kind:=vB_ x _ h
def Pc.rok (x:Pc):Prop:=(x.kind=4∨x.kind=5∨x.kind=6∨x.kind=9∨x.kind=3∨x.kind=7∨x.kind=8→x.r≠[])∧(x.kind=6→x.s≠[]∧x.t≠[])∧(x.kind=5→x.t≠[])
theorem gF_ {ps:List Pc} {k:Ky} {x:Pc}:x∈lat (aM_ ps) k↔x∈ps∧(k,x)∈da_ x:=by
 rw[bN_,aM_,List.mem_flatMap];constructor
 ·rintro ⟨y,q,h⟩
  obtain⟨rfl,_⟩:=ec_ h;exact⟨q,h⟩
 rintro ⟨d,e⟩;exact⟨x,d,e⟩
theorem pm1 {ps:List Pc} {b:Str} {x:Pc}:x∈lat (aM_ ps) ⟨1,[],b⟩↔x∈ps∧x.kind=1∧x.a=b:=by
 rw[gF_];refine and_congr_right fun _=>⟨fun h=>?_,fun⟨h,d⟩=>?_⟩
 ·have hk:=(ec_ h).2
  simp only at hk;simp[da_,← hk]at h
  exact⟨hk.symm,h.symm⟩
 subst d;simp[da_,h]
theorem pm2 {ps:List Pc} {b:Str} {x:Pc}:x∈lat (aM_ ps) ⟨2,[],b⟩↔x∈ps∧x.kind=2∧(x.a=b∨x.b=b):=by
 rw[gF_];refine and_congr_right fun _=>⟨fun h=>?_,fun⟨h,d⟩=>?_⟩
 ·have hk:=(ec_ h).2
  simp only at hk;simp[da_,← hk]at h
  split at h
  ·simp at h;exact⟨hk.symm,.inl h.symm⟩
  simp at h;rcases h with h|h
  ·exact⟨hk.symm,.inl h.symm⟩
  exact⟨hk.symm,.inr h.symm⟩
 by_cases e:x.b=x.a
 ·have:x.a=b:=d.elim id (fun q=>e▸q)
  subst this;simp[da_,h,e]
 rcases d with rfl|rfl<;>simp[da_,h,e]
theorem pm3 {ps:List Pc} {b:Str} {x:Pc}:x∈lat (aM_ ps) ⟨3,[],b⟩↔x∈ps∧x.kind=3∧x.a=b:=by
 rw[gF_];refine and_congr_right fun _=>⟨fun h=>?_,fun⟨h,d⟩=>?_⟩
 ·have hk:=(ec_ h).2
  simp only at hk;simp[da_,← hk]at h
  exact⟨hk.symm,h.symm⟩
 subst d;simp[da_,h]
theorem pm8 {ps:List Pc} {b:Str} {x:Pc}:x∈lat (aM_ ps) ⟨8,[],b⟩↔x∈ps∧x.kind=8∧x.a=b:=by
 rw[gF_];refine and_congr_right fun _=>⟨fun h=>?_,fun⟨h,d⟩=>?_⟩
 ·have hk:=(ec_ h).2
  simp only at hk;simp[da_,← hk]at h
  exact⟨hk.symm,h.symm⟩
 subst d;simp[da_,h]
theorem pm5 {ps:List Pc} {r:Str} {x:Pc}:x∈lat (aM_ ps) ⟨5,r,[]⟩↔x∈ps∧x.kind=5∧x.r=r:=by
 rw[gF_];refine and_congr_right fun _=>⟨fun h=>?_,fun⟨h,d⟩=>?_⟩
 ·have hk:=(ec_ h).2
  simp only at hk;simp[da_,← hk]at h
  exact⟨hk.symm,h.symm⟩
 subst d;simp[da_,h]
theorem pm9 {ps:List Pc} {r:Str} {x:Pc}:x∈lat (aM_ ps) ⟨9,r,[]⟩↔x∈ps∧x.kind=9∧x.r=r:=by
 rw[gF_];refine and_congr_right fun _=>⟨fun h=>?_,fun⟨h,d⟩=>?_⟩
 ·have hk:=(ec_ h).2
  simp only at hk;simp[da_,← hk]at h
  exact⟨hk.symm,h.symm⟩
 subst d;simp[da_,h]
theorem pm6 {ps:List Pc} {r:Str} (d:r≠[]) {x:Pc}:x∈lat (aM_ ps) ⟨6,r,[]⟩↔x∈ps∧x.kind=6∧x.r=r:=by
 rw[gF_];refine and_congr_right fun q=>⟨fun h=>?_,fun⟨h,e⟩=>?_⟩
 ·have hk:=(ec_ h).2
  simp only at hk;simp[da_,← hk,d]at h
  exact⟨hk.symm,h.symm⟩
 subst e;simp[da_,h]
theorem pm6' {ps:List Pc} {s:Str} {x:Pc} (d:s≠[]):x∈lat (aM_ ps) ⟨6,[],s⟩↔x∈ps∧x.kind=6∧x.s=s:=by
 rw[gF_];refine and_congr_right fun q=>⟨fun h=>?_,fun⟨h,e⟩=>?_⟩
 ·have hk:=(ec_ h).2
  simp only at hk;simp[da_,← hk,d]at h
  exact⟨hk.symm,h.symm⟩
 subst e;simp[da_,h]
theorem pm4 {ps:List Pc} (e:∀ x∈ps,x.rok) {b:Str} {x:Pc}:x∈lat (aM_ ps) ⟨4,[],b⟩↔x∈ps∧x.kind=4∧x.a=b:=by
 rw[gF_];refine and_congr_right fun d=>⟨fun h=>?_,fun⟨h,y⟩=>?_⟩
 ·have hk:=(ec_ h).2
  simp only at hk;have B:=(e x d).1 (.inl hk.symm);simp[da_,← hk]at h
  refine⟨hk.symm,h.elim (fun q=>q.symm) (fun q=>absurd q.1 B)⟩
 subst y;simp[da_,h]
theorem pm4' {ps:List Pc} {r b:Str} (e:r≠[]) {x:Pc}:x∈lat (aM_ ps) ⟨4,r,b⟩↔x∈ps∧x.kind=4∧x.r=r∧x.a=b:=by
 rw[gF_];refine and_congr_right fun y=>⟨fun h=>?_,fun⟨h,q,d⟩=>?_⟩
 ·have hk:=(ec_ h).2
  simp only at hk;simp[da_,← hk,e]at h
  exact⟨hk.symm,h.1.symm,h.2.symm⟩
 subst q d;simp[da_,h]
structure Ix where
  above:List (Str×Str)
  under:List (Str×Str)
  frm:List (jD_×Str)
  into:List (jD_×Str)
  ranges:List (jD_×Fc)
  firms:List (jD_×Fc)
def Ix.nil:Ix:=⟨[],[],[],[],[],[]⟩
def Ix.add (x:Ix) (firm:Bool) (f:Fc):Ix :=
  if f.kind=1 then { x with above:=x.above++[(f.a,f.b)] }
  else if f.kind=2 then { x with under:=x.under++[(f.b,f.a)],frm:=x.frm++[((f.a,f.r),f.b)],into:=x.into++[((f.b,f.r),f.a)] }
  else if f.kind=3 then { x with ranges:=x.ranges++[((f.a,f.r),f)],firms:=if firm then x.firms++[((f.a,f.r),f)] else x.firms }
  else x
structure Ix.of (x:Ix) (S Fm:Fc→Prop):Prop where
  above:∀ a b,(a,b)∈x.above↔∃ f,S f∧f.kind=1∧f.a=a∧f.b=b
  under:∀ b a,(b,a)∈x.under↔∃ f,S f∧f.kind=2∧f.a=a∧f.b=b
  frm:∀ a r b,((a,r),b)∈x.frm↔∃ f,S f∧f.kind=2∧f.a=a∧f.r=r∧f.b=b
  into:∀ a r b,((b,r),a)∈x.into↔∃ f,S f∧f.kind=2∧f.a=a∧f.r=r∧f.b=b
  ranges:∀ a r f,((a,r),f)∈x.ranges↔S f∧f.kind=3∧f.a=a∧f.r=r
  firms:∀ a r f,((a,r),f)∈x.firms↔S f∧Fm f∧f.kind=3∧f.a=a∧f.r=r
theorem Ix.of_nil (Fm:Fc→Prop):Ix.nil.of (fun _=>False) Fm:=by
  constructor<;>simp[Ix.nil]
theorem Ix.of_add {x:Ix} {S Fm:Fc→Prop} (h:x.of S Fm) (f:Fc) {b:Bool} (E:b=true↔Fm f):(x.add b f).of (fun y=>S y∨y=f) Fm:=by
 have d:∀ (Q:Fc→Prop),(∃ y,(S y∨y=f)∧Q y)↔(∃ y,S y∧Q y)∨Q f:=fun Q=>by
   constructor
   · rintro ⟨y,C|rfl,B⟩
     · exact .inl ⟨y,C,B⟩
     · exact .inr B
   · rintro (⟨y,C,B⟩|B)
     · exact⟨y,.inl C,B⟩
     · exact⟨f,.inr rfl,B⟩
 unfold Ix.add
 split
 ·rename_i hk
  constructor
  ·intro a c;rw[d,← h.above];simp[hk];exact or_congr_right ⟨fun⟨p,q⟩=>⟨p.symm,q.symm⟩,fun⟨p,q⟩=>⟨p.symm,q.symm⟩⟩
  ·intro a c;rw[d,← h.under];simp[hk]
  ·intro a r c;rw[d,← h.frm];simp[hk]
  ·intro a r c;rw[d,← h.into];simp[hk]
  ·intro a r y;rw[h.ranges];constructor
   ·exact fun q=>⟨.inl q.1,q.2⟩
   rintro ⟨q|rfl,e⟩
   ·exact⟨q,e⟩
   rw[hk]at e;exact absurd e.1 ze_
  intro a r y;rw[h.firms];constructor
  ·exact fun q=>⟨.inl q.1,q.2⟩
  rintro ⟨q|rfl,e⟩
  ·exact⟨q,e⟩
  rw[hk]at e;exact absurd e.2.1 ze_
 split
 ·rename_i hk
  constructor
  ·intro a c;rw[d,← h.above];simp[hk]
  ·intro a c;rw[d,← h.under];simp[hk];exact or_congr_right ⟨fun⟨p,q⟩=>⟨q.symm,p.symm⟩,fun⟨p,q⟩=>⟨q.symm,p.symm⟩⟩
  ·intro a r c;rw[d,← h.frm];simp[hk];exact or_congr_right ⟨fun⟨⟨p,q⟩,s⟩=>⟨p.symm,q.symm,s.symm⟩,fun⟨p,q,s⟩=>⟨⟨p.symm,q.symm⟩,s.symm⟩⟩
  ·intro a r c;rw[d,← h.into];simp[hk];exact or_congr_right ⟨fun⟨⟨p,q⟩,s⟩=>⟨s.symm,q.symm,p.symm⟩,fun⟨p,q,s⟩=>⟨⟨s.symm,q.symm⟩,p.symm⟩⟩
  ·intro a r y;rw[h.ranges];constructor
   ·exact fun q=>⟨.inl q.1,q.2⟩
   rintro ⟨q|rfl,e⟩
   ·exact⟨q,e⟩
   rw[hk]at e;exact absurd e.1 ze_
  intro a r y;rw[h.firms];constructor
  ·exact fun q=>⟨.inl q.1,q.2⟩
  rintro ⟨q|rfl,e⟩
  ·exact⟨q,e⟩
  rw[hk]at e;exact absurd e.2.1 ze_
 split
 ·rename_i hk
  constructor
  ·intro a c;rw[d,← h.above];simp[hk]
  ·intro a c;rw[d,← h.under];simp[hk]
  ·intro a r c;rw[d,← h.frm];simp[hk]
  ·intro a r c;rw[d,← h.into];simp[hk]
  ·intro a r y
   simp only[List.mem_append,List.mem_singleton,h.ranges,Prod.mk.injEq];constructor
   ·rintro (⟨q,e⟩|⟨⟨rfl,rfl⟩,rfl⟩)
    ·exact⟨.inl q,e⟩
    exact⟨.inr rfl,hk,rfl,rfl⟩
   rintro ⟨q|rfl,e,rfl,rfl⟩
   ·exact .inl ⟨q,e,rfl,rfl⟩
   exact .inr ⟨⟨rfl,rfl⟩,rfl⟩
  intro a r y;cases b with
  | false =>
    simp only[Bool.false_eq_true,if_false,h.firms];constructor
    · exact fun q=>⟨.inl q.1,q.2⟩
    · rintro ⟨q|rfl,e⟩
      · exact⟨q,e⟩
      · exact absurd (E.2 e.1) ze_
  | true =>
    simp only[if_true,List.mem_append,List.mem_singleton,h.firms,Prod.mk.injEq];constructor
    · rintro (⟨q,e⟩|⟨⟨rfl,rfl⟩,rfl⟩)
      · exact⟨.inl q,e⟩
      · exact⟨.inr rfl,E.1 rfl,hk,rfl,rfl⟩
    · rintro ⟨q|rfl,e,G,rfl,rfl⟩
      · exact .inl ⟨q,e,G,rfl,rfl⟩
      · exact .inr ⟨⟨rfl,rfl⟩,rfl⟩
 rename_i C B F
 constructor
 ·intro a c;rw[d,← h.above];simp[C]
 ·intro a c;rw[d,← h.under];simp[B]
 ·intro a r c;rw[d,← h.frm];simp[B]
 ·intro a r c;rw[d,← h.into];simp[B]
 ·intro a r y;rw[h.ranges];constructor
  ·exact fun q=>⟨.inl q.1,q.2⟩
  rintro ⟨q|rfl,e⟩
  ·exact⟨q,e⟩
  exact absurd e.1 F
 intro a r y;rw[h.firms];constructor
 ·exact fun q=>⟨.inl q.1,q.2⟩
 rintro ⟨q|rfl,e⟩
 ·exact⟨q,e⟩
 exact absurd e.2.1 F
theorem Ix.of_firm {x:Ix} {S Fm d:Fc→Prop} (h:x.of S Fm) (e:∀ y,S y→(Fm y↔d y)):x.of S d :=
  ⟨h.above,h.under,h.frm,h.into,h.ranges,fun a r f=>by rw[h.firms];exact and_congr_right fun q=>by rw[e f q]⟩
section
variable (pm:List (Ky×Pc)) (x:Ix) (f:Fc)
def gW_:List Fc:=(lat pm ⟨1,[],f.b⟩).map fun y=>Z_ f.a y.c
def on_:List Fc:=(lat pm ⟨3,[],f.b⟩).map fun y=>aa_ f.a y.r y.c
def gU_:List Fc:=(lat pm ⟨5,f.r,[]⟩).map fun y=>aa_ f.a y.t f.b
def fJ_:List Fc:=(lat pm ⟨6,f.r,[]⟩).flatMap fun y=>(lat x.frm (f.b,y.s)).map fun c=>aa_ f.a y.t c
def hG_:List Fc:=(lat pm ⟨6,[],f.r⟩).flatMap fun y=>(lat x.into (f.a,y.r)).map fun a=>aa_ a y.t f.b
def fM_:List Fc:=(lat x.above f.b).flatMap fun c=>(lat pm ⟨4,f.r,c⟩).map fun y=>Z_ f.a y.c
def fN_:List Fc:=(lat pm ⟨4,[],f.b⟩).flatMap fun y=>(lat x.into (f.a,y.r)).map fun a=>Z_ a y.c
def dw_:List Fc:=if f.b=[33] then (lat x.under f.a).map fun a=>Z_ a [33] else []
def ua_:List Fc:=((lat pm ⟨9,f.r,[]⟩).filter fun y=>decide (y.lo≤f.lo∧f.hi≤y.hi)).map fun y=>Z_ f.a y.c
def dH_ (y:Fc):Fc:=af_ f.a f.r (max f.lo y.lo) (min f.hi y.hi)
def eO_ (y:Fc):Bool:=decide (min f.hi y.hi<max f.lo y.lo)
def eA_ (firm:Bool):List Fc:=if firm then lat x.ranges (f.a,f.r) else lat x.firms (f.a,f.r)
def gv_ (l:List Fc):List Fc:=(l.filter fun y=>!eO_ f y&&decide (dH_ f y≠f∧dH_ f y≠y)).map (dH_ f)
def hL_ (l:List Fc):List Fc:=if l.any (eO_ f) then [Z_ f.a [33]] else []
end
section
variable (stp:Fc→List Fc→List Fc) (kof:List Fc→List Fc)
def emits (L:List Fc) (s:List Fc):List Fc:=L.foldl (fun s y=>stp y s) s
def eq_ (f:Fc) (l:List Pc) (s:List Fc):List Fc:=l.foldl (fun s y=>if Z_ f.a y.a∈kof s∧Z_ f.a y.b∈kof s then stp (Z_ f.a y.c) s else s) s
def ch_ (f:Fc) (l:List Pc) (s:List Fc×List Fc):List Fc×List Fc:=l.foldl (fun s y=>(stp (af_ f.a y.r y.lo y.hi) s.1,if af_ f.a y.r y.lo y.hi∈kof s.1 then s.2 else af_ f.a y.r y.lo y.hi::s.2)) s
end
theorem aF_ (stp:Fc→List Fc→List Fc) (L M:List Fc) (s:List Fc):emits stp (L++M) s=emits stp M (emits stp L s):=by simp[emits]
structure Grows (stp:Fc→List Fc→List Fc) (kof:List Fc→List Fc):Prop where
  up:∀ y s z,z∈kof s→z∈kof (stp y s)
theorem Grows.emits {stp:Fc→List Fc→List Fc} {kof:List Fc→List Fc} (h:Grows stp kof):∀ (L s:List Fc) (z:Fc),z∈kof s→z∈kof (emits stp L s)
  | [],_,_,hz=>hz
  | y::L,s,z,hz=>h.emits L _ z (h.up y s z hz)
theorem fu_ {stp:Fc→List Fc→List Fc} {kof:List Fc→List Fc} (h:Grows stp kof) (f:Fc):∀ (l:List Pc) (s:List Fc),
    ∃ L,eq_ stp kof f l s=emits stp L s∧(∀ y∈L,∃ x∈l,y=Z_ f.a x.c∧Z_ f.a x.a∈kof (eq_ stp kof f l s)∧Z_ f.a x.b∈kof (eq_ stp kof f l s))∧(∀ x∈l,Z_ f.a x.a∈kof s→Z_ f.a x.b∈kof s→Z_ f.a x.c∈L)
  | [],s=>⟨[],rfl,by simp,by simp⟩
  | x::l,s=>by
    by_cases B:Z_ f.a x.a∈kof s∧Z_ f.a x.b∈kof s
    · obtain⟨L,E,I,H⟩:=fu_ h f l (stp (Z_ f.a x.c) s)
      have e:eq_ stp kof f (x::l) s=eq_ stp kof f l (stp (Z_ f.a x.c) s):=by simp only[eq_,List.foldl_cons,if_pos B]
      refine⟨Z_ f.a x.c::L,by rw[e,E];rfl,fun y C=>?_,fun z d F G=>?_⟩
      · rw[e]
        rcases List.mem_cons.1 C with rfl|C
        · refine⟨x,by simp,rfl,?_,?_⟩<;>rw[E]<;>exact h.emits L _ _ (h.up _ _ _ (by first|exact B.1|exact B.2))
        · obtain⟨z,d,q⟩:=I y C
          exact⟨z,by simp[d],q⟩
      · rcases List.mem_cons.1 d with rfl|d
        · simp
        · exact List.mem_cons_of_mem _ (H z d (h.up _ _ _ F) (h.up _ _ _ G))
    · obtain⟨L,E,I,H⟩:=fu_ h f l s
      have e:eq_ stp kof f (x::l) s=eq_ stp kof f l s:=by simp only[eq_,List.foldl_cons,if_neg B]
      refine⟨L,by rw[e,E],fun y C=>?_,fun z d F G=>?_⟩
      · rw[e]
        obtain⟨z,d,q⟩:=I y C;exact⟨z,by simp[d],q⟩
      · rcases List.mem_cons.1 d with rfl|d
        · exact absurd ⟨F,G⟩ B
        · exact H z d F G
theorem eX_ (stp:Fc→List Fc→List Fc) (kof:List Fc→List Fc) (f:Fc):∀ (l:List Pc) (s fm:List Fc),(ch_ stp kof f l (s,fm)).1=emits stp (l.map fun y=>af_ f.a y.r y.lo y.hi) s
  | [],_,_=>rfl
  | x::l,s,fm=>by
    simp only[ch_,List.foldl_cons,List.map_cons,emits];exact eX_ stp kof f l _ _
theorem hi_ {stp:Fc→List Fc→List Fc} {kof:List Fc→List Fc} (h:Grows stp kof) (f:Fc):∀ (l:List Pc) (s fm:List Fc) (z:Fc),z∈(ch_ stp kof f l (s,fm)).2↔z∈fm∨(z ∉ kof s∧z∈(ch_ stp kof f l (s,fm)).2)
 | [],s,fm,z=>by simp[ch_]
 | x::l,s,fm,z=>by
   have B:=hi_ h f l (stp (af_ f.a x.r x.lo x.hi) s) (if af_ f.a x.r x.lo x.hi∈kof s then fm else af_ f.a x.r x.lo x.hi::fm) z;have e:ch_ stp kof f (x::l) (s,fm)=ch_ stp kof f l (stp (af_ f.a x.r x.lo x.hi) s,if af_ f.a x.r x.lo x.hi∈kof s then fm else af_ f.a x.r x.lo x.hi::fm):=rfl;rw[e];constructor
   · intro y
     rcases B.1 y with d|d
     · split at d
       · exact .inl d
       · rename_i C
         rcases List.mem_cons.1 d with rfl|d
         · exact .inr ⟨C,y⟩
         · exact .inl d
     · exact .inr ⟨fun q=>d.1 (h.up _ _ _ q),y⟩
   · rintro (d|d)
     · exact B.2 (.inl (by split<;>simp[d]))
     · exact d.2
theorem mz_ {stp:Fc→List Fc→List Fc} {kof:List Fc→List Fc} (f:Fc):∀ (l:List Pc) (s fm:List Fc) (z:Fc),z∈(ch_ stp kof f l (s,fm)).2→z∈fm∨∃ y∈l,z=af_ f.a y.r y.lo y.hi
 | [],s,fm,z,hz=>.inl hz
 | x::l,s,fm,z,hz=>by
   have e:ch_ stp kof f (x::l) (s,fm)=ch_ stp kof f l (stp (af_ f.a x.r x.lo x.hi) s,if af_ f.a x.r x.lo x.hi∈kof s then fm else af_ f.a x.r x.lo x.hi::fm):=rfl;rw[e]at hz;rcases mz_ f l _ _ z hz with d|⟨y,h,d⟩
   · split at d
     · exact .inl d
     · rcases List.mem_cons.1 d with rfl|d
       · exact .inr ⟨x,by simp,rfl⟩
       · exact .inl d
   · exact .inr ⟨y,by simp[h],d⟩
def Fc.form (y:Fc):Prop:=(∃ a b,y=Z_ a b)∨(∃ a r b,y=aa_ a r b∧r≠[])∨(∃ a r lo hi,y=af_ a r lo hi∧r≠[]∧-1099511627776≤lo∧lo≤hi∧hi≤1099511627776)
structure Pc.vok (x:Pc):Prop where
  rok:x.rok
  num:x.kind=8∨x.kind=9→-1099511627776≤x.lo∧x.lo≤x.hi∧x.hi≤1099511627776
theorem eB_ (a b:Str):(Z_ a b).form:=.inl ⟨a,b,rfl⟩
theorem nD_ {f:Fc} (h:f.form) (hk:f.kind=1):f=Z_ f.a f.b:=by
 rcases h with⟨a,b,rfl⟩|⟨a,r,b,rfl,_⟩|⟨a,r,lo,hi,rfl,_⟩
 ·rfl
 ·simp[aa_]at hk
 simp[af_]at hk
theorem kk_ {f:Fc} (h:f.form) (hk:f.kind=2):f=aa_ f.a f.r f.b∧f.r≠[]:=by
 rcases h with⟨a,b,rfl⟩|⟨a,r,b,rfl,h⟩|⟨a,r,lo,hi,rfl,_⟩
 ·simp[Z_]at hk
 ·exact⟨rfl,h⟩
 simp[af_]at hk
theorem hO_ {f:Fc} (h:f.form) (hk:f.kind=3):f=af_ f.a f.r f.lo f.hi∧f.r≠[]∧-1099511627776≤f.lo∧f.lo≤f.hi∧f.hi≤1099511627776:=by
 rcases h with⟨a,b,rfl⟩|⟨a,r,b,rfl,_⟩|⟨a,r,lo,hi,rfl,h⟩
 ·simp[Z_]at hk
 ·simp[aa_]at hk
 exact⟨rfl,h⟩
theorem iU_ {f:Fc} (h:f.form):f.kind=1∨f.kind=2∨f.kind=3:=by
  rcases h with⟨a,b,rfl⟩|⟨a,r,b,rfl,h⟩|⟨a,r,lo,hi,rfl,_⟩<;>simp[Z_,aa_,af_]
theorem One.form {p:List Pc} {A:List Str} {S:Fc→Prop} {M:Fc→Fc→Prop} (e:∀ x∈p,x.vok) (hS:∀ y,S y→y.form) {y:Fc} (h:One p A S M y):y.form:=by
  have q:∀ {a r b:Str},S (aa_ a r b)→r≠[]:=fun h=>(kk_ (hS _ h) rfl).2
  have d:∀ {a r:Str} {lo hi:Int},S (af_ a r lo hi)→r≠[]∧-1099511627776≤lo∧lo≤hi∧hi≤1099511627776:=fun h=>(hO_ (hS _ h) rfl).2
  cases h with
  | r1 _=>exact eB_ _ _
  | r2 _=>exact eB_ _ _
  | r10 hx hk _=>exact .inr (.inl ⟨_,_,_,rfl,(e _ hx).rok.1 zQ_⟩)
  | r3 _ _ _=>exact eB_ _ _
  | r4 _ _ _ _=>exact eB_ _ _
  | r5 hx hk _=>exact .inr (.inl ⟨_,_,_,rfl,(e _ hx).rok.1 zQ_⟩)
  | r6 hx hk _=>exact .inr (.inl ⟨_,_,_,rfl,(e _ hx).rok.2.2 hk⟩)
  | r7 hx hk _ _=>exact .inr (.inl ⟨_,_,_,rfl,((e _ hx).rok.2.1 hk).2⟩)
  | r8 _ _ _ _=>exact eB_ _ _
  | r9 _ _=>exact eB_ _ _
  | r11 hx hk _=>exact .inr (.inr ⟨_,_,_,_,rfl,(e _ hx).rok.1 zQ_,(e _ hx).num (.inl hk)⟩)
  | r12 h h' _ hl=>exact .inr (.inr ⟨_,_,_,_,rfl,(d h).1,by have:=d h;omega,hl,by have:=d h;omega⟩)
  | r13 _ _ _ _=>exact eB_ _ _
  | r14 _ _ _ _ _=>exact eB_ _ _
section
variable {ps:List Pc} {A:List Str} {x:Ix} {S Fm:Fc→Prop} {f:Fc} {kn:List Fc}
theorem od_ (hk:f.kind=1) (h:f.form) (d:f∈kn):∀ y∈gW_ (aM_ ps) f,hI_ ps A (·∈kn) y:=by
  intro y E;obtain⟨z,B,rfl⟩:=List.mem_map.1 E;obtain⟨q,C,e⟩:=pm1.1 B;exact .r3 q C zaK_
theorem rI_ (hk:f.kind=1) (h:f.form) (d:f∈kn):∀ y∈on_ (aM_ ps) f,hI_ ps A (·∈kn) y:=by
  intro y E;obtain⟨z,B,rfl⟩:=List.mem_map.1 E;obtain⟨q,C,e⟩:=pm3.1 B;exact .r5 q C zaK_
theorem qc_ (hk:f.kind=1) (h:f.form) (d:f∈kn):∀ y∈(lat (aM_ ps) ⟨8,[],f.b⟩).map (fun y=>af_ f.a y.r y.lo y.hi),hI_ ps A (·∈kn) y:=by
  intro y E;obtain⟨z,B,rfl⟩:=List.mem_map.1 E;obtain⟨q,C,e⟩:=pm8.1 B;exact .r11 q C zaK_
theorem oa_ (hk:f.kind=2) (h:f.form) (d:f∈kn):∀ y∈gU_ (aM_ ps) f,hI_ ps A (·∈kn) y:=by
  intro y E;obtain⟨z,B,rfl⟩:=List.mem_map.1 E;obtain⟨q,C,e⟩:=pm5.1 B;exact .r6 q C (by rw[e,← (kk_ h hk).1];exact d)
theorem mh_ {hS:∀ y,S y→y.form} {a r b:Str} (h:∃ g,S g∧g.kind=2∧g.a=a∧g.r=r∧g.b=b):S (aa_ a r b):=by
  obtain⟨g,d,e,rfl,rfl,rfl⟩:=h;rw[← (kk_ (hS g d) e).1];exact d
theorem ix_sub {hS:∀ y,S y→y.form} {a b:Str} (h:∃ g,S g∧g.kind=1∧g.a=a∧g.b=b):S (Z_ a b):=by
  obtain⟨g,d,e,rfl,rfl⟩:=h;rw[← nD_ (hS g d) e];exact d
theorem rq_ (I:x.of S Fm) (hS:∀ y,S y→y.form) (h:∀ y,S y→y∈kn) (hk:f.kind=2) (J:f.form) (q:f∈kn):∀ y∈fJ_ (aM_ ps) x f++hG_ (aM_ ps) x f,hI_ ps A (·∈kn) y:=by
 intro y d;obtain⟨e,H⟩:=kk_ J hk;rcases List.mem_append.1 d with d|d
 ·obtain⟨z,C,d⟩:=List.mem_flatMap.1 d
  obtain⟨c,E,rfl⟩:=List.mem_map.1 d;obtain⟨B,G,F⟩:=(pm6 H).1 C;exact .r7 B G (by rw[F,← e];exact q) (h _ (mh_ (hS:=hS) ((I.frm _ _ _).1 (bN_.1 E))))
 obtain⟨z,C,d⟩:=List.mem_flatMap.1 d;obtain⟨c,E,rfl⟩:=List.mem_map.1 d;obtain⟨B,G,F⟩:=(pm6' H).1 C;exact .r7 B G (h _ (mh_ (hS:=hS) ((I.into _ _ _).1 (bN_.1 E)))) (by rw[F,← e];exact q)
theorem nG_ (J:x.of S Fm) (hS:∀ y,S y→y.form) (h:∀ y,S y→y∈kn) (hk:f.kind=2) (B:f.form) (q:f∈kn):∀ y∈fM_ (aM_ ps) x f,hI_ ps A (·∈kn) y:=by
  intro y d;obtain⟨e,F⟩:=kk_ B hk;obtain⟨c,G,d⟩:=List.mem_flatMap.1 d;obtain⟨z,E,rfl⟩:=List.mem_map.1 d;obtain⟨C,K,I,H⟩:=(pm4' F).1 E;exact .r8 (b:=f.b) C K (by rw[I,← e];exact q) (by rw[H];exact h _ (ix_sub (hS:=hS) ((J.above _ _).1 (bN_.1 G))))
theorem nH_ (C:∀ x∈ps,x.vok) (h:x.of S Fm) (hS:∀ y,S y→y.form) (e:∀ y,S y→y∈kn) (hk:f.kind=1) (B:f.form) (q:f∈kn):∀ y∈fN_ (aM_ ps) x f,hI_ ps A (·∈kn) y:=by
  intro y d;obtain⟨z,F,d⟩:=List.mem_flatMap.1 d;obtain⟨c,G,rfl⟩:=List.mem_map.1 d;obtain⟨E,I,H⟩:=(pm4 (fun x h=>(C x h).rok)).1 F;exact .r8 (b:=f.a) E I (e _ (mh_ (hS:=hS) ((h.into _ _ _).1 (bN_.1 G)))) (by rw[H,← nD_ B hk];exact q)
theorem lZ_ (H:x.of S Fm) (hS:∀ y,S y→y.form) (e:∀ y,S y→y∈kn) (hk:f.kind=1) (q:f.form) (h:f∈kn):∀ y∈dw_ x f,hI_ ps A (·∈kn) y:=by
 intro y d;unfold dw_ at d
 split at d
 ·rename_i F
  obtain⟨a,C,rfl⟩:=List.mem_map.1 d;obtain⟨g,B,I,G,E⟩:=(H.under _ _).1 (bN_.1 C);exact .r9 (r:=g.r) (e _ (mh_ (hS:=hS) ⟨g,B,I,G,rfl,E⟩)) (by rw[← F,← nD_ q hk];exact h)
 simp at d
theorem lY_ (hk:f.kind=2) (e:f.form) (d:f∈kn) (h:Z_ f.b [33]∈kn):hI_ ps A (·∈kn) (Z_ f.a [33]) :=
  .r9 (r:=f.r) (b:=f.b) (by rw[← (kk_ e hk).1];exact d) h
theorem tZ_ (hk:f.kind=3) (B:f.form) (h:f∈kn):∀ y∈ua_ (aM_ ps) f,hI_ ps A (·∈kn) y:=by
  intro y F;obtain⟨z,e,rfl⟩:=List.mem_map.1 F;obtain⟨e,d⟩:=List.mem_filter.1 e;obtain⟨C,E,q⟩:=pm9.1 e;have d:=of_decide_eq_true d;exact .r14 C E (by rw[q,← (hO_ B hk).1];exact h) d.1 d.2
theorem kO_ (e:x.of S Fm) {firm:Bool} {y:Fc} (d:y∈eA_ x f firm):S y∧y.kind=3∧y.a=f.a∧y.r=f.r:=by
 unfold eA_ at d
 split at d
 ·exact (e.ranges _ _ _).1 (bN_.1 d)
 have:=(e.firms _ _ _).1 (bN_.1 d);exact⟨this.1,this.2.2⟩
theorem rZ_ (J:x.of S Fm) (hS:∀ y,S y→y.form) (C:∀ y,S y→y∈kn) (hk:f.kind=3) (K:f.form) (E:f∈kn) {firm:Bool}:∀ y∈gv_ f (eA_ x f firm)++hL_ f (eA_ x f firm),hI_ ps A (·∈kn) y:=by
 intro y d;have e:=(hO_ K hk).1;rcases List.mem_append.1 d with d|d
 ·obtain⟨z,q,rfl⟩:=List.mem_map.1 d
  obtain⟨q,F⟩:=List.mem_filter.1 q;obtain⟨h,I,H,G⟩:=kO_ J q;simp only[eO_,Bool.and_eq_true,Bool.not_eq_true',decide_eq_false_iff_not,Int.not_lt]at F;have B:=(hO_ (hS z h) I).1;rw[H,G]at B;exact .r12 (by rw[← e];exact E) (by rw[← B];exact C z h) trivial F.1
 unfold hL_ at d
 split at d
 ·rename_i L
  obtain⟨z,q,F⟩:=List.any_eq_true.1 L;obtain⟨h,I,H,G⟩:=kO_ J q;have B:=(hO_ (hS z h) I).1;rw[H,G]at B;simp only[List.mem_singleton]at d;subst d;exact .r13 (r:=f.r) (by rw[← e];exact E) (by rw[← B];exact C z h) trivial (by simpa [eO_] using F)
 simp at d
theorem rj_ {z:Pc} {a:Str} (d:z∈ps) (hk:z.kind=1):Z_ a z.c∈gW_ (aM_ ps) (Z_ a z.a) :=
  List.mem_map.2 ⟨z,pm1.2 ⟨d,hk,rfl⟩,rfl⟩
theorem vf_ {z:Pc} {a:Str} (d:z∈ps) (hk:z.kind=3):aa_ a z.r z.c∈on_ (aM_ ps) (Z_ a z.a) :=
  List.mem_map.2 ⟨z,pm3.2 ⟨d,hk,rfl⟩,rfl⟩
theorem tC_ {z:Pc} {a:Str} (d:z∈ps) (hk:z.kind=8):af_ a z.r z.lo z.hi∈(lat (aM_ ps) ⟨8,[],(Z_ a z.a).b⟩).map (fun y=>af_ (Z_ a z.a).a y.r y.lo y.hi) :=
  List.mem_map.2 ⟨z,pm8.2 ⟨d,hk,rfl⟩,rfl⟩
theorem qV_ {z:Pc} {a b:Str} (d:z∈ps) (hk:z.kind=5):aa_ a z.t b∈gU_ (aM_ ps) (aa_ a z.r b) :=
  List.mem_map.2 ⟨z,pm5.2 ⟨d,hk,rfl⟩,rfl⟩
theorem st_ (e:x.of S Fm) (q:∀ x∈ps,x.vok) {z:Pc} {a b c:Str} (d:z∈ps) (hk:z.kind=6) (h:S (aa_ b z.s c)):aa_ a z.t c∈fJ_ (aM_ ps) x (aa_ a z.r b) :=
  List.mem_flatMap.2 ⟨z,(pm6 ((q z d).rok.1 zQ_)).2 ⟨d,hk,rfl⟩,List.mem_map.2 ⟨c,bN_.2 ((e.frm _ _ _).2 ⟨_,h,rfl,rfl,rfl,rfl⟩),rfl⟩⟩
theorem ss_ (e:x.of S Fm) (q:∀ x∈ps,x.vok) {z:Pc} {a b c:Str} (d:z∈ps) (hk:z.kind=6) (h:S (aa_ a z.r b)):aa_ a z.t c∈hG_ (aM_ ps) x (aa_ b z.s c) :=
  List.mem_flatMap.2 ⟨z,(pm6' ((q z d).rok.2.1 hk).1).2 ⟨d,hk,rfl⟩,List.mem_map.2 ⟨a,bN_.2 ((e.into _ _ _).2 ⟨_,h,rfl,rfl,rfl,rfl⟩),rfl⟩⟩
theorem pE_ (e:x.of S Fm) (q:∀ x∈ps,x.vok) {z:Pc} {a b:Str} (d:z∈ps) (hk:z.kind=4) (h:S (Z_ b z.a)):Z_ a z.c∈fM_ (aM_ ps) x (aa_ a z.r b) :=
  List.mem_flatMap.2 ⟨z.a,bN_.2 ((e.above _ _).2 ⟨_,h,rfl,rfl,rfl⟩),List.mem_map.2 ⟨z,(pm4' ((q z d).rok.1 zQ_)).2 ⟨d,hk,rfl,rfl⟩,rfl⟩⟩
theorem pF_ (d:x.of S Fm) (e:∀ x∈ps,x.vok) {z:Pc} {a b:Str} (q:z∈ps) (hk:z.kind=4) (h:S (aa_ a z.r b)):Z_ a z.c∈fN_ (aM_ ps) x (Z_ b z.a) :=
  List.mem_flatMap.2 ⟨z,(pm4 (fun x d=>(e x d).rok)).2 ⟨q,hk,rfl⟩,List.mem_map.2 ⟨a,bN_.2 ((d.into _ _ _).2 ⟨_,h,rfl,rfl,rfl,rfl⟩),rfl⟩⟩
theorem ob_ (d:x.of S Fm) {a r b:Str} (h:S (aa_ a r b)):Z_ a [33]∈dw_ x (Z_ b [33]):=by
  unfold dw_;rw[if_pos (show (Z_ b [33]).b=[33] from rfl)];exact List.mem_map.2 ⟨a,bN_.2 ((d.under _ _).2 ⟨_,h,rfl,rfl,rfl⟩),rfl⟩
theorem xI_ {z:Pc} {a:Str} {lo hi:Int} (e:z∈ps) (hk:z.kind=9) (d:z.lo≤lo) (h:hi≤z.hi):Z_ a z.c∈ua_ (aM_ ps) (af_ a z.r lo hi) :=
  List.mem_map.2 ⟨z,List.mem_filter.2 ⟨pm9.2 ⟨e,hk,rfl⟩,decide_eq_true ⟨d,h⟩⟩,rfl⟩
theorem oE_ (e:x.of S Fm) {firm:Bool} (d:firm=true↔Fm f) {y:Fc} (C:S y) (hk:y.kind=3) (B:y.a=f.a) (h:y.r=f.r) (hm:Fm f∨Fm y):y∈eA_ x f firm:=by
  unfold eA_;cases firm with
  | true=>rw[if_pos rfl];exact bN_.2 ((e.ranges _ _ _).2 ⟨C,hk,B,h⟩)
  | false =>
    rw[if_neg ze_];refine bN_.2 ((e.firms _ _ _).2 ⟨C,hm.resolve_left (fun q=>?_),hk,B,h⟩);exact absurd (d.2 q) ze_
theorem qM_ {l:List Fc} {y:Fc} (q:y∈l) :
    (max f.lo y.lo≤min f.hi y.hi→dH_ f y∈gv_ f l∨dH_ f y=f∨dH_ f y=y)∧(min f.hi y.hi<max f.lo y.lo→Z_ f.a [33]∈hL_ f l):=by
  refine⟨fun h=>?_,fun h=>?_⟩
  · by_cases e:dH_ f y=f
    · exact .inr (.inl e)
    · by_cases d:dH_ f y=y
      · exact .inr (.inr d)
      · refine .inl (List.mem_map.2 ⟨y,List.mem_filter.2 ⟨q,?_⟩,rfl⟩)
        simp only[eO_,Bool.and_eq_true,Bool.not_eq_true',decide_eq_false_iff_not,Int.not_lt,decide_eq_true_eq];exact⟨h,e,d⟩
  · unfold hL_
    rw[if_pos (List.any_eq_true.2 ⟨y,q,by simpa [eO_] using h⟩)];simp
end
section
variable (stp:Fc→List Fc→List Fc) (kof:List Fc→List Fc) (pm:List (Ky×Pc)) (x:Ix) (f:Fc)
def rl (j:Nat) (s:List Fc×List Fc):List Fc×List Fc :=
  if f.kind=1 then
    (match j with
    | 0=>(emits stp (gW_ pm f) s.1,s.2)
    | 1=>(eq_ stp kof f (lat pm ⟨2,[],f.b⟩) s.1,s.2)
    | 2=>(emits stp (on_ pm f) s.1,s.2)
    | 3=>(emits stp (fN_ pm x f) s.1,s.2)
    | 4=>(emits stp (dw_ x f) s.1,s.2)
    | _=>ch_ stp kof f (lat pm ⟨8,[],f.b⟩) s)
  else if f.kind=2 then
    (match j with
    | 0=>(emits stp (gU_ pm f) s.1,s.2)
    | 1=>(emits stp (fJ_ pm x f++hG_ pm x f) s.1,s.2)
    | 2=>(emits stp (fM_ pm x f) s.1,s.2)
    | _=>(if Z_ f.b [33]∈kof s.1 then stp (Z_ f.a [33]) s.1 else s.1,s.2))
  else
    (match j with
    | 0=>(emits stp (gv_ f (eA_ x f (decide (f∈s.2)))++hL_ f (eA_ x f (decide (f∈s.2)))) s.1,s.2)
    | _=>(emits stp (ua_ pm f) s.1,s.2))
def rls:Nat→List Fc×List Fc→List Fc×List Fc
  | 0,s=>s
  | j+1,s=>rl stp kof pm x f j (rls j s)
def nrl:Nat:=if f.kind=1 then 6 else if f.kind=2 then 4 else 2
end
structure Cmpl (ps:List Pc) (S Fm kn good:Fc→Prop) (f:Fc):Prop where
  c3:∀ z a,z∈ps→z.kind=1→f=Z_ a z.a→good (Z_ a z.c)
  c4:∀ z a,z∈ps→z.kind=2→f=Z_ a z.a→kn (Z_ a z.b)→good (Z_ a z.c)
  c4':∀ z a,z∈ps→z.kind=2→f=Z_ a z.b→kn (Z_ a z.a)→good (Z_ a z.c)
  c5:∀ z a,z∈ps→z.kind=3→f=Z_ a z.a→good (aa_ a z.r z.c)
  c6:∀ z a b,z∈ps→z.kind=5→f=aa_ a z.r b→good (aa_ a z.t b)
  c7:∀ z a b c,z∈ps→z.kind=6→f=aa_ a z.r b→S (aa_ b z.s c)→good (aa_ a z.t c)
  c7':∀ z a b c,z∈ps→z.kind=6→f=aa_ b z.s c→S (aa_ a z.r b)→good (aa_ a z.t c)
  c8:∀ z a b,z∈ps→z.kind=4→f=aa_ a z.r b→S (Z_ b z.a)→good (Z_ a z.c)
  c8':∀ z a b,z∈ps→z.kind=4→f=Z_ b z.a→S (aa_ a z.r b)→good (Z_ a z.c)
  c9:∀ a r b,f=aa_ a r b→kn (Z_ b [33])→good (Z_ a [33])
  c9':∀ a r b,f=Z_ b [33]→S (aa_ a r b)→good (Z_ a [33])
  c11:∀ z a,z∈ps→z.kind=8→f=Z_ a z.a→good (af_ a z.r z.lo z.hi)
  c12:∀ y,f.kind=3→S y→y.kind=3→y.a=f.a→y.r=f.r→(Fm f∨Fm y)→max f.lo y.lo≤min f.hi y.hi→good (dH_ f y)
  c13:∀ y,f.kind=3→S y→y.kind=3→y.a=f.a→y.r=f.r→(Fm f∨Fm y)→min f.hi y.hi<max f.lo y.lo→good (Z_ f.a [33])
  c14:∀ z a lo hi,z∈ps→z.kind=9→f=af_ a z.r lo hi→z.lo≤lo→hi≤z.hi→good (Z_ a z.c)
section
variable {stp:Fc→List Fc→List Fc} {kof:List Fc→List Fc} {ps:List Pc} {A:List Str} {x:Ix} {S Fm:Fc→Prop} {f:Fc}
theorem qq_ (d:Grows stp kof) (j:Nat) (s:List Fc×List Fc):∃ L,(rl stp kof (aM_ ps) x f j s).1=emits stp L s.1:=by
 unfold rl
 split
 ·split
  ·exact⟨_,rfl⟩
  ·obtain⟨L,h,_⟩:=fu_ d f (lat (aM_ ps) ⟨2,[],f.b⟩) s.1
   exact⟨L,h⟩
  ·exact⟨_,rfl⟩
  ·exact⟨_,rfl⟩
  ·exact⟨_,rfl⟩
  exact⟨_,eX_ stp kof f _ s.1 s.2⟩
 split
 ·split
  ·exact⟨_,rfl⟩
  ·exact⟨_,rfl⟩
  ·exact⟨_,rfl⟩
  simp only
  split
  ·exact⟨[Z_ f.a [33]],rfl⟩
  exact⟨[],rfl⟩
 split
 ·exact⟨_,rfl⟩
 exact⟨_,rfl⟩
theorem kJ_ (e:Grows stp kof) (j:Nat) (s:List Fc×List Fc):∃ L,(rls stp kof (aM_ ps) x f j s).1=emits stp L s.1:=by
  induction j with
  | zero=>exact⟨[],rfl⟩
  | succ j ih =>
    obtain⟨L,h⟩:=ih;obtain⟨M,d⟩:=qq_ (ps:=ps) (x:=x) (f:=f) e j (rls stp kof (aM_ ps) x f j s);exact⟨L++M,by rw[rls,d,h,aF_]⟩
theorem kI_ (d:Grows stp kof) (j:Nat) (s:List Fc×List Fc) (z:Fc) (e:z∈kof s.1):z∈kof (rls stp kof (aM_ ps) x f j s).1:=by
  obtain⟨L,h⟩:=kJ_ (ps:=ps) (x:=x) (f:=f) d j s;rw[h];exact d.emits L _ z e
theorem qp_ (j:Nat) (s:List Fc×List Fc) (h:f.kind=1→j≤5):(rls stp kof (aM_ ps) x f j s).2=s.2:=by
 induction j with
 | zero=>rfl
 | succ j ih =>
   rw[← ih (fun hk=>by have:=h hk;omega),rls,rl.eq_def]
   split
   · rename_i hk
     have:=h hk
     match j,this with
     | 0,_=>rfl
     | 1,_=>rfl
     | 2,_=>rfl
     | 3,_=>rfl
     | 4,_=>rfl
   · split
     · split<;>rfl
     · split<;>rfl
theorem vm_ (U:Grows stp kof) (Q:∀ x∈ps,x.vok) (J:x.of S Fm) (s:List Fc×List Fc) (Y:∀ y,S y→(Fm y↔y∈s.2)) (T:S f) (N:∀ y,S y→y∈kof s.1) (good:Fc→Prop) (hS:∀ y,S y→good y)
    (H:∀ j,j<nrl f→∀ L,(rls stp kof (aM_ ps) x f (j+1) s).1=emits stp L (rls stp kof (aM_ ps) x f j s).1→∀ y∈L,good y) :
    Cmpl ps S Fm (·∈kof s.1) good f:=by
  have K:∀ k j,f.kind=k→j<nrl f→∀ L,(rl stp kof (aM_ ps) x f j (rls stp kof (aM_ ps) x f j s)).1=emits stp L (rls stp kof (aM_ ps) x f j s).1→∀ y∈L,good y:=fun k j _ hj L hL=>H j hj L (by rw[rls];exact hL)
  have M:f.kind=1→nrl f=6:=fun h=>by simp[nrl,h]
  have P:f.kind=2→nrl f=4:=fun h=>by simp[nrl,h]
  have n3:f.kind=3→nrl f=2:=fun h=>by simp[nrl,h]
  have k1:∀ {a b},f=Z_ a b→f.kind=1:=fun e=>by rw[e];rfl
  have k2:∀ {a r b},f=aa_ a r b→f.kind=2:=fun e=>by rw[e];rfl
  have k3:∀ {a r lo hi},f=af_ a r lo hi→f.kind=3:=fun e=>by rw[e];rfl
  have G:∀ z a,z∈ps→z.kind=2→f.kind=1→f.a=a→(z.a=f.b∨z.b=f.b)→Z_ a z.a∈kof s.1→Z_ a z.b∈kof s.1→good (Z_ a z.c):=by
    intro z a B hk d O hb V X;subst O;obtain⟨L,W,e2,e3⟩:=fu_ U f (lat (aM_ ps) ⟨2,[],f.b⟩) (rls stp kof (aM_ ps) x f 1 s).1;exact K 1 1 d zao_ L (by rw[rl.eq_def,if_pos d];exact W) _ (e3 z (pm2.2 ⟨B,hk,hb⟩) (kI_ U 1 s _ V) (kI_ U 1 s _ X))
  have Z:f.kind=3→(∀ y∈gv_ f (eA_ x f (decide (f∈s.2)))++hL_ f (eA_ x f (decide (f∈s.2))),good y):=fun F =>
    K 3 0 F (by rw[n3 F];decide) _ (by rw[rl.eq_def,if_neg (by rw[F];decide),if_neg (by rw[F];decide)];rfl)
  have C:decide (f∈s.2)=true↔Fm f:=by rw[decide_eq_true_eq];exact (Y f T).symm
  refine⟨?_,?_,?_,?_,?_,?_,?_,?_,?_,?_,?_,?_,?_,?_,?_⟩
  · intro z a B hk e
    have d:=k1 e;exact K 1 0 d zao_ (gW_ (aM_ ps) f) zaf_ _ (by rw[e];exact rj_ B hk)
  · intro z a B hk e h
    have d:=k1 e;exact G z a B hk d (by rw[e];rfl) (by rw[e];exact .inl rfl) (by rw[← e];exact N f T) h
  · intro z a B hk e h
    have d:=k1 e;exact G z a B hk d (by rw[e];rfl) (by rw[e];exact .inr rfl) h (by rw[← e];exact N f T)
  · intro z a B hk e
    have d:=k1 e;exact K 1 2 d zao_ (on_ (aM_ ps) f) zaf_ _ (by rw[e];exact vf_ B hk)
  · intro z a b B hk e
    have d:=k2 e;exact K 2 0 d zaA_ (gU_ (aM_ ps) f) zC_ _ (by rw[e];exact qV_ B hk)
  · intro z a b c B hk e h
    have d:=k2 e;exact K 2 1 d zaA_ (fJ_ (aM_ ps) x f++hG_ (aM_ ps) x f) zC_ _ (List.mem_append_left _ (by rw[e];exact st_ J Q B hk h))
  · intro z a b c B hk e h
    have d:=k2 e;exact K 2 1 d zaA_ (fJ_ (aM_ ps) x f++hG_ (aM_ ps) x f) zC_ _ (List.mem_append_right _ (by rw[e];exact ss_ J Q B hk h))
  · intro z a b B hk e h
    have d:=k2 e;exact K 2 2 d zaA_ (fM_ (aM_ ps) x f) zC_ _ (by rw[e];exact pE_ J Q B hk h)
  · intro z a b B hk e h
    have d:=k1 e;exact K 1 3 d zao_ (fN_ (aM_ ps) x f) zaf_ _ (by rw[e];exact pF_ J Q B hk h)
  · intro a r b e h
    have d:=k2 e;have W:Z_ f.b [33]∈kof (rls stp kof (aM_ ps) x f 3 s).1:=kI_ U 3 s _ (by rw[e];exact h);exact K 2 3 d zaA_ [Z_ f.a [33]] (by rw[rl.eq_def,if_neg (by rw[d];decide),if_pos d];simp only[if_pos W];rfl) _ (by rw[e];simp[aa_])
  · intro a r b e h
    have d:=k1 e;exact K 1 4 d zao_ (dw_ x f) zaf_ _ (by rw[e];exact ob_ J h)
  · intro z a B hk e
    have d:=k1 e;exact K 1 5 d zao_ ((lat (aM_ ps) ⟨8,[],f.b⟩).map fun y=>af_ f.a y.r y.lo y.hi) (by rw[rl.eq_def,if_pos d];exact eX_ stp kof f _ _ _) _ (by rw[e];exact tC_ B hk)
  · intro y F R hk O I hm hl
    have E:=oE_ J C R hk O I hm;rcases (qM_ (f:=f) E).1 hl with q|q|q
    · exact Z F _ (List.mem_append_left _ q)
    · rw[q];exact hS f T
    · rw[q];exact hS y R
  · intro y F R hk O I hm hl
    have E:=oE_ J C R hk O I hm;exact Z F _ (List.mem_append_right _ ((qM_ (f:=f) E).2 hl))
  · intro z a lo hi B hk e V X
    have d:=k3 e;exact K 3 1 d (by rw[n3 d];decide) (ua_ (aM_ ps) f) (by rw[rl.eq_def,if_neg (by rw[d];decide),if_neg (by rw[d];decide)]<;>rfl) _ (by rw[e];exact xI_ B hk V X)
end
end Go.Vs
namespace Go.Vs
open Go Go.Sx
def bo_ (m:Nat) (y:Fc) (q:List Fc):List Fc:=if q.length≤m∧y ∉ q then q++[y] else q
abbrev idk:List Fc→List Fc:=fun q=>q
theorem qf_ (m:Nat) (y:Fc) (q:List Fc):∃ t,bo_ m y q=q++t:=by
 unfold bo_;split
 ·exact⟨[y],rfl⟩
 exact⟨[],by simp⟩
theorem ko_ (m:Nat):∀ (L q:List Fc),∃ t,emits (bo_ m) L q=q++t
  | [],q=>⟨[],by simp[emits]⟩
  | y::L,q=>by
    obtain⟨t,h⟩:=qf_ m y q;obtain⟨u,d⟩:=ko_ m L (bo_ m y q);exact⟨t++u,by rw[← List.append_assoc,← h,← d];rfl⟩
theorem fB_ (m:Nat):Grows (bo_ m) idk:=⟨fun y s z d=>by obtain⟨t,h⟩:=qf_ m y s;rw[h];exact List.mem_append_left _ d⟩
theorem gx_ (m:Nat):∀ (L q:List Fc) (z:Fc),z∈emits (bo_ m) L q→z∈q∨z∈L
 | [],q,z,h=>.inl h
 | y::L,q,z,h=>by
   rcases gx_ m L (bo_ m y q) z h with h|h
   · unfold bo_ at h
     split at h
     · rcases List.mem_append.1 h with h|h
       · exact .inl h
       · exact .inr (by simp at h;simp[h])
     · exact .inl h
   · exact .inr (List.mem_cons_of_mem _ h)
theorem iW_ (m:Nat):∀ (L q:List Fc),q.Nodup→(emits (bo_ m) L q).Nodup
 | [],q,h=>h
 | y::L,q,h=>by
   refine iW_ m L (bo_ m y q) ?_;unfold bo_
   split
   · rename_i C
     rw[List.nodup_append];exact⟨h,by simp,fun a B b d e=>by simp at d;subst d;subst e;exact C.2 B⟩
   · exact h
theorem pG_ (m:Nat):∀ (L q:List Fc),q.length≤m+1→(emits (bo_ m) L q).length≤m+1
 | [],q,h=>h
 | y::L,q,h=>by
   refine pG_ m L (bo_ m y q) ?_;unfold bo_
   split
   · rename_i d;simp;exact d.1
   · exact h
theorem iX_ (m:Nat):∀ (L q:List Fc),(emits (bo_ m) L q).length≤m→∀ y∈L,y∈emits (bo_ m) L q
 | [],q,_,y,d=>by simp at d
 | x::L,q,h,y,d=>by
   have e:emits (bo_ m) (x::L) q=emits (bo_ m) L (bo_ m x q):=rfl;rw[e]at h ⊢;rcases List.mem_cons.1 d with rfl|d
   · obtain⟨t,E⟩:=ko_ m L (bo_ m y q)
     rw[E]at h ⊢;refine List.mem_append_left _ ?_;have hl:(bo_ m y q).length≤m:=by rw[List.length_append]at h;omega
     unfold bo_ at hl ⊢
     split
     · simp
     · rename_i B
       rw[if_neg B]at hl;exact Classical.byContradiction fun C=>B ⟨hl,C⟩
   · exact iX_ m L _ h y d
theorem lM_ {ps:List Pc} {A:List Str} {m:Nat} {f:Fc}:∀ (l:List Pc) (s:List Fc),(∀ z∈l,z∈ps∧z.kind=2)→(∀ y∈s,Der ps A y)→∀ y∈eq_ (bo_ m) idk f l s,Der ps A y
 | [],s,_,hs,y,d=>hs y d
 | z::l,s,hl,hs,y,d=>by
   have e:=hl z zj_;simp only[eq_,List.foldl_cons]at d;refine lM_ l _ (fun z e=>hl z zaM_) (fun y d=>?_) y d
   split at d
   · rename_i B
     have:=gx_ m [Z_ f.a z.c] s y d;rcases this with h|h
     · exact hs y h
     · simp at h;subst h
       exact Der.step (.r4 e.1 e.2 (hs _ B.1) (hs _ B.2))
   · exact hs y d
section
variable {ps:List Pc} {A:List Str} {m:Nat} {x:Ix} {S Fm:Fc→Prop} {f:Fc}
theorem tO_ (K:∀ x∈ps,x.vok) (C:x.of S Fm) (hS:∀ y,S y→y.form) (hk:f.kind=1∨f.kind=2∨f.kind=3) (e:f.form) (j:Nat) (s:List Fc×List Fc) (B:∀ y,S y→y∈s.1) (d:f∈s.1) (I:∀ y∈s.1,Der ps A y) :
    ∀ y∈(rl (bo_ m) idk (aM_ ps) x f j s).1,Der ps A y:=by
  have E:∀ L,(∀ y∈L,hI_ ps A (·∈s.1) y)→∀ y∈emits (bo_ m) L s.1,Der ps A y:=fun L O y H=>by
    rcases gx_ m L s.1 y H with h|h
    · exact I y h
    · exact Der.step ((O y h).mono (fun x C=>⟨x,C,x.frm,rfl⟩) (fun _ h=>h) I (fun _ _ h=>h))
  unfold rl
  split
  · rename_i F
    split
    · exact E _ (od_ F e d)
    · exact lM_ _ s.1 (fun z M=>by have:=pm2.1 M;exact⟨this.1,this.2.1⟩) I
    · exact E _ (rI_ F e d)
    · exact E _ (nH_ K C hS B F e d)
    · exact E _ (lZ_ C hS B F e d)
    · rw[eX_];exact E _ (qc_ F e d)
  · split
    · rename_i G
      split
      · exact E _ (oa_ G e d)
      · exact E _ (rq_ C hS B G e d)
      · exact E _ (nG_ C hS B G e d)
      · simp only
        split
        · rename_i N
          exact E [Z_ f.a [33]] (fun y H=>by simp at H;subst H;exact lY_ G e d N)
        · exact I
    · rename_i F G
      have J:f.kind=3:=by omega
      split
      · exact E _ (rZ_ C hS B J e d)
      · exact E _ (tZ_ J e d)
theorem mU_ (C:∀ x∈ps,x.vok) (B:x.of S Fm) (hS:∀ y,S y→y.form) (h:f.form) (s:List Fc×List Fc) (e:∀ y,S y→y∈s.1) (d:f∈s.1) (E:∀ y∈s.1,Der ps A y) (j:Nat) :
    ∀ y∈(rls (bo_ m) idk (aM_ ps) x f j s).1,Der ps A y:=by
  induction j with
  | zero=>exact E
  | succ j ih=>exact tO_ C B hS (iU_ h) h j _ (fun y F=>kI_ (fB_ m) j s y (e y F)) (kI_ (fB_ m) j s f d) ih
end
inductive Fmd (fm:List Fc):Fc→Prop
  | base {y:Fc} (h:y∈fm):Fmd fm y
  | meet {y z:Fc} (hy:Fmd fm y) (hz:Fmd fm z) (ha:z.a=y.a) (hr:z.r=y.r) (hl:max y.lo z.lo≤min y.hi z.hi):Fmd fm (dH_ y z)
theorem Fmd.mono {fm d:List Fc} (h:∀ y∈fm,y∈d) {y:Fc} (e:Fmd fm y):Fmd d y:=by
  induction e with
  | base h1=>exact .base (h _ h1)
  | meet _ _ ha hr hl ih1 ih2=>exact .meet ih1 ih2 ha hr hl
structure InvA (ps:List Pc) (A:List Str) (m n:Nat) (q fm:List Fc) (x:Ix):Prop where
  nd:q.Nodup
  len:q.length≤m
  le:n≤q.length
  der:∀ y∈q,Der ps A y
  form:∀ y∈q,y.form
  ix:x.of (·∈q.take n) (·∈fm)
  fmq:∀ y∈fm,y∈q∧y.kind=3
  firm:∀ y∈q,y.kind=3→Fmd fm y
  st:∀ a∈A,Z_ a a∈q∧Z_ a [42]∈q∧∀ z∈ps,z.kind=7→aa_ a z.r a∈q
  cl:∀ y,One ps A (·∈q.take n) (fun y z=>y∈fm∨z∈fm) y→y∈q
theorem Der.form {p:List Pc} {A:List Str} (e:∀ x∈p,x.vok) {y:Fc} (h:Der p A y):y.form:=h _ fun _ d=>One.form e (fun _ h=>h) d
theorem ly_ {stp:Fc→List Fc→List Fc} {kof:List Fc→List Fc} (hk:∀ i s z,z∈kof (stp i s)→z∈kof s∨z=i) (h:Grows stp kof) (f:Fc):∀ (l:List Pc) (s fm:List Fc),∀ y∈l,af_ f.a y.r y.lo y.hi∈kof s∨af_ f.a y.r y.lo y.hi∈(ch_ stp kof f l (s,fm)).2
 | [],s,fm,y,d=>by simp at d
 | x::l,s,fm,y,d=>by
   have e:ch_ stp kof f (x::l) (s,fm)=ch_ stp kof f l (stp (af_ f.a x.r x.lo x.hi) s,if af_ f.a x.r x.lo x.hi∈kof s then fm else af_ f.a x.r x.lo x.hi::fm):=rfl;rw[e]
   by_cases C:af_ f.a y.r y.lo y.hi=af_ f.a x.r x.lo x.hi
   · rw[C]
     by_cases E:af_ f.a x.r x.lo x.hi∈kof s
     · exact .inl E
     · refine .inr ((hi_ h f l _ _ _).2 (.inl ?_))
       rw[if_neg E];simp
   · rcases List.mem_cons.1 d with rfl|d
     · exact absurd rfl C
     · rcases ly_ hk h f l (stp (af_ f.a x.r x.lo x.hi) s) (if af_ f.a x.r x.lo x.hi∈kof s then fm else af_ f.a x.r x.lo x.hi::fm) y d with B|B
       · exact (hk _ _ _ B).imp id fun q=>absurd q C
       · exact .inr B
theorem uR_ {q:List Fc} {n:Nat} {f z:Fc} (d:q[n]? = some f):z∈q.take (n+1)↔z∈q.take n∨z=f:=by
  rw[List.take_add_one,d];simp
theorem yo_ {ps:List Pc} {A:List Str} {S Fm E good:Fc→Prop} {f:Fc} (B:Cmpl ps (fun y=>S y∨y=f) Fm E good f) (C:∀ y,S y∨y=f→E y) (h:∀ y,One ps A S (fun y z=>Fm y∨Fm z) y→good y) (y:Fc) (F:One ps A (fun y=>S y∨y=f) (fun y z=>Fm y∨Fm z) y):good y:=by
 cases F with
 | r1 d=>exact h _ (.r1 d)
 | r2 d=>exact h _ (.r2 d)
 | r10 hx hk d=>exact h _ (.r10 hx hk d)
 | r3 hx hk d=>exact d.elim (fun q=>h _ (.r3 hx hk q)) (fun q=>B.c3 _ _ hx hk q.symm)
 | r4 hx hk d e =>
   rcases d with d|d
   · rcases e with e|e
     · exact h _ (.r4 hx hk d e)
     · exact B.c4' _ _ hx hk e.symm (C _ (.inl d))
   · exact B.c4 _ _ hx hk d.symm (C _ e)
 | r5 hx hk d=>exact d.elim (fun q=>h _ (.r5 hx hk q)) (fun q=>B.c5 _ _ hx hk q.symm)
 | r6 hx hk d=>exact d.elim (fun q=>h _ (.r6 hx hk q)) (fun q=>B.c6 _ _ _ hx hk q.symm)
 | r7 hx hk d e =>
   rcases d with d|d
   · rcases e with e|e
     · exact h _ (.r7 hx hk d e)
     · exact B.c7' _ _ _ _ hx hk e.symm (.inl d)
   · exact B.c7 _ _ _ _ hx hk d.symm e
 | r8 hx hk d e =>
   rcases d with d|d
   · rcases e with e|e
     · exact h _ (.r8 hx hk d e)
     · exact B.c8' _ _ _ hx hk e.symm (.inl d)
   · exact B.c8 _ _ _ hx hk d.symm e
 | r9 d e =>
   rcases d with d|d
   · rcases e with e|e
     · exact h _ (.r9 d e)
     · exact B.c9' _ _ _ e.symm (.inl d)
   · exact B.c9 _ _ _ d.symm (C _ e)
 | r11 hx hk d=>exact d.elim (fun q=>h _ (.r11 hx hk q)) (fun q=>B.c11 _ _ hx hk q.symm)
 | @r12 a r lo hi lo' hi' d e hm hl =>
   rcases d with d|d
   · rcases e with e|e
     · exact h _ (.r12 d e hm hl)
     · have:=B.c12 (af_ a r lo hi) zaj_ (.inl d) rfl zaj_ zaj_ (by rw[← e];exact hm.symm) (by rw[← e];simp only[af_];omega)
       rw[← e]at this;rw[Int.max_comm,Int.min_comm];exact this
   · have:=B.c12 (af_ a r lo' hi') zar_ e rfl zar_ zar_ (by rw[← d];exact hm) (by rw[← d];exact hl)
     rw[← d]at this;exact this
 | @r13 a r lo hi lo' hi' d e hm hl =>
   rcases d with d|d
   · rcases e with e|e
     · exact h _ (.r13 d e hm hl)
     · have:=B.c13 (af_ a r lo hi) zaj_ (.inl d) rfl zaj_ zaj_ (by rw[← e];exact hm.symm) (by rw[← e];simp only[af_];omega)
       rw[← e]at this;exact this
   · have:=B.c13 (af_ a r lo' hi') zar_ e rfl zar_ zar_ (by rw[← d];exact hm) (by rw[← d];exact hl)
     rw[← d]at this;exact this
 | r14 hx hk d g1 g2=>exact d.elim (fun q=>h _ (.r14 hx hk q g1 g2)) (fun q=>B.c14 _ _ _ _ hx hk q.symm g1 g2)
theorem One.congrM {p:List Pc} {A:List Str} {S:Fc→Prop} {M e:Fc→Fc→Prop} (d:∀ y z,S y→S z→M y z→e y z) {y:Fc} (h:One p A S M y):One p A S e y:=by
  cases h with
  | r1 h=>exact .r1 h
  | r2 h=>exact .r2 h
  | r10 hx hk h=>exact .r10 hx hk h
  | r3 hx hk h=>exact .r3 hx hk h
  | r4 hx hk h h'=>exact .r4 hx hk h h'
  | r5 hx hk h=>exact .r5 hx hk h
  | r6 hx hk h=>exact .r6 hx hk h
  | r7 hx hk h h'=>exact .r7 hx hk h h'
  | r8 hx hk h h'=>exact .r8 hx hk h h'
  | r9 h h'=>exact .r9 h h'
  | r11 hx hk h=>exact .r11 hx hk h
  | r12 h h' hm hl=>exact .r12 h h' (d _ _ h h' hm) hl
  | r13 h h' hm hl=>exact .r13 h h' (d _ _ h h' hm) hl
  | r14 hx hk h h1 h2=>exact .r14 hx hk h h1 h2
section
variable {ps:List Pc} {A:List Str} {m n:Nat} {q fm:List Fc} {x:Ix} {f:Fc}
theorem vn_ (j k:Nat) (s:List Fc×List Fc):∃ t,(rls (bo_ m) idk (aM_ ps) x f (j+k) s).1=(rls (bo_ m) idk (aM_ ps) x f j s).1++t:=by
  induction k with
  | zero=>exact⟨[],by simp⟩
  | succ k ih =>
    obtain⟨t,h⟩:=ih;obtain⟨L,e⟩:=qq_ (ps:=ps) (x:=x) (f:=f) (fB_ m) (j+k) (rls (bo_ m) idk (aM_ ps) x f (j+k) s);obtain⟨u,d⟩:=ko_ m L (rls (bo_ m) idk (aM_ ps) x f (j+k) s).1;exact⟨t++u,by rw[← Nat.add_assoc,rls,e,d,h,List.append_assoc]⟩
theorem qr_ (j:Nat) (s:List Fc×List Fc) (h:f.kind=1→j≤4) (M:f.kind=3→j≠0) (hk:f.kind=1∨f.kind=2∨f.kind=3):∀ y∈(rl (bo_ m) idk (aM_ ps) x f j s).1,y.kind=3→y∈s.1:=by
 have E:∀ L:List Fc,(∀ y∈L,y.kind≠3)→∀ y∈emits (bo_ m) L s.1,y.kind=3→y∈s.1:=fun L Q y d hk =>
   (gx_ m L s.1 y d).elim id fun q=>absurd hk (Q y q)
 have C:∀ {α:Type} (l:List α) (g:α→Fc),(∀ a,(g a).kind≠3)→∀ y∈l.map g,y.kind≠3:=fun l g F y d=>by
   obtain⟨a,_,rfl⟩:=List.mem_map.1 d;exact F a
 have B:∀ {α β:Type} (l:List α) (k:α→List β) (g:α→β→Fc),(∀ a b,(g a b).kind≠3)→∀ y∈l.flatMap (fun a=>(k a).map (g a)),y.kind≠3:=fun l k g F y d=>by
   obtain⟨a,_,d⟩:=List.mem_flatMap.1 d;exact C _ _ (F a) y d
 unfold rl
 split
 ·rename_i G
  split
  ·exact E _ (C _ _ fun _=>by simp[Z_])
  ·obtain⟨L,I,K,_⟩:=fu_ (fB_ m) f (lat (aM_ ps) ⟨2,[],f.b⟩) s.1
   rw[I];exact E L fun y d=>by obtain⟨_,_,rfl,_⟩:=K y d;simp[Z_]
  ·exact E _ (C _ _ fun _=>by simp[aa_])
  ·exact E _ (B _ _ _ fun _ _=>by simp[Z_])
  ·refine E _ fun y d=>?_
   unfold dw_ at d
   split at d
   ·exact C _ _ (fun _=>by simp[Z_]) y d
   simp at d
  have:=h G
  rename_i P O N H J
  have e:j=0∨j=1∨j=2∨j=3∨j=4:=by omega
  rcases e with e|e|e|e|e
  ·exact (P e).elim
  ·exact (O e).elim
  ·exact (N e).elim
  ·exact (H e).elim
  exact (J e).elim
 split
 ·split
  ·exact E _ (C _ _ fun _=>by simp[aa_])
  ·refine E _ fun y d=>?_
   rcases List.mem_append.1 d with d|d
   ·exact B _ _ _ (fun _ _=>by simp[aa_]) y d
   exact B _ _ _ (fun _ _=>by simp[aa_]) y d
  ·exact E _ (B _ _ _ fun _ _=>by simp[Z_])
  simp only
  split
  ·exact E [Z_ f.a [33]] (by simp[Z_])
  exact fun y d _=>d
 rename_i G R
 split
 ·exact absurd rfl (M za_)
 exact E _ (C _ _ fun _=>by simp[Z_])
theorem or_ (j:Nat) (s:List Fc×List Fc) (h:f.kind=1→j≤5) (C:f.kind≠3) (hk:f.kind=1∨f.kind=2∨f.kind=3):∀ y∈(rls (bo_ m) idk (aM_ ps) x f j s).1,y.kind=3→y∈s.1:=by
  induction j with
  | zero=>exact fun y B _=>B
  | succ j ih=>exact fun y B e=>ih (fun d=>by have:=h d;omega) y (qr_ j _ (fun d=>by have:=h d;omega) (fun d=>absurd d C) hk y B e) e
theorem wh_ (hr:∀ x∈ps,x.vok) (inv:InvA ps A m n q fm x) (hn:q[n]? = some f) {C:List Fc×List Fc} (G:rls (bo_ m) idk (aM_ ps) (x.add (decide (f∈fm)) f) f (nrl f) (q,fm)=C) (hl:C.1.length≤m) :
    InvA ps A m (n+1) C.1 C.2 (x.add (decide (f∈fm)) f):=by
  have O:f∈q:=List.mem_of_getElem? hn;have hlt:n<q.length:=(List.getElem?_eq_some_iff.1 hn).1;have N:=inv.form f O;have hk:=iU_ N;have P:(x.add (decide (f∈fm)) f).of (fun y=>y∈q.take n∨y=f) (·∈fm):=Ix.of_add inv.ix f zj_;have E:∀ y,(y∈q.take n∨y=f)→y∈q:=fun y d=>d.elim (fun h=>List.mem_of_mem_take h) (fun h=>h▸O)
  obtain⟨L,W⟩:=kJ_ (ps:=ps) (x:=x.add (decide (f∈fm)) f) (f:=f) (fB_ m) (nrl f) (q,fm);rw[G]at W;obtain⟨t,ht⟩:=ko_ m L q;have M:C.1=q++t:=by rw[W];exact ht
  have B:∀ y∈q,y∈C.1:=fun y d=>by rw[M];exact List.mem_append_left _ d
  have U:C.1.take (n+1)=q.take (n+1):=by rw[M,List.take_append_of_le_length za_]
  have T:∀ y,y∈C.1.take (n+1)↔(y∈q.take n∨y=f):=fun y=>by rw[U];exact uR_ hn
  have Q:∀ y∈C.1,Der ps A y:=by rw[← G];exact mU_ hr P (fun y d=>inv.form y (E y d)) N (q,fm) E O inv.der (nrl f)
  have H:∀ j,j<nrl f→∀ L,(rls (bo_ m) idk (aM_ ps) (x.add (decide (f∈fm)) f) f (j+1) (q,fm)).1=emits (bo_ m) L (rls (bo_ m) idk (aM_ ps) (x.add (decide (f∈fm)) f) f j (q,fm)).1→∀ y∈L,y∈C.1:=by
    intro j hj L W y d;obtain⟨u,hu⟩:=vn_ (m:=m) (ps:=ps) (x:=x.add (decide (f∈fm)) f) (f:=f) (j+1) (nrl f - (j+1)) (q,fm);rw[show j+1+(nrl f - (j+1))=nrl f by omega,G]at hu;have hle:(rls (bo_ m) idk (aM_ ps) (x.add (decide (f∈fm)) f) f (j+1) (q,fm)).1.length≤m:=by rw[hu,List.length_append]at hl;omega
    rw[W]at hle;have:=iX_ m L _ hle y d;rw[hu,W];exact List.mem_append_left _ this
  have hc:=vm_ (fB_ m) hr P (q,fm) (fun _ _=>Iff.rfl) (.inr rfl) E (·∈C.1) (fun y d=>B y (E y d)) H
  -- the firm ones
  have F:(∀ y∈fm,y∈C.2)∧(∀ y∈C.2,y∈fm∨(y ∉ q∧y∈C.1∧y.kind=3))∧(∀ y∈C.1,y.kind=3→y∈q∨y∈C.2∨∃ z,(z∈q.take n∨z=f)∧z.kind=3∧f.kind=3∧z.a=f.a∧z.r=f.r∧max f.lo z.lo≤min f.hi z.hi∧y=dH_ f z):=by
    by_cases R:f.kind=1
    · have e6:nrl f=5+1:=by simp[nrl,R]
      rw[e6,rls]at G;have X:(rls (bo_ m) idk (aM_ ps) (x.add (decide (f∈fm)) f) f 5 (q,fm)).2=fm:=qp_ 5 (q,fm) (fun _=>Nat.le_refl _);have V:=or_ (m:=m) (ps:=ps) (x:=x.add (decide (f∈fm)) f) (f:=f) 5 (q,fm) (fun _=>Nat.le_refl _) za_ hk;have hq5:∀ y∈q,y∈(rls (bo_ m) idk (aM_ ps) (x.add (decide (f∈fm)) f) f 5 (q,fm)).1:=fun y d=>kI_ (fB_ m) 5 (q,fm) y d
      have H5:=H 5 za_;rw[rls]at H5;generalize rls (bo_ m) idk (aM_ ps) (x.add (decide (f∈fm)) f) f 5 (q,fm)=s5 at G X V hq5 H5
      have er:rl (bo_ m) idk (aM_ ps) (x.add (decide (f∈fm)) f) f 5 s5=ch_ (bo_ m) idk f (lat (aM_ ps) ⟨8,[],f.b⟩) s5:=by rw[rl.eq_def,if_pos R]<;>rfl
      rw[er]at G H5;have es5:s5=(s5.1,fm):=by rw[← X]
      rw[es5]at G H5;have Hv:=H5 _ (eX_ (bo_ m) idk f _ s5.1 fm);refine⟨fun y d=>?_,fun y d=>?_,fun y d J=>?_⟩
      · rw[← G];exact (hi_ (fB_ m) f _ _ _ _).2 (.inl d)
      · rw[← G]at d
        rcases (hi_ (fB_ m) f _ _ _ _).1 d with h|h
        · exact .inl h
        · rcases mz_ f _ _ _ _ h.2 with g|⟨z,I,rfl⟩
          · exact .inl g
          · exact .inr ⟨fun hq=>h.1 (hq5 _ hq),Hv _ (List.mem_map.2 ⟨z,I,rfl⟩),rfl⟩
      · have hy':=d
        rw[← G,eX_]at d;rcases gx_ m _ _ y d with h|h
        · exact .inl (V y h J)
        · obtain⟨z,I,rfl⟩:=List.mem_map.1 h
          rcases ly_ (stp:=bo_ m) (kof:=idk) (fun i s z I=>(gx_ m [i] s z I).imp id zj_) (fB_ m) f _ s5.1 fm z I with g|g
          · exact .inl (V _ g rfl)
          · exact .inr (.inl (by rw[← G];exact g))
    · have Z:C.2=fm:=by rw[← G];exact qp_ _ (q,fm) (fun h=>absurd h R)
      refine⟨fun y d=>by rw[Z];exact d,fun y d=>.inl (by rw[← Z];exact d),fun y d J=>?_⟩
      by_cases h3:f.kind=3
      · have e2:nrl f=0+1+1:=by simp[nrl,h3]
        rw[e2,rls]at G;rw[← G]at d;have Y:=qr_ 1 _ (fun h=>absurd h R) (fun _=>by decide) hk y d J;rw[rls,rl.eq_def,if_neg R,if_neg za_]at Y;rcases gx_ m _ _ y Y with h|h
        · exact .inl h
        · rcases List.mem_append.1 h with h|h
          · obtain⟨z,I,rfl⟩:=List.mem_map.1 h
            obtain⟨I,hcc⟩:=List.mem_filter.1 I;obtain⟨g1,g2,g3,g4⟩:=kO_ P I;simp only[eO_,Bool.and_eq_true,Bool.not_eq_true',decide_eq_false_iff_not,Int.not_lt]at hcc;exact .inr (.inr ⟨z,g1,g2,h3,g3,g4,hcc.1,rfl⟩)
          · unfold hL_ at h
            split at h
            · simp at h;rw[h]at J;simp[Z_]at J
            · simp at h
      · rw[← G]at d
        exact .inl (or_ _ _ (fun h=>absurd h R) h3 hk y d J)
  have K:∀ y,(y∈q.take n∨y=f)→(y∈fm↔y∈C.2):=fun y d=>⟨fun h=>F.1 y h,fun h=>(F.2.1 y h).elim id fun g=>absurd (E y d) g.1⟩
  refine⟨?_,hl,?_,Q,fun y d=>(Q y d).form hr,?_,?_,?_,?_,?_⟩
  · rw[W];exact iW_ m L q inv.nd
  · rw[M,List.length_append];omega
  · have:=Ix.of_firm P K
    have e:(fun y=>y∈C.1.take (n+1))=(fun y=>y∈q.take n∨y=f):=funext fun y=>propext (T y)
    rw[e];exact this
  · intro y d
    rcases F.2.1 y d with h|h
    · exact⟨B y (inv.fmq y h).1,(inv.fmq y h).2⟩
    · exact h.2
  · intro y d hk3
    rcases F.2.2 y d hk3 with h|h|⟨z,R,h2,h3,h4,h5,h6,rfl⟩
    · exact (inv.firm y h hk3).mono F.1
    · exact .base h
    · exact .meet ((inv.firm f O h3).mono F.1) ((inv.firm z (E z R) h2).mono F.1) h4 h5 h6
  · intro a ha
    obtain⟨g1,g2,g3⟩:=inv.st a ha;exact⟨B _ g1,B _ g2,fun z I hk=>B _ (g3 z I hk)⟩
  · intro y d
    have e:(fun y=>y∈C.1.take (n+1))=(fun y=>y∈q.take n∨y=f):=funext fun y=>propext (T y)
    rw[e]at d;refine yo_ (A:=A) hc E (fun z I=>B z (inv.cl z I)) y (d.congrM fun u v hu hv hm=>hm.imp (K u hu).2 (K v hv).2)
theorem mm_le {a b c d e g:Int} (h:max a (max b c)≤min d (min e g)):max a b≤min d e:=by omega
theorem wi_ (inv:InvA ps A m q.length q fm x) (y:Fc):Der ps A y↔y∈q:=by
 refine⟨fun h=>h.least fun y K=>?_,inv.der y⟩;have d:∀ y,One ps A (·∈q) (fun y z=>y∈fm∨z∈fm) y→y∈q:=fun y K=>inv.cl y (by rw[List.take_length];exact K)
 have Q:∀ f,Fmd fm f→∀ z∈q,z.kind=3→z.a=f.a→z.r=f.r→(max z.lo f.lo≤min z.hi f.hi→dH_ z f∈q)∧(min z.hi f.hi<max z.lo f.lo→Z_ z.a [33]∈q):=by
   intro f Z
   induction Z with
   | @base f hb =>
     intro z J hk P I;obtain⟨H,T⟩:=inv.fmq f hb;have W:=(hO_ (inv.form z J) hk).1;have ef:=(hO_ (inv.form f H) T).1;rw[← P,← I]at ef;refine⟨fun hl=>d _ (.r12 (by rw[← W];exact J) (by rw[← ef];exact H) (.inr (by rw[← ef];exact hb)) hl),fun hl=>d _ (.r13 (r:=z.r) (by rw[← W];exact J) (by rw[← ef];exact H) (.inr (by rw[← ef];exact hb)) hl)⟩
   | @meet y w K hw P I hl ih1 ih2 =>
     intro z J hk L N;have G:z.a=y.a:=L;have F:z.r=y.r:=N;obtain⟨i1,Y⟩:=ih1 z J hk G F;have U:(dH_ y w).lo=max y.lo w.lo:=rfl;have M:(dH_ y w).hi=min y.hi w.hi:=rfl;rw[U,M]
     by_cases R:max z.lo y.lo≤min z.hi y.hi
     · have O:=i1 R
       obtain⟨V,X⟩:=ih2 (dH_ z y) O rfl (by rw[P,← G];rfl) (by rw[I,← F];rfl);have e1:(dH_ z y).lo=max z.lo y.lo:=rfl;have e2:(dH_ z y).hi=min z.hi y.hi:=rfl;rw[e1,e2]at V X;refine⟨fun C=>?_,fun C=>X (by rw[Int.max_assoc,Int.min_assoc];exact C)⟩;have:=V (by rw[Int.max_assoc,Int.min_assoc];exact C)
       have e:dH_ (dH_ z y) w=dH_ z (dH_ y w):=by
         simp only[dH_,af_];rw[Int.max_assoc,Int.min_assoc]
       rw[← e];exact this
     · exact⟨fun C=>absurd (mm_le C) R,fun _=>Y (Int.not_le.1 R)⟩
 have E:∀ {a r:Str} {lo hi lo' hi':Int},af_ a r lo hi∈q→af_ a r lo' hi'∈q→(max lo lo'≤min hi hi'→af_ a r (max lo lo') (min hi hi')∈q)∧(min hi hi'<max lo lo'→Z_ a [33]∈q):=fun h B=>Q _ (inv.firm _ B rfl) _ h rfl rfl rfl
 cases K with
 | r1 h=>exact d _ (.r1 h)
 | r2 h=>exact d _ (.r2 h)
 | r10 hx hk h=>exact d _ (.r10 hx hk h)
 | r3 hx hk h=>exact d _ (.r3 hx hk h)
 | r4 hx hk h B=>exact d _ (.r4 hx hk h B)
 | r5 hx hk h=>exact d _ (.r5 hx hk h)
 | r6 hx hk h=>exact d _ (.r6 hx hk h)
 | r7 hx hk h B=>exact d _ (.r7 hx hk h B)
 | r8 hx hk h B=>exact d _ (.r8 hx hk h B)
 | r9 h B=>exact d _ (.r9 h B)
 | r11 hx hk h=>exact d _ (.r11 hx hk h)
 | r12 h B hm hl=>exact (E h B).1 hl
 | r13 h B hm hl=>exact (E h B).2 hl
 | r14 hx hk h O h2=>exact d _ (.r14 hx hk h O h2)
end
def fj_ (loops:List Str) (A:List Str):List Fc:=A.flatMap fun a=>Z_ a a::Z_ a [42]::loops.map fun r=>aa_ a r a
theorem lN_ {ps:List Pc} {A:List Str} {S:Fc→Prop} {M:Fc→Fc→Prop}:∀ y∈fj_ (aw_ ps) A,One ps A S M y:=by
 intro y d;obtain⟨a,e,d⟩:=List.mem_flatMap.1 d;simp only[List.mem_cons]at d;rcases d with rfl|rfl|d
 ·exact .r1 e
 ·exact .r2 e
 obtain⟨r,B,rfl⟩:=List.mem_map.1 d;obtain⟨z,C,rfl⟩:=List.mem_map.1 B;obtain⟨E,h⟩:=List.mem_filter.1 C;exact .r10 E (of_decide_eq_true h) e
theorem gY_ {ps:List Pc} {A:List Str} {a:Str} (d:a∈A):Z_ a a∈fj_ (aw_ ps) A∧Z_ a [42]∈fj_ (aw_ ps) A∧∀ z∈ps,z.kind=7→aa_ a z.r a∈fj_ (aw_ ps) A:=by
  refine⟨List.mem_flatMap.2 ⟨a,d,by simp⟩,List.mem_flatMap.2 ⟨a,d,by simp⟩,fun z e hk=>List.mem_flatMap.2 ⟨a,d,?_⟩⟩;exact List.mem_cons_of_mem _ (List.mem_cons_of_mem _ (List.mem_map.2 ⟨z.r,List.mem_map.2 ⟨z,List.mem_filter.2 ⟨e,decide_eq_true hk⟩,rfl⟩,rfl⟩))
structure LoopA (ps:List Pc) (A:List Str) (m n:Nat) (q fm:List Fc) (x:Ix):Prop where
  nd:q.Nodup
  len:q.length≤m+1
  le:n≤q.length
  der:∀ y∈q,Der ps A y
  ix:x.of (·∈q.take n) (·∈fm)
  inv:q.length≤m→InvA ps A m n q fm x
section
variable {ps:List Pc} {A:List Str} {m n:Nat} {q fm:List Fc} {x:Ix} {f:Fc}
theorem qO_ (L:∀ x∈ps,x.vok) {q:List Fc} (G:emits (bo_ m) (fj_ (aw_ ps) A) []=q):LoopA ps A m 0 q [] Ix.nil:=by
 have E:∀ y∈q,y∈fj_ (aw_ ps) A:=fun y C=>by rw[← G]at C;exact (gx_ m _ _ y C).elim (fun h=>by simp at h) id
 have d:∀ y∈q,Der ps A y:=fun y C=>Der.step (lN_ y (E y C))
 have H:q.Nodup:=by rw[← G];exact iW_ m _ _ List.nodup_nil
 have I:Ix.nil.of (·∈q.take 0) (·∈([]:List Fc)):=by
   have e:(fun y=>y∈q.take 0)=(fun _=>False):=funext fun y=>by simp
   rw[e];exact Ix.of_nil _
 refine⟨H,by rw[← G];exact pG_ m _ _ zj_,Nat.zero_le _,d,I,fun hl=>⟨H,hl,Nat.zero_le _,d,fun y C=>(d y C).form L,I,by simp,fun y C hk=>?_,fun a J=>?_,fun y C=>?_⟩⟩
 ·exfalso
  obtain⟨a,_,h⟩:=List.mem_flatMap.1 (E y C);simp only[List.mem_cons]at h;rcases h with rfl|rfl|h
  ·simp[Z_]at hk
  ·simp[Z_]at hk
  obtain⟨r,_,rfl⟩:=List.mem_map.1 h;simp[aa_]at hk
 ·obtain⟨O,N,M⟩:=gY_ (ps:=ps) J
  rw[← G]at hl ⊢;exact⟨iX_ m _ _ hl _ O,iX_ m _ _ hl _ N,fun z K hk=>iX_ m _ _ hl _ (M z K hk)⟩
 rw[← G]at hl;have B:∀ a∈A,_:=fun a J=>gY_ (ps:=ps) J
 have F:∀ z∈fj_ (aw_ ps) A,z∈q:=fun z K=>by rw[← G];exact iX_ m _ _ hl z K
 cases C with
 | r1 h=>exact F _ (B _ h).1
 | r2 h=>exact F _ (B _ h).2.1
 | r10 hx hk h=>exact F _ ((B _ h).2.2 _ hx hk)
 | r3 hx hk h=>simp at h
 | r4 hx hk h h'=>simp at h
 | r5 hx hk h=>simp at h
 | r6 hx hk h=>simp at h
 | r7 hx hk h h'=>simp at h
 | r8 hx hk h h'=>simp at h
 | r9 h h'=>simp at h
 | r11 hx hk h=>simp at h
 | r12 h h' hm hl=>simp at h
 | r13 h h' hm hl=>simp at h
 | r14 hx hk h h1 h2=>simp at h
theorem fX_ (E:∀ x∈ps,x.vok) (h:LoopA ps A m n q fm x) (H:q[n]? = some f) (j:Nat) {B:List Fc×List Fc} (G:rls (bo_ m) idk (aM_ ps) (x.add (decide (f∈fm)) f) f j (q,fm)=B) :
    B.1.Nodup∧B.1.length≤m+1∧(∀ y∈B.1,Der ps A y)∧∃ t,B.1=q++t:=by
  have d:f∈q:=List.mem_of_getElem? H;have e:∀ y,(y∈q.take n∨y=f)→y∈q:=fun y F=>F.elim (fun h=>List.mem_of_mem_take h) (fun h=>h▸d)
  obtain⟨L,C⟩:=kJ_ (ps:=ps) (x:=x.add (decide (f∈fm)) f) (f:=f) (fB_ m) j (q,fm);rw[G]at C;refine⟨by rw[C];exact iW_ m L q h.nd,by rw[C];exact pG_ m L q h.len,?_,by rw[C];exact ko_ m L q⟩;rw[← G];exact mU_ E (Ix.of_add h.ix f zj_) (fun y F=>(h.der y (e y F)).form E) ((h.der f d).form E) (q,fm) e d h.der j
theorem jx_ (e:∀ x∈ps,x.vok) (h:LoopA ps A m n q fm x) (y:q[n]? = some f) {d:List Fc×List Fc} (B:rls (bo_ m) idk (aM_ ps) (x.add (decide (f∈fm)) f) f (nrl f) (q,fm)=d) (hl:d.1.length≤m) :
    LoopA ps A m (n+1) d.1 d.2 (x.add (decide (f∈fm)) f):=by
  obtain⟨_,_,_,t,C⟩:=fX_ e h y (nrl f) B;have hi:=wh_ e (h.inv (by rw[C,List.length_append]at hl;omega)) y B hl;exact⟨hi.nd,by have:=hi.len;omega,hi.le,hi.der,hi.ix,fun _=>hi⟩
theorem sa_ (h:LoopA ps A m q.length q fm x) (hl:q.length≤m) (y:Fc):Der ps A y↔y∈q:=wi_ (h.inv hl) y
end
theorem zf_eq (x:Pc):∃ n,{ x.zf with frm:=n }=x:=⟨x.frm,rfl⟩
theorem qd_ {p:List Pc} {A:List Str} {y:Fc}:Der (uniq [] p) A y↔Der p A y:=by
 constructor
 ·refine Der.mono (fun x d=>?_) (fun _ h=>h)
  rcases (jM_ p [] x).1 d with h|⟨z,e,rfl⟩
  ·simp at h
  exact⟨z,e,0,rfl⟩
 exact Der.mono (fun x d=>⟨x.zf,(jM_ p [] _).2 (.inr ⟨x,d,rfl⟩),zf_eq x⟩) (fun _ h=>h)
theorem uO_ {p:List Pc} (h:∀ x∈p,x.vok):∀ x∈uniq [] p,x.vok:=fun x e=>by
 rcases (jM_ p [] x).1 e with y|⟨z,d,rfl⟩
 ·simp at y
 exact⟨(h z d).rok,(h z d).num⟩
def Fc.lt (x y:Fc):Prop:=x.kind<y.kind∨x.kind=y.kind∧(x.a<y.a∨x.a=y.a∧(x.b<y.b∨x.b=y.b∧(x.r<y.r∨x.r=y.r∧(x.lo<y.lo∨x.lo=y.lo∧x.hi<y.hi))))
instance (x y:Fc):Decidable (Fc.lt x y):=by unfold Fc.lt;exact inferInstance
theorem gq_ (x:Str):¬ x<x:=List.lt_irrefl x
theorem pb_ (x y:Str):x<y∨x=y∨y<x:=by
 by_cases h:x<y
 ·exact .inl h
 by_cases d:y<x
 ·exact .inr (.inr d)
 exact .inr (.inl (List.le_antisymm (List.not_lt.1 d) (List.not_lt.1 h)))
theorem Fc.lt_irr (x:Fc):¬ x.lt x:=by
  unfold Fc.lt;simp[gq_]
theorem Fc.lt_tri (x y:Fc):x.lt y∨x=y∨y.lt x:=by
 unfold Fc.lt;rcases Int.lt_trichotomy x.kind y.kind with h|h|h
 ·exact .inl (.inl h)
 ·rcases pb_ x.a y.a with d|d|d
  ·exact .inl (.inr ⟨h,.inl d⟩)
  ·rcases pb_ x.b y.b with e|e|e
   ·exact .inl (.inr ⟨h,.inr ⟨d,.inl e⟩⟩)
   ·rcases pb_ x.r y.r with B|B|B
    ·exact .inl (.inr ⟨h,.inr ⟨d,.inr ⟨e,.inl B⟩⟩⟩)
    ·rcases Int.lt_trichotomy x.lo y.lo with C|C|C
     ·exact .inl (.inr ⟨h,.inr ⟨d,.inr ⟨e,.inr ⟨B,.inl C⟩⟩⟩⟩)
     ·rcases Int.lt_trichotomy x.hi y.hi with E|E|E
      ·exact .inl (.inr ⟨h,.inr ⟨d,.inr ⟨e,.inr ⟨B,.inr ⟨C,E⟩⟩⟩⟩⟩)
      ·refine .inr (.inl ?_);cases x;cases y;simp_all
      exact .inr (.inr (.inr ⟨h.symm,.inr ⟨d.symm,.inr ⟨e.symm,.inr ⟨B.symm,.inr ⟨C.symm,E⟩⟩⟩⟩⟩))
     exact .inr (.inr (.inr ⟨h.symm,.inr ⟨d.symm,.inr ⟨e.symm,.inr ⟨B.symm,.inl C⟩⟩⟩⟩))
    exact .inr (.inr (.inr ⟨h.symm,.inr ⟨d.symm,.inr ⟨e.symm,.inl B⟩⟩⟩))
   exact .inr (.inr (.inr ⟨h.symm,.inr ⟨d.symm,.inl e⟩⟩))
  exact .inr (.inr (.inr ⟨h.symm,.inl d⟩))
 exact .inr (.inr (.inl h))
theorem gR_ {α:Type} {lt:α→α→Prop} (B:∀ {x y z},lt x y→lt y z→lt x z) {x y z:α} {P Q R:Prop} (h:x=y→y=z→P→Q→R) (e:lt x y∨x=y∧P) (d:lt y z∨y=z∧Q):lt x z∨x=z∧R:=by
 rcases e with e|⟨rfl,e⟩
 ·rcases d with d|⟨rfl,d⟩
  ·exact .inl (B e d)
  exact .inl e
 rcases d with d|⟨rfl,d⟩
 ·exact .inl d
 exact .inr ⟨rfl,h rfl rfl e d⟩
theorem Fc.lt_trans {x y z:Fc} (e:x.lt y) (d:y.lt z):x.lt z :=
  gR_ (lt:=fun a b:Int=>a<b) Int.lt_trans (fun _ _=>gR_ (lt:=fun a b:Str=>a<b) List.lt_trans (fun _ _=>gR_ (lt:=fun a b:Str=>a<b) List.lt_trans (fun _ _=>gR_ (lt:=fun a b:Str=>a<b) List.lt_trans (fun _ _=>gR_ (lt:=fun a b:Int=>a<b) Int.lt_trans fun _ _=>Int.lt_trans)))) e d
theorem hn_ {α:Type} {lt:α→α→Prop} (hi:∀ x,¬ lt x x) (B:∀ {x y z},lt x y→lt y z→lt x z):∀ {l m:List α},l.Pairwise lt→m.Pairwise lt→(∀ x,x∈l↔x∈m)→l=m
 | [],[],_,_,_=>rfl
 | [],y::m,_,_,h=>by have:=(h y).2 zj_;simp at this
 | x::l,[],_,_,h=>by have:=(h x).1 zj_;simp at this
 | x::l,y::m,h1,h2,h=>by
   rw[List.pairwise_cons]at h1 h2
   have e:x=y:=by
     rcases List.mem_cons.1 ((h x).1 zj_) with e|C
     · exact e
     · rcases List.mem_cons.1 ((h y).2 zj_) with e|E
       · exact e.symm
       · exact absurd (B (h1.1 y E) (h2.1 x C)) (hi x)
   subst e
   congr 1
   refine hn_ hi B h1.2 h2.2 fun z=>⟨fun d=>?_,fun d=>?_⟩
   · rcases List.mem_cons.1 ((h z).1 zS_) with rfl|q
     · exact absurd (h1.1 z d) (hi z)
     · exact q
   · rcases List.mem_cons.1 ((h z).2 zS_) with rfl|q
     · exact absurd (h2.1 z d) (hi z)
     · exact q
abbrev Srt (l:List Fc):Prop:=l.Pairwise Fc.lt
theorem Srt.ext {l m:List Fc} (e:Srt l) (d:Srt m) (h:∀ x,x∈l↔x∈m):l=m:=hn_ Fc.lt_irr Fc.lt_trans e d h
def gD_ (p:List Pc) (A:List Str) (m:Nat):Option (List Fc)→Prop
  | some L=>Srt L∧(∀ y,y∈L↔Der p A y)∧L.length≤m
  | none=>∃ M:List Fc,M.Nodup∧(∀ y∈M,Der p A y)∧m<M.length
theorem cN_ {α:Type} [DecidableEq α]:∀ {l m:List α},l.Nodup→(∀ x∈l,x∈m)→l.length≤m.length
  | [],m,_,_=>by simp
  | x::l,m,h,hs=>by
    rw[List.nodup_cons]at h
    have:=cN_ (l:=l) (m:=m.erase x) h.2 fun y C=>by
      have d:y≠x:=fun e=>h.1 (e▸C)
      exact (List.mem_erase_of_ne d).2 (hs y (by simp[C]))
    have B:=hs x zj_;rw[List.length_erase_of_mem B]at this;have:0<m.length:=List.length_pos_of_mem B;simp only[List.length_cons];omega
theorem gD_.uniq {p:List Pc} {A:List Str} {m:Nat} {r e:Option (List Fc)} (h:gD_ p A m r) (d:gD_ p A m e):r=e:=by
  cases r with
  | none =>
    cases e with
    | none=>rfl
    | some L =>
      obtain⟨M,y,E,G⟩:=h;obtain⟨_,B,F⟩:=d;have:=cN_ y fun x C=>(B x).2 (E x C)
      omega
  | some L =>
    cases e with
    | none =>
      obtain⟨M,y,E,G⟩:=d;obtain⟨_,B,F⟩:=h;have:=cN_ y fun x C=>(B x).2 (E x C)
      omega
    | some L'=>rw[h.1.ext d.1 fun x=>by rw[h.2.1,d.2.1]]
end Go.Vs
namespace Go.Vs
open Go Go.Sx
section
variable {ps:List Pc} {A:List Str} {c:List Fc} {x:Ix} {f:Fc}
theorem Cmpl.up {S J I good E:Fc→Prop} (h:Cmpl ps S J I good f) (C:∀ y,good y→E y):Cmpl ps S J I E f :=
  ⟨fun z a d e q=>C _ (h.c3 z a d e q),fun z a d e q B=>C _ (h.c4 z a d e q B),fun z a d e q B=>C _ (h.c4' z a d e q B),fun z a d e q=>C _ (h.c5 z a d e q),fun z a b d e q=>C _ (h.c6 z a b d e q),
   fun z a b c d e q B=>C _ (h.c7 z a b c d e q B),fun z a b c d e q B=>C _ (h.c7' z a b c d e q B),fun z a b d e q B=>C _ (h.c8 z a b d e q B),fun z a b d e q B=>C _ (h.c8' z a b d e q B),fun a r b d e=>C _ (h.c9 a r b d e),fun a r b d e=>C _ (h.c9' a r b d e),
   fun z a d e q=>C _ (h.c11 z a d e q),fun y d e q B F H G=>C _ (h.c12 y d e q B F H G),fun y d e q B F H G=>C _ (h.c13 y d e q B F H G),fun z a lo hi d e q B F=>C _ (h.c14 z a lo hi d e q B F)⟩
theorem wB_ {good:Fc→Prop} (e:∀ y∈fj_ (aw_ ps) A,good y) (d:∀ f∈c,Cmpl ps (·∈c) (fun _=>True) (·∈c) good f) {y:Fc} (h:hI_ ps A (·∈c) y):good y:=by
  cases h with
  | r1 h=>exact e _ (gY_ h).1
  | r2 h=>exact e _ (gY_ h).2.1
  | r10 hx hk h=>exact e _ ((gY_ h).2.2 _ hx hk)
  | r3 hx hk h=>exact (d _ h).c3 _ _ hx hk rfl
  | r4 hx hk h h'=>exact (d _ h).c4 _ _ hx hk rfl h'
  | r5 hx hk h=>exact (d _ h).c5 _ _ hx hk rfl
  | r6 hx hk h=>exact (d _ h).c6 _ _ _ hx hk rfl
  | r7 hx hk h h'=>exact (d _ h).c7 _ _ _ _ hx hk rfl h'
  | r8 hx hk h h'=>exact (d _ h).c8 _ _ _ hx hk rfl h'
  | r9 h h'=>exact (d _ h).c9 _ _ _ rfl h'
  | r11 hx hk h=>exact (d _ h).c11 _ _ hx hk rfl
  | r12 h h' hm hl=>exact (d _ h).c12 _ rfl h' rfl rfl rfl (.inl trivial) hl
  | r13 h h' hm hl=>exact (d _ h).c13 _ rfl h' rfl rfl rfl (.inl trivial) hl
  | r14 hx hk h h1 h2=>exact (d _ h).c14 _ _ _ _ hx hk rfl h1 h2
end
def fd_ (l:List Fc) (f:Fc):Nat:=l.countP fun y=>decide (y.lt f)
def sg_ (l:List Fc) (f:Fc):List Fc:=if f∈l then l else l.take (fd_ l f)++f::l.drop (fd_ l f)
theorem lD_:∀ {l:List Fc} (f:Fc),Srt l→(∀ y∈l.take (fd_ l f),y.lt f)∧(∀ y∈l.drop (fd_ l f),¬ y.lt f)
 | [],f,_=>by simp[fd_]
 | x::l,f,h=>by
   rw[Srt,List.pairwise_cons]at h;obtain⟨E,F⟩:=lD_ f h.2
   by_cases C:x.lt f
   · have e:fd_ (x::l) f=fd_ l f+1:=by simp[fd_,C]
     rw[e];simp only[List.take_succ_cons,List.drop_succ_cons];exact⟨fun y d=>(List.mem_cons.1 d).elim (fun q=>q▸C) (E y),F⟩
   · have B:∀ y∈l,¬ y.lt f:=fun y d q=>C (Fc.lt_trans (h.1 y d) q)
     have e:fd_ (x::l) f=0:=by
       simp only[fd_,List.countP_cons,C,decide_false,Bool.false_eq_true,if_false,Nat.add_zero];rw[List.countP_eq_zero];intro y d;simpa using B y d
     rw[e];simp only[List.take_zero,List.not_mem_nil,false_imp_iff,implies_true,true_and,List.drop_zero];intro y d;rcases List.mem_cons.1 d with rfl|d
     · exact C
     · exact B y d
theorem wl_ (l:List Fc) (f y:Fc):y∈sg_ l f↔y∈l∨y=f:=by
 unfold sg_
 split
 ·rename_i h
  exact⟨.inl,fun q=>q.elim id fun e=>e▸h⟩
 have:y∈l↔y∈l.take (fd_ l f)∨y∈l.drop (fd_ l f):=by rw[← List.mem_append,List.take_append_drop]
 rw[this];simp only[List.mem_append,List.mem_cons];constructor
 ·rintro (h|h|h)
  ·exact .inl (.inl h)
  ·exact .inr h
  exact .inl (.inr h)
 rintro ((h|h)|h)
 ·exact .inl h
 ·exact .inr (.inr h)
 exact .inr (.inl h)
theorem wk_ {l:List Fc} (f:Fc) (h:Srt l):Srt (sg_ l f):=by
 unfold sg_
 split
 ·exact h
 rename_i F
 obtain⟨B,G⟩:=lD_ f h
 have e:∀ y∈l.drop (fd_ l f),f.lt y:=fun y E=>by
   rcases Fc.lt_tri f y with q|q|q
   · exact q
   · exact absurd (List.mem_of_mem_drop E) (q▸F)
   · exact absurd q (G y E)
 rw[Srt,List.pairwise_append];refine⟨h.sublist (List.take_sublist _ _),List.pairwise_cons.2 ⟨e,h.sublist (List.drop_sublist _ _)⟩,fun a C b d=>?_⟩;rcases List.mem_cons.1 d with rfl|d
 ·exact B a C
 exact Fc.lt_trans (B a C) (e b d)
def subA (p:List Pc) (l:List Fc) (f:Fc):List Fc:=p.flatMap fun x =>
  if x.kind=1∧x.a=f.b then [Z_ f.a x.c]
  else if x.kind=2∧(x.a=f.b∧Z_ f.a x.b∈l∨x.b=f.b∧Z_ f.a x.a∈l) then [Z_ f.a x.c]
  else if x.kind=3∧x.a=f.b then [aa_ f.a x.r x.c]
  else if x.kind=8∧x.a=f.b then [af_ f.a x.r x.lo x.hi]
  else []
def subBp (p:List Pc) (f y:Fc):List Fc:=p.flatMap fun x=>if x.kind=4∧x.r=y.r∧x.a=f.b then [Z_ y.a x.c] else []
def subB (p:List Pc) (f y:Fc):List Fc:=if y.kind≠2∨y.b≠f.a then [] else (if f.b=[33] then [Z_ y.a [33]] else [])++subBp p f y
def subS (p:List Pc) (l:List Fc) (f:Fc):List Fc:=subA p l f++l.flatMap (subB p f)
def td_ (x:Pc) (f y:Fc):List Fc:=if y.kind≠2 then [] else (if x.r=f.r∧y.a=f.b∧y.r=x.s then [aa_ f.a x.t y.b] else [])++(if x.s=f.r∧y.b=f.a∧y.r=x.r then [aa_ y.a x.t f.b] else [])
def oG_ (l:List Fc) (f:Fc) (x:Pc):List Fc :=
  if x.kind=5∧x.r=f.r then [aa_ f.a x.t f.b]
  else if x.kind=4∧x.r=f.r∧Z_ f.b x.a∈l then [Z_ f.a x.c]
  else if x.kind=6 then l.flatMap (td_ x f) else []
def yP_ (p:List Pc) (l:List Fc) (f:Fc):List Fc:=(if Z_ f.b [33]∈l then [Z_ f.a [33]] else [])++p.flatMap (oG_ l f)
def pj_ (f y:Fc):List Fc:=if y.kind≠3∨y.a≠f.a∨y.r≠f.r then [] else if max f.lo y.lo≤min f.hi y.hi then [dH_ f y] else [Z_ f.a [33]]
def rO_ (f:Fc) (x:Pc):List Fc:=if x.kind=9∧x.r=f.r∧x.lo≤f.lo∧f.hi≤x.hi then [Z_ f.a x.c] else []
def vw_ (p:List Pc) (l:List Fc) (f:Fc):List Fc:=l.flatMap (pj_ f)++p.flatMap (rO_ f)
def gM_ (p:List Pc) (l:List Fc) (f:Fc):List Fc:=if f.kind=1 then subS p l f else if f.kind=2 then yP_ p l f else vw_ p l f
def kU_ (p:List Pc) (A:List Str):List Fc:=A.flatMap fun a=>Z_ a a::Z_ a [42]::(p.filter fun x=>decide (x.kind=7)).map fun x=>aa_ a x.r a
theorem oO_ (p:List Pc) (A:List Str):kU_ p A=fj_ (aw_ p) A:=by
  unfold kU_ fj_ aw_;simp[List.map_map,Function.comp_def]
section
variable {p:List Pc} {A:List Str} {l:List Fc} {f:Fc}
theorem qg_ (q:f∈l) (H:∀ y∈l,y.form):∀ y∈gM_ p l f,hI_ p A (·∈l) y:=by
 have G:=H f q;have hk:=iU_ G;intro y d;unfold gM_ at d
 split at d
 ·rename_i K
  have ef:=nD_ G K;rcases List.mem_append.1 d with d|d
  ·obtain⟨x,B,d⟩:=List.mem_flatMap.1 d
   split at d
   ·rename_i e
    simp at d;subst d
    exact .r3 B e.1 zas_
   split at d
   ·rename_i e
    simp at d;subst d
    rcases e.2 with h|h
    ·exact .r4 B e.1 (by rw[h.1,← ef];exact q) h.2
    exact .r4 B e.1 h.2 (by rw[h.1,← ef];exact q)
   split at d
   ·rename_i e
    simp at d;subst d
    exact .r5 B e.1 zas_
   split at d
   ·rename_i e
    simp at d;subst d
    exact .r11 B e.1 zas_
   simp at d
  obtain⟨g,E,d⟩:=List.mem_flatMap.1 d;unfold subB at d
  split at d
  ·simp at d
  rename_i e
  simp only[not_or,Decidable.not_not]at e;have F:=(kk_ (H g E) e.1).1;rcases List.mem_append.1 d with d|d
  ·split at d
   ·rename_i J
    simp at d;subst d
    exact .r9 (r:=g.r) (b:=g.b) (by rw[← F];exact E) (by rw[e.2,← J,← ef];exact q)
   simp at d
  obtain⟨x,B,d⟩:=List.mem_flatMap.1 d
  split at d
  ·rename_i C
   simp at d;subst d
   exact .r8 (b:=g.b) B C.1 (by rw[C.2.1,← F];exact E) (by rw[e.2,C.2.2,← ef];exact q)
  simp at d
 split at d
 ·rename_i L
  have ef:=(kk_ G L).1;rcases List.mem_append.1 d with d|d
  ·split at d
   ·rename_i J
    simp at d;subst d
    exact .r9 (r:=f.r) (b:=f.b) (by rw[← ef];exact q) J
   simp at d
  obtain⟨x,B,d⟩:=List.mem_flatMap.1 d;unfold oG_ at d
  split at d
  ·rename_i e
   simp at d;subst d
   exact .r6 B e.1 zas_
  split at d
  ·rename_i e
   simp at d;subst d
   exact .r8 (b:=f.b) B e.1 (by rw[e.2.1,← ef];exact q) e.2.2
  split at d
  ·rename_i e
   obtain⟨g,E,d⟩:=List.mem_flatMap.1 d;unfold td_ at d
   split at d
   ·simp at d
   rename_i I
   have F:=(kk_ (H g E) (Decidable.not_not.1 I)).1;rcases List.mem_append.1 d with d|d
   ·split at d
    ·rename_i C
     simp at d;subst d
     exact .r7 (b:=f.b) B e (by rw[C.1,← ef];exact q) (by rw[← C.2.2,← C.2.1,← F];exact E)
    simp at d
   split at d
   ·rename_i C
    simp at d;subst d
    exact .r7 (b:=f.a) B e (by rw[← C.2.2,← C.2.1,← F];exact E) (by rw[C.1,← ef];exact q)
   simp at d
  simp at d
 rename_i K L
 have M:f.kind=3:=by omega
 have ef:=(hO_ G M).1;rcases List.mem_append.1 d with d|d
 ·obtain⟨g,E,d⟩:=List.mem_flatMap.1 d
  unfold pj_ at d
  split at d
  ·simp at d
  rename_i e
  simp only[not_or,Decidable.not_not]at e;have F:=(hO_ (H g E) e.1).1;rw[e.2.1,e.2.2]at F
  split at d
  ·rename_i hl
   simp at d;subst d
   exact .r12 (by rw[← ef];exact q) (by rw[← F];exact E) trivial hl
  rename_i hl
  simp at d;subst d
  exact .r13 (r:=f.r) (by rw[← ef];exact q) (by rw[← F];exact E) trivial (Int.not_le.1 hl)
 obtain⟨x,B,d⟩:=List.mem_flatMap.1 d;unfold rO_ at d
 split at d
 ·rename_i e
  simp at d;subst d
  exact .r14 B e.1 (by rw[e.2.1,← ef];exact q) e.2.2.1 e.2.2.2
 simp at d
theorem rF_:Cmpl p (·∈l) (fun _=>True) (·∈l) (·∈gM_ p l f) f:=by
 have q:∀ {a b y},f=Z_ a b→(y∈subS p l f)→y∈gM_ p l f:=fun e h=>by unfold gM_;rw[if_pos (by rw[e];rfl)];exact h
 have B:∀ {a r b y},f=aa_ a r b→(y∈yP_ p l f)→y∈gM_ p l f:=fun e h=>by unfold gM_;rw[if_neg (by rw[e];simp[aa_]),if_pos (by rw[e];rfl)];exact h
 have C:∀ {y},f.kind=3→(y∈vw_ p l f)→y∈gM_ p l f:=fun e h=>by unfold gM_;rw[if_neg (by rw[e];decide),if_neg (by rw[e];decide)];exact h
 refine⟨?_,?_,?_,?_,?_,?_,?_,?_,?_,?_,?_,?_,?_,?_,?_⟩
 ·intro z a d hk e
  refine q e (List.mem_append_left _ (List.mem_flatMap.2 ⟨z,d,?_⟩));rw[e,if_pos ⟨hk,rfl⟩];simp[Z_]
 ·intro z a d hk e h
  refine q e (List.mem_append_left _ (List.mem_flatMap.2 ⟨z,d,?_⟩));rw[e,if_neg zI_,if_pos ⟨hk,.inl ⟨rfl,h⟩⟩];simp[Z_]
 ·intro z a d hk e h
  refine q e (List.mem_append_left _ (List.mem_flatMap.2 ⟨z,d,?_⟩));rw[e,if_neg zI_,if_pos ⟨hk,.inr ⟨rfl,h⟩⟩];simp[Z_]
 ·intro z a d hk e
  refine q e (List.mem_append_left _ (List.mem_flatMap.2 ⟨z,d,?_⟩));rw[e,if_neg zI_,if_neg zI_,if_pos ⟨hk,rfl⟩];simp[Z_]
 ·intro z a b d hk e
  refine B e (List.mem_append_right _ (List.mem_flatMap.2 ⟨z,d,?_⟩));rw[e,oG_,if_pos ⟨hk,rfl⟩];simp[aa_]
 ·intro z a b c d hk e h
  refine B e (List.mem_append_right _ (List.mem_flatMap.2 ⟨z,d,?_⟩));rw[e,oG_,if_neg zI_,if_neg zI_,if_pos hk];refine List.mem_flatMap.2 ⟨_,h,?_⟩;rw[td_,if_neg (by simp[aa_])];refine List.mem_append_left _ ?_;rw[if_pos ⟨rfl,rfl,rfl⟩];simp[aa_]
 ·intro z a b c d hk e h
  refine B e (List.mem_append_right _ (List.mem_flatMap.2 ⟨z,d,?_⟩));rw[e,oG_,if_neg zI_,if_neg zI_,if_pos hk];refine List.mem_flatMap.2 ⟨_,h,?_⟩;rw[td_,if_neg (by simp[aa_])];refine List.mem_append_right _ ?_;rw[if_pos ⟨rfl,rfl,rfl⟩];simp[aa_]
 ·intro z a b d hk e h
  refine B e (List.mem_append_right _ (List.mem_flatMap.2 ⟨z,d,?_⟩));rw[e,oG_,if_neg zI_,if_pos ⟨hk,rfl,h⟩];simp[aa_]
 ·intro z a b d hk e h
  refine q e (List.mem_append_right _ (List.mem_flatMap.2 ⟨_,h,?_⟩));rw[subB,if_neg (by rw[e];simp[aa_,Z_])];refine List.mem_append_right _ (List.mem_flatMap.2 ⟨z,d,?_⟩);rw[e,if_pos ⟨hk,rfl,rfl⟩];simp[aa_]
 ·intro a r b e h
  refine B e (List.mem_append_left _ ?_);rw[e,if_pos (show Z_ (aa_ a r b).b [33]∈l from h)];simp[aa_]
 ·intro a r b e h
  refine q e (List.mem_append_right _ (List.mem_flatMap.2 ⟨_,h,?_⟩));rw[subB,if_neg (by rw[e];simp[aa_,Z_])];refine List.mem_append_left _ ?_;rw[e,if_pos (show (Z_ b [33]).b=[33] from rfl)];simp[aa_]
 ·intro z a d hk e
  refine q e (List.mem_append_left _ (List.mem_flatMap.2 ⟨z,d,?_⟩));rw[e,if_neg zI_,if_neg zI_,if_neg zI_,if_pos ⟨hk,rfl⟩];simp[Z_]
 ·intro y H G hk F E _ hl
  refine C H (List.mem_append_left _ (List.mem_flatMap.2 ⟨y,G,?_⟩));rw[pj_,if_neg (by simp[hk,F,E]),if_pos hl];simp
 ·intro y H G hk F E _ hl
  refine C H (List.mem_append_left _ (List.mem_flatMap.2 ⟨y,G,?_⟩));rw[pj_,if_neg (by simp[hk,F,E]),if_neg (Int.not_le.2 hl)];simp
 intro z a lo hi d hk e I J;refine C (by rw[e];rfl) (List.mem_append_right _ (List.mem_flatMap.2 ⟨z,d,?_⟩));rw[e,rO_,if_pos ⟨hk,rfl,I,J⟩];simp[af_]
theorem yT_ {α β:Type} {g:α→List β} {n:Nat}:∀ (l:List α),(∀ x∈l,(g x).length≤n)→(l.flatMap g).length≤l.length*n
  | [],_=>by simp
  | x::l,h=>by
    have:=yT_ l fun y d=>h y zS_
    have e:=h x zj_;simp only[List.flatMap_cons,List.length_append,List.length_cons,Nat.add_mul,Nat.one_mul];omega
theorem qI_ (h:∀ y∈l,y.form) (y:Fc):y∈kU_ p A++l.flatMap (fun f=>gM_ p l f)↔hI_ p A (·∈l) y:=by
 constructor
 ·intro d
  rcases List.mem_append.1 d with d|d
  ·rw[oO_]at d;exact lN_ y d
  obtain⟨f,e,d⟩:=List.mem_flatMap.1 d;exact qg_ e h y d
 intro d;refine wB_ (c:=l) (good:=fun y=>y∈kU_ p A++l.flatMap (fun f=>gM_ p l f)) (fun y d=>List.mem_append_left _ (by rw[oO_];exact d)) (fun f e=>?_) d;exact rF_.up fun y d=>List.mem_append_right _ (List.mem_flatMap.2 ⟨f,e,d⟩)
end
def grow1 (p:List Pc) (A:List Str) (l:List Fc):List Fc:=(kU_ p A++l.flatMap (fun f=>gM_ p l f)).foldl sg_ l
def nN_ (p:List Pc) (A:List Str):Nat→List Fc
  | 0=>[]
  | n+1=>grow1 p A (nN_ p A n)
theorem nz_:∀ (d l:List Fc) (y:Fc),y∈d.foldl sg_ l↔y∈l∨y∈d
 | [],l,y=>by simp
 | x::d,l,y=>by
   rw[List.foldl_cons,nz_ d,wl_];simp only[List.mem_cons];constructor
   · rintro ((h|h)|h)
     · exact .inl h
     · exact .inr (.inl h)
     · exact .inr (.inr h)
   · rintro (h|h|h)
     · exact .inl (.inl h)
     · exact .inl (.inr h)
     · exact .inr h
theorem ny_:∀ (d:List Fc) {l:List Fc},Srt l→Srt (d.foldl sg_ l)
  | [],_,h=>h
  | x::d,_,h=>ny_ d (wk_ x h)
theorem rl_ (p:List Pc) (A:List Str):∀ n,Srt (nN_ p A n)
  | 0=>List.Pairwise.nil
  | n+1=>ny_ _ (rl_ p A n)
theorem nM_ {p:List Pc} {A:List Str} (e:∀ x∈p,x.vok):∀ n,∀ y∈nN_ p A n,Der p A y
 | 0,y,hy=>by simp[nN_]at hy
 | n+1,y,hy=>by
   have d:=nM_ (A:=A) e n;rcases (nz_ _ _ y).1 hy with h|h
   · exact d y h
   · exact Der.step (((qI_ (fun z B=>(d z B).form e) y).1 h).mono (fun x q=>⟨x,q,x.frm,rfl⟩) (fun _ h=>h) d (fun _ _ h=>h))
theorem rm_ {p:List Pc} {A:List Str} (d:∀ x∈p,x.vok) (n m:Nat) (q:((kU_ p A++(nN_ p A n).flatMap (fun f=>gM_ p (nN_ p A n) f)).all fun y=>decide (y∈nN_ p A n))=true) (hl:(nN_ p A n).length≤m):gD_ p A m (some (nN_ p A n)):=by
  refine⟨rl_ p A n,fun y=>⟨nM_ d n y,fun h=>h.least fun z e=>?_⟩,hl⟩;exact of_decide_eq_true (List.all_eq_true.1 q z ((qI_ (fun w B=>(nM_ d n w B).form d) z).2 e))
end Go.Vs
