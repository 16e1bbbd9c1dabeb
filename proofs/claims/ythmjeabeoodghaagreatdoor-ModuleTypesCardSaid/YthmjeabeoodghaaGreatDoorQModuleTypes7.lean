/-
  Lemmas for the law ModuleTypes (no condition).
-/
import Derived.Test.YthmjeabeoodghaaGreatDoorQModuleTypes6
set_option linter.unusedVariables false
set_option linter.unusedSimpArgs false
set_option linter.unusedSectionVars false
set_option maxHeartbeats 1000000
namespace Go.Vs
open Go Go.Sx
def W_ (a b:Str):Fc:=⟨1,a,b,[],0,0⟩
def as_ (a r b:Str):Fc:=⟨2,a,b,r,0,0⟩
def Y_ (a r:Str) (lo hi:Int):Fc:=⟨3,a,[],r,lo,hi⟩
inductive One (p:List Pc) (A:List Str) (S:Fc→Prop) (M:Fc→Fc→Prop):Fc→Prop
  | r1 {a:Str} (h:a∈A):One p A S M (W_ a a)
  | r2 {a:Str} (h:a∈A):One p A S M (W_ a [42])
  | r10 {a:Str} {x:Pc} (hx:x∈p) (hk:x.kind=7) (h:a∈A):One p A S M (as_ a x.r a)
  | r3 {a:Str} {x:Pc} (hx:x∈p) (hk:x.kind=1) (h:S (W_ a x.a)):One p A S M (W_ a x.c)
  | r4 {a:Str} {x:Pc} (hx:x∈p) (hk:x.kind=2) (h:S (W_ a x.a)) (h':S (W_ a x.b)):One p A S M (W_ a x.c)
  | r5 {a:Str} {x:Pc} (hx:x∈p) (hk:x.kind=3) (h:S (W_ a x.a)):One p A S M (as_ a x.r x.c)
  | r6 {a b:Str} {x:Pc} (hx:x∈p) (hk:x.kind=5) (h:S (as_ a x.r b)):One p A S M (as_ a x.t b)
  | r7 {a b c:Str} {x:Pc} (hx:x∈p) (hk:x.kind=6) (h:S (as_ a x.r b)) (h':S (as_ b x.s c)):One p A S M (as_ a x.t c)
  | r8 {a b:Str} {x:Pc} (hx:x∈p) (hk:x.kind=4) (h:S (as_ a x.r b)) (h':S (W_ b x.a)):One p A S M (W_ a x.c)
  | r9 {a r b:Str} (h:S (as_ a r b)) (h':S (W_ b [33])):One p A S M (W_ a [33])
  | r11 {a:Str} {x:Pc} (hx:x∈p) (hk:x.kind=8) (h:S (W_ a x.a)):One p A S M (Y_ a x.r x.lo x.hi)
  | r12 {a r:Str} {lo hi lo' hi':Int} (h:S (Y_ a r lo hi)) (h':S (Y_ a r lo' hi')) (hm:M (Y_ a r lo hi) (Y_ a r lo' hi')) (hl:max lo lo'≤min hi hi'):One p A S M (Y_ a r (max lo lo') (min hi hi'))
  | r13 {a r:Str} {lo hi lo' hi':Int} (h:S (Y_ a r lo hi)) (h':S (Y_ a r lo' hi')) (hm:M (Y_ a r lo hi) (Y_ a r lo' hi')) (hl:min hi hi'<max lo lo'):One p A S M (W_ a [33])
  | r14 {a:Str} {lo hi:Int} {x:Pc} (hx:x∈p) (hk:x.kind=9) (h:S (Y_ a x.r lo hi)) (h1:x.lo≤lo) (h2:hi≤x.hi):One p A S M (W_ a x.c)
abbrev kG_ (p:List Pc) (A:List Str) (S:Fc→Prop):Fc→Prop:=One p A S (fun _ _=>True)
theorem One.mono {p B:List Pc} {A E:List Str} {S v:Fc→Prop} {M C:Fc→Fc→Prop} (e:∀ x∈p,∃ y∈B,∃ n,{ y with frm:=n }=x) (m:∀ a∈A,a∈E) (hS:∀ y,S y→v y) (F:∀ x y,M x y→C x y) {y:Fc} (h:One p A S M y):One B E v C y:=by
  cases h with
  | r1 h=>exact .r1 (m _ h)
  | r2 h=>exact .r2 (m _ h)
  | r10 hx hk h=>obtain⟨z,d,n,rfl⟩:=e _ hx;exact One.r10 (x:=z) d hk (m _ h)
  | r3 hx hk h=>obtain⟨z,d,n,rfl⟩:=e _ hx;exact One.r3 (x:=z) d hk (hS _ h)
  | r4 hx hk h h'=>obtain⟨z,d,n,rfl⟩:=e _ hx;exact One.r4 (x:=z) d hk (hS _ h) (hS _ h')
  | r5 hx hk h=>obtain⟨z,d,n,rfl⟩:=e _ hx;exact One.r5 (x:=z) d hk (hS _ h)
  | r6 hx hk h=>obtain⟨z,d,n,rfl⟩:=e _ hx;exact One.r6 (x:=z) d hk (hS _ h)
  | r7 hx hk h h'=>obtain⟨z,d,n,rfl⟩:=e _ hx;exact One.r7 (x:=z) d hk (hS _ h) (hS _ h')
  | r8 hx hk h h'=>obtain⟨z,d,n,rfl⟩:=e _ hx;exact One.r8 (x:=z) d hk (hS _ h) (hS _ h')
  | r9 h h'=>exact .r9 (hS _ h) (hS _ h')
  | r11 hx hk h=>obtain⟨z,d,n,rfl⟩:=e _ hx;exact One.r11 (x:=z) d hk (hS _ h)
  | r12 h h' hm hl=>exact .r12 (hS _ h) (hS _ h') (F _ _ hm) hl
  | r13 h h' hm hl=>exact .r13 (hS _ h) (hS _ h') (F _ _ hm) hl
  | r14 hx hk h h1 h2=>obtain⟨z,d,n,rfl⟩:=e _ hx;exact One.r14 (x:=z) d hk (hS _ h) h1 h2
def Der (p:List Pc) (A:List Str) (y:Fc):Prop:=∀ T:Fc→Prop,(∀ y,kG_ p A T y→T y)→T y
theorem Der.step {p:List Pc} {A:List Str} {y:Fc} (h:kG_ p A (Der p A) y):Der p A y :=
  fun T d=>d y (h.mono (fun x m=>⟨x,m,x.frm,rfl⟩) (fun _ h=>h) (fun z e=>e T d) (fun _ _ h=>h))
theorem Der.mono {p d:List Pc} {A e:List Str} (m:∀ x∈p,∃ y∈d,∃ n,{ y with frm:=n }=x) (v:∀ a∈A,a∈e) {y:Fc} (h:Der p A y):Der d e y :=
  h _ fun _ B=>Der.step (B.mono m v (fun _ h=>h) (fun _ _ h=>h))
theorem Der.least {p:List Pc} {A:List Str} {T:Fc→Prop} (d:∀ y,kG_ p A T y→T y) {y:Fc} (h:Der p A y):T y:=h T d
structure Ky where
  kind:Int
  role:Str
  atom:Str
deriving DecidableEq
abbrev kF_:=Str×Str
def lat {K D:Type} [DecidableEq K] (l:List (K×D)) (k:K):List D:=(l.filter fun e=>decide (e.1=k)).map (·.2)
theorem cW_ {K D:Type} [DecidableEq K] {l:List (K×D)} {k:K} {d:D}:d∈lat l k↔(k,d)∈l:=by
  unfold lat;simp only[List.mem_map,List.mem_filter,decide_eq_true_eq];exact⟨fun⟨⟨a,b⟩,⟨e,m⟩,v⟩=>by subst m;subst v;exact e,fun h=>⟨(k,d),⟨h,rfl⟩,rfl⟩⟩
theorem kB_ {K D:Type} [DecidableEq K] (l m:List (K×D)) (k:K):lat (l++m) k=lat l k++lat m k:=by simp[lat]
theorem fF_ {K D:Type} [DecidableEq K] (l:List (K×D)) (k:K):(lat l k).length≤l.length:=by
  simp only[lat,List.length_map];exact List.length_filter_le _ _
def cX_ (x:Pc):List (Ky×Pc) :=
  if x.kind=1∨x.kind=3∨x.kind=8 then [(⟨x.kind,[],x.a⟩,x)]
  else if x.kind=2 then if x.b≠x.a then [(⟨x.kind,[],x.a⟩,x),(⟨x.kind,[],x.b⟩,x)] else [(⟨x.kind,[],x.a⟩,x)]
  else if x.kind=4 then [(⟨x.kind,[],x.a⟩,x),(⟨x.kind,x.r,x.a⟩,x)]
  else if x.kind=5∨x.kind=9 then [(⟨x.kind,x.r,[]⟩,x)]
  else if x.kind=6 then [(⟨x.kind,x.r,[]⟩,x),(⟨x.kind,[],x.s⟩,x)]
  else []
def Pc.zf (x:Pc):Pc:={ x with frm:=0 }
def uniq:List Pc→List Pc→List Pc
  | l,[]=>l
  | l,x::r=>uniq (if x.zf∈l then l else l++[x.zf]) r
theorem kN_:∀ (r l:List Pc) (x:Pc),x∈uniq l r↔x∈l∨∃ y∈r,y.zf=x
 | [],l,x=>by simp[uniq]
 | y::r,l,x=>by
   rw[uniq,kN_ r]
   by_cases h:y.zf∈l
   · rw[if_pos h]
     constructor
     · rintro (d|⟨z,d,e⟩)
       · exact .inl d
       · exact .inr ⟨z,by simp[d],e⟩
     · rintro (d|⟨z,d,e⟩)
       · exact .inl d
       · rcases List.mem_cons.1 d with rfl|d
         · exact .inl (e▸h)
         · exact .inr ⟨z,d,e⟩
   · rw[if_neg h]
     simp only[List.mem_append,List.mem_cons,List.not_mem_nil,or_false];constructor
     · rintro ((d|d)|⟨z,d,e⟩)
       · exact .inl d
       · exact .inr ⟨y,.inl rfl,d.symm⟩
       · exact .inr ⟨z,.inr d,e⟩
     · rintro (d|⟨z,d|d,e⟩)
       · exact .inl (.inl d)
       · subst d;exact .inl (.inr e.symm)
       · exact .inr ⟨z,d,e⟩
theorem kO_:∀ (r l:List Pc),(uniq l r).length≤l.length+r.length
  | [],l=>by simp[uniq]
  | y::r,l=>by
    rw[uniq];have:=kO_ r (if y.zf∈l then l else l++[y.zf]);have d:(if y.zf∈l then l else l++[y.zf]).length≤l.length+1:=by split<;>simp
    simp only[List.length_cons];omega
def bc_ (ps:List Pc):List (Ky×Pc):=ps.flatMap cX_
def aP_ (ps:List Pc):List Str:=(ps.filter fun x=>decide (x.kind=7)).map (·.r)
theorem zo_ (x:Pc):∀ e∈cX_ x,e.2=x∧e.1.kind=x.kind:=by
  unfold cX_
  repeat' split
  all_goals simp
theorem ee_ {x y:Pc} {k:Ky} (h:(k,y)∈cX_ x):y=x∧k.kind=x.kind:=zo_ x _ h
def Pc.rok (x:Pc):Prop:=(x.kind=4∨x.kind=5∨x.kind=6∨x.kind=9∨x.kind=3∨x.kind=7∨x.kind=8→x.r≠[])∧(x.kind=6→x.s≠[]∧x.t≠[])∧(x.kind=5→x.t≠[])
theorem hl_ {ps:List Pc} {k:Ky} {x:Pc}:x∈lat (bc_ ps) k↔x∈ps∧(k,x)∈cX_ x:=by
 rw[cW_,bc_,List.mem_flatMap];constructor
 ·rintro ⟨y,d,h⟩
  obtain⟨rfl,_⟩:=ee_ h;exact⟨d,h⟩
 rintro ⟨e,m⟩;exact⟨x,e,m⟩
theorem pm1 {ps:List Pc} {b:Str} {x:Pc}:x∈lat (bc_ ps) ⟨1,[],b⟩↔x∈ps∧x.kind=1∧x.a=b:=by
 rw[hl_];refine and_congr_right fun _=>⟨fun h=>?_,fun⟨h,e⟩=>?_⟩
 ·have d:=(ee_ h).2
  simp only at d;simp[cX_,← d]at h
  exact⟨d.symm,h.symm⟩
 subst e;simp[cX_,h]
theorem pm2 {ps:List Pc} {b:Str} {x:Pc}:x∈lat (bc_ ps) ⟨2,[],b⟩↔x∈ps∧x.kind=2∧(x.a=b∨x.b=b):=by
 rw[hl_];refine and_congr_right fun _=>⟨fun h=>?_,fun⟨h,m⟩=>?_⟩
 ·have d:=(ee_ h).2
  simp only at d;simp[cX_,← d]at h
  split at h
  ·simp at h;exact⟨d.symm,.inl h.symm⟩
  simp at h;rcases h with h|h
  ·exact⟨d.symm,.inl h.symm⟩
  exact⟨d.symm,.inr h.symm⟩
 by_cases e:x.b=x.a
 ·have:x.a=b:=m.elim id (fun q=>e▸q)
  subst this;simp[cX_,h,e]
 rcases m with rfl|rfl<;>simp[cX_,h,e]
theorem pm3 {ps:List Pc} {b:Str} {x:Pc}:x∈lat (bc_ ps) ⟨3,[],b⟩↔x∈ps∧x.kind=3∧x.a=b:=by
 rw[hl_];refine and_congr_right fun _=>⟨fun h=>?_,fun⟨h,e⟩=>?_⟩
 ·have d:=(ee_ h).2
  simp only at d;simp[cX_,← d]at h
  exact⟨d.symm,h.symm⟩
 subst e;simp[cX_,h]
theorem pm8 {ps:List Pc} {b:Str} {x:Pc}:x∈lat (bc_ ps) ⟨8,[],b⟩↔x∈ps∧x.kind=8∧x.a=b:=by
 rw[hl_];refine and_congr_right fun _=>⟨fun h=>?_,fun⟨h,e⟩=>?_⟩
 ·have d:=(ee_ h).2
  simp only at d;simp[cX_,← d]at h
  exact⟨d.symm,h.symm⟩
 subst e;simp[cX_,h]
theorem pm5 {ps:List Pc} {r:Str} {x:Pc}:x∈lat (bc_ ps) ⟨5,r,[]⟩↔x∈ps∧x.kind=5∧x.r=r:=by
 rw[hl_];refine and_congr_right fun _=>⟨fun h=>?_,fun⟨h,e⟩=>?_⟩
 ·have d:=(ee_ h).2
  simp only at d;simp[cX_,← d]at h
  exact⟨d.symm,h.symm⟩
 subst e;simp[cX_,h]
theorem pm9 {ps:List Pc} {r:Str} {x:Pc}:x∈lat (bc_ ps) ⟨9,r,[]⟩↔x∈ps∧x.kind=9∧x.r=r:=by
 rw[hl_];refine and_congr_right fun _=>⟨fun h=>?_,fun⟨h,e⟩=>?_⟩
 ·have d:=(ee_ h).2
  simp only at d;simp[cX_,← d]at h
  exact⟨d.symm,h.symm⟩
 subst e;simp[cX_,h]
theorem pm6 {ps:List Pc} {r:Str} (m:r≠[]) {x:Pc}:x∈lat (bc_ ps) ⟨6,r,[]⟩↔x∈ps∧x.kind=6∧x.r=r:=by
 rw[hl_];refine and_congr_right fun v=>⟨fun h=>?_,fun⟨h,e⟩=>?_⟩
 ·have d:=(ee_ h).2
  simp only at d;simp[cX_,← d,m]at h
  exact⟨d.symm,h.symm⟩
 subst e;simp[cX_,h]
theorem pm6' {ps:List Pc} {s:Str} {x:Pc} (m:s≠[]):x∈lat (bc_ ps) ⟨6,[],s⟩↔x∈ps∧x.kind=6∧x.s=s:=by
 rw[hl_];refine and_congr_right fun v=>⟨fun h=>?_,fun⟨h,e⟩=>?_⟩
 ·have d:=(ee_ h).2
  simp only at d;simp[cX_,← d,m]at h
  exact⟨d.symm,h.symm⟩
 subst e;simp[cX_,h]
theorem pm4 {ps:List Pc} (m:∀ x∈ps,x.rok) {b:Str} {x:Pc}:x∈lat (bc_ ps) ⟨4,[],b⟩↔x∈ps∧x.kind=4∧x.a=b:=by
 rw[hl_];refine and_congr_right fun v=>⟨fun h=>?_,fun⟨h,e⟩=>?_⟩
 ·have d:=(ee_ h).2
  simp only at d;have y:=(m x v).1 (.inl d.symm);simp[cX_,← d]at h
  refine⟨d.symm,h.elim (fun q=>q.symm) (fun q=>absurd q.1 y)⟩
 subst e;simp[cX_,h]
theorem pm4' {ps:List Pc} {r b:Str} (v:r≠[]) {x:Pc}:x∈lat (bc_ ps) ⟨4,r,b⟩↔x∈ps∧x.kind=4∧x.r=r∧x.a=b:=by
 rw[hl_];refine and_congr_right fun y=>⟨fun h=>?_,fun⟨h,m,e⟩=>?_⟩
 ·have d:=(ee_ h).2
  simp only at d;simp[cX_,← d,v]at h
  exact⟨d.symm,h.1.symm,h.2.symm⟩
 subst m e;simp[cX_,h]
structure Ix where
  above:List (Str×Str)
  under:List (Str×Str)
  frm:List (kF_×Str)
  into:List (kF_×Str)
  ranges:List (kF_×Fc)
  firms:List (kF_×Fc)
def Ix.nil:Ix:=⟨[],[],[],[],[],[]⟩
def Ix.add (x:Ix) (firm:Bool) (f:Fc):Ix :=
  if f.kind=1 then { x with above:=x.above++[(f.a,f.b)] }
  else if f.kind=2 then { x with under:=x.under++[(f.b,f.a)],frm:=x.frm++[((f.a,f.r),f.b)],into:=x.into++[((f.b,f.r),f.a)] }
  else if f.kind=3 then { x with ranges:=x.ranges++[((f.a,f.r),f)],firms:=if firm then x.firms++[((f.a,f.r),f)] else x.firms }
  else x
structure Ix.of (x:Ix) (S Fm:Fc→Prop):Prop where
  above:∀ a b,(a,b)∈x.above↔∃ f,S f∧f.kind=1∧f.a=a∧f.b=b
  under:∀ b a,(b,a)∈x.under↔∃ f,S f∧f.kind=2∧f.a=a∧f.b=b
  frm:∀ a r b,((a,r),b)∈x.frm↔∃ f,S f∧f.kind=2∧f.a=a∧f.r=r∧f.b=b
  into:∀ a r b,((b,r),a)∈x.into↔∃ f,S f∧f.kind=2∧f.a=a∧f.r=r∧f.b=b
  ranges:∀ a r f,((a,r),f)∈x.ranges↔S f∧f.kind=3∧f.a=a∧f.r=r
  firms:∀ a r f,((a,r),f)∈x.firms↔S f∧Fm f∧f.kind=3∧f.a=a∧f.r=r
theorem Ix.of_nil (Fm:Fc→Prop):Ix.nil.of (fun _=>False) Fm:=by
  constructor<;>simp[Ix.nil]
theorem Ix.of_add {x:Ix} {S Fm:Fc→Prop} (h:x.of S Fm) (f:Fc) {b:Bool} (C:b=true↔Fm f):(x.add b f).of (fun y=>S y∨y=f) Fm:=by
 have d:∀ (Q:Fc→Prop),(∃ y,(S y∨y=f)∧Q y)↔(∃ y,S y∧Q y)∨Q f:=fun Q=>by
   constructor
   · rintro ⟨y,B|rfl,v⟩
     · exact .inl ⟨y,B,v⟩
     · exact .inr v
   · rintro (⟨y,B,v⟩|v)
     · exact⟨y,.inl B,v⟩
     · exact⟨f,.inr rfl,v⟩
 unfold Ix.add
 split
 ·rename_i m
  constructor
  ·intro a c;rw[d,← h.above];simp[m];exact or_congr_right ⟨fun⟨p,q⟩=>⟨p.symm,q.symm⟩,fun⟨p,q⟩=>⟨p.symm,q.symm⟩⟩
  ·intro a c;rw[d,← h.under];simp[m]
  ·intro a r c;rw[d,← h.frm];simp[m]
  ·intro a r c;rw[d,← h.into];simp[m]
  ·intro a r y;rw[h.ranges];constructor
   ·exact fun q=>⟨.inl q.1,q.2⟩
   rintro ⟨q|rfl,e⟩
   ·exact⟨q,e⟩
   rw[m]at e;exact absurd e.1 zad_
  intro a r y;rw[h.firms];constructor
  ·exact fun q=>⟨.inl q.1,q.2⟩
  rintro ⟨q|rfl,e⟩
  ·exact⟨q,e⟩
  rw[m]at e;exact absurd e.2.1 zad_
 split
 ·rename_i m
  constructor
  ·intro a c;rw[d,← h.above];simp[m]
  ·intro a c;rw[d,← h.under];simp[m];exact or_congr_right ⟨fun⟨p,q⟩=>⟨q.symm,p.symm⟩,fun⟨p,q⟩=>⟨q.symm,p.symm⟩⟩
  ·intro a r c;rw[d,← h.frm];simp[m];exact or_congr_right ⟨fun⟨⟨p,q⟩,s⟩=>⟨p.symm,q.symm,s.symm⟩,fun⟨p,q,s⟩=>⟨⟨p.symm,q.symm⟩,s.symm⟩⟩
  ·intro a r c;rw[d,← h.into];simp[m];exact or_congr_right ⟨fun⟨⟨p,q⟩,s⟩=>⟨s.symm,q.symm,p.symm⟩,fun⟨p,q,s⟩=>⟨⟨s.symm,q.symm⟩,p.symm⟩⟩
  ·intro a r y;rw[h.ranges];constructor
   ·exact fun q=>⟨.inl q.1,q.2⟩
   rintro ⟨q|rfl,e⟩
   ·exact⟨q,e⟩
   rw[m]at e;exact absurd e.1 zad_
  intro a r y;rw[h.firms];constructor
  ·exact fun q=>⟨.inl q.1,q.2⟩
  rintro ⟨q|rfl,e⟩
  ·exact⟨q,e⟩
  rw[m]at e;exact absurd e.2.1 zad_
 split
 ·rename_i m
  constructor
  ·intro a c;rw[d,← h.above];simp[m]
  ·intro a c;rw[d,← h.under];simp[m]
  ·intro a r c;rw[d,← h.frm];simp[m]
  ·intro a r c;rw[d,← h.into];simp[m]
  ·intro a r y
   simp only[List.mem_append,List.mem_singleton,h.ranges,Prod.mk.injEq];constructor
   ·rintro (⟨q,e⟩|⟨⟨rfl,rfl⟩,rfl⟩)
    ·exact⟨.inl q,e⟩
    exact⟨.inr rfl,m,rfl,rfl⟩
   rintro ⟨q|rfl,e,rfl,rfl⟩
   ·exact .inl ⟨q,e,rfl,rfl⟩
   exact .inr ⟨⟨rfl,rfl⟩,rfl⟩
  intro a r y;cases b with
  | false =>
    simp only[Bool.false_eq_true,if_false,h.firms];constructor
    · exact fun q=>⟨.inl q.1,q.2⟩
    · rintro ⟨q|rfl,e⟩
      · exact⟨q,e⟩
      · exact absurd (C.2 e.1) zad_
  | true =>
    simp only[if_true,List.mem_append,List.mem_singleton,h.firms,Prod.mk.injEq];constructor
    · rintro (⟨q,e⟩|⟨⟨rfl,rfl⟩,rfl⟩)
      · exact⟨.inl q,e⟩
      · exact⟨.inr rfl,C.1 rfl,m,rfl,rfl⟩
    · rintro ⟨q|rfl,e,F,rfl,rfl⟩
      · exact .inl ⟨q,e,F,rfl,rfl⟩
      · exact .inr ⟨⟨rfl,rfl⟩,rfl⟩
 rename_i B v E
 constructor
 ·intro a c;rw[d,← h.above];simp[B]
 ·intro a c;rw[d,← h.under];simp[v]
 ·intro a r c;rw[d,← h.frm];simp[v]
 ·intro a r c;rw[d,← h.into];simp[v]
 ·intro a r y;rw[h.ranges];constructor
  ·exact fun q=>⟨.inl q.1,q.2⟩
  rintro ⟨q|rfl,e⟩
  ·exact⟨q,e⟩
  exact absurd e.1 E
 intro a r y;rw[h.firms];constructor
 ·exact fun q=>⟨.inl q.1,q.2⟩
 rintro ⟨q|rfl,e⟩
 ·exact⟨q,e⟩
 exact absurd e.2.1 E
theorem Ix.of_firm {x:Ix} {S Fm d:Fc→Prop} (h:x.of S Fm) (e:∀ y,S y→(Fm y↔d y)):x.of S d :=
  ⟨h.above,h.under,h.frm,h.into,h.ranges,fun a r f=>by rw[h.firms];exact and_congr_right fun m=>by rw[e f m]⟩
section
variable (pm:List (Ky×Pc)) (x:Ix) (f:Fc)
def hH_:List Fc:=(lat pm ⟨1,[],f.b⟩).map fun y=>W_ f.a y.c
def qa_:List Fc:=(lat pm ⟨3,[],f.b⟩).map fun y=>as_ f.a y.r y.c
def hE_:List Fc:=(lat pm ⟨5,f.r,[]⟩).map fun y=>as_ f.a y.t f.b
def gi_:List Fc:=(lat pm ⟨6,f.r,[]⟩).flatMap fun y=>(lat x.frm (f.b,y.s)).map fun c=>as_ f.a y.t c
def im_:List Fc:=(lat pm ⟨6,[],f.r⟩).flatMap fun y=>(lat x.into (f.a,y.r)).map fun a=>as_ a y.t f.b
def go_:List Fc:=(lat x.above f.b).flatMap fun c=>(lat pm ⟨4,f.r,c⟩).map fun y=>W_ f.a y.c
def gp_:List Fc:=(lat pm ⟨4,[],f.b⟩).flatMap fun y=>(lat x.into (f.a,y.r)).map fun a=>W_ a y.c
def dr_:List Fc:=if f.b=[33] then (lat x.under f.a).map fun a=>W_ a [33] else []
def xy_:List Fc:=((lat pm ⟨9,f.r,[]⟩).filter fun y=>decide (y.lo≤f.lo∧f.hi≤y.hi)).map fun y=>W_ f.a y.c
def dM_ (y:Fc):Fc:=Y_ f.a f.r (max f.lo y.lo) (min f.hi y.hi)
def fh_ (y:Fc):Bool:=decide (min f.hi y.hi<max f.lo y.lo)
def eS_ (firm:Bool):List Fc:=if firm then lat x.ranges (f.a,f.r) else lat x.firms (f.a,f.r)
def he_ (l:List Fc):List Fc:=(l.filter fun y=>!fh_ f y&&decide (dM_ f y≠f∧dM_ f y≠y)).map (dM_ f)
def io_ (l:List Fc):List Fc:=if l.any (fh_ f) then [W_ f.a [33]] else []
end
section
variable (stp:Fc→List Fc→List Fc) (kof:List Fc→List Fc)
def emits (L:List Fc) (s:List Fc):List Fc:=L.foldl (fun s y=>stp y s) s
def eF_ (f:Fc) (l:List Pc) (s:List Fc):List Fc:=l.foldl (fun s y=>if W_ f.a y.a∈kof s∧W_ f.a y.b∈kof s then stp (W_ f.a y.c) s else s) s
def cn_ (f:Fc) (l:List Pc) (s:List Fc×List Fc):List Fc×List Fc:=l.foldl (fun s y=>(stp (Y_ f.a y.r y.lo y.hi) s.1,if Y_ f.a y.r y.lo y.hi∈kof s.1 then s.2 else Y_ f.a y.r y.lo y.hi::s.2)) s
end
theorem aX_ (stp:Fc→List Fc→List Fc) (L M:List Fc) (s:List Fc):emits stp (L++M) s=emits stp M (emits stp L s):=by simp[emits]
structure Grows (stp:Fc→List Fc→List Fc) (kof:List Fc→List Fc):Prop where
  up:∀ y s z,z∈kof s→z∈kof (stp y s)
theorem Grows.emits {stp:Fc→List Fc→List Fc} {kof:List Fc→List Fc} (h:Grows stp kof):∀ (L s:List Fc) (z:Fc),z∈kof s→z∈kof (emits stp L s)
  | [],_,_,hz=>hz
  | y::L,s,z,hz=>h.emits L _ z (h.up y s z hz)
theorem fS_ {stp:Fc→List Fc→List Fc} {kof:List Fc→List Fc} (h:Grows stp kof) (f:Fc):∀ (l:List Pc) (s:List Fc),
    ∃ L,eF_ stp kof f l s=emits stp L s∧(∀ y∈L,∃ x∈l,y=W_ f.a x.c∧W_ f.a x.a∈kof (eF_ stp kof f l s)∧W_ f.a x.b∈kof (eF_ stp kof f l s))∧(∀ x∈l,W_ f.a x.a∈kof s→W_ f.a x.b∈kof s→W_ f.a x.c∈L)
  | [],s=>⟨[],rfl,by simp,by simp⟩
  | x::l,s=>by
    by_cases m:W_ f.a x.a∈kof s∧W_ f.a x.b∈kof s
    · obtain⟨L,C,F,G⟩:=fS_ h f l (stp (W_ f.a x.c) s)
      have e:eF_ stp kof f (x::l) s=eF_ stp kof f l (stp (W_ f.a x.c) s):=by simp only[eF_,List.foldl_cons,if_pos m]
      refine⟨W_ f.a x.c::L,by rw[e,C];rfl,fun y v=>?_,fun z d E B=>?_⟩
      · rw[e]
        rcases List.mem_cons.1 v with rfl|v
        · refine⟨x,by simp,rfl,?_,?_⟩<;>rw[C]<;>exact h.emits L _ _ (h.up _ _ _ (by first|exact m.1|exact m.2))
        · obtain⟨z,d,q⟩:=F y v
          exact⟨z,by simp[d],q⟩
      · rcases List.mem_cons.1 d with rfl|d
        · simp
        · exact List.mem_cons_of_mem _ (G z d (h.up _ _ _ E) (h.up _ _ _ B))
    · obtain⟨L,C,F,G⟩:=fS_ h f l s
      have e:eF_ stp kof f (x::l) s=eF_ stp kof f l s:=by simp only[eF_,List.foldl_cons,if_neg m]
      refine⟨L,by rw[e,C],fun y v=>?_,fun z d E B=>?_⟩
      · rw[e]
        obtain⟨z,d,q⟩:=F y v;exact⟨z,by simp[d],q⟩
      · rcases List.mem_cons.1 d with rfl|d
        · exact absurd ⟨E,B⟩ m
        · exact G z d E B
theorem fr_ (stp:Fc→List Fc→List Fc) (kof:List Fc→List Fc) (f:Fc):∀ (l:List Pc) (s fm:List Fc),(cn_ stp kof f l (s,fm)).1=emits stp (l.map fun y=>Y_ f.a y.r y.lo y.hi) s
  | [],_,_=>rfl
  | x::l,s,fm=>by
    simp only[cn_,List.foldl_cons,List.map_cons,emits];exact fr_ stp kof f l _ _
theorem hT_ {stp:Fc→List Fc→List Fc} {kof:List Fc→List Fc} (h:Grows stp kof) (f:Fc):∀ (l:List Pc) (s fm:List Fc) (z:Fc),z∈(cn_ stp kof f l (s,fm)).2↔z∈fm∨(z ∉ kof s∧z∈(cn_ stp kof f l (s,fm)).2)
 | [],s,fm,z=>by simp[cn_]
 | x::l,s,fm,z=>by
   have v:=hT_ h f l (stp (Y_ f.a x.r x.lo x.hi) s) (if Y_ f.a x.r x.lo x.hi∈kof s then fm else Y_ f.a x.r x.lo x.hi::fm) z;have e:cn_ stp kof f (x::l) (s,fm)=cn_ stp kof f l (stp (Y_ f.a x.r x.lo x.hi) s,if Y_ f.a x.r x.lo x.hi∈kof s then fm else Y_ f.a x.r x.lo x.hi::fm):=rfl;rw[e];constructor
   · intro m
     rcases v.1 m with d|d
     · split at d
       · exact .inl d
       · rename_i y
         rcases List.mem_cons.1 d with rfl|d
         · exact .inr ⟨y,m⟩
         · exact .inl d
     · exact .inr ⟨fun q=>d.1 (h.up _ _ _ q),m⟩
   · rintro (d|d)
     · exact v.2 (.inl (by split<;>simp[d]))
     · exact d.2
theorem oa_ {stp:Fc→List Fc→List Fc} {kof:List Fc→List Fc} (f:Fc):∀ (l:List Pc) (s fm:List Fc) (z:Fc),z∈(cn_ stp kof f l (s,fm)).2→z∈fm∨∃ y∈l,z=Y_ f.a y.r y.lo y.hi
 | [],s,fm,z,hz=>.inl hz
 | x::l,s,fm,z,hz=>by
   have e:cn_ stp kof f (x::l) (s,fm)=cn_ stp kof f l (stp (Y_ f.a x.r x.lo x.hi) s,if Y_ f.a x.r x.lo x.hi∈kof s then fm else Y_ f.a x.r x.lo x.hi::fm):=rfl;rw[e]at hz;rcases oa_ f l _ _ z hz with d|⟨y,h,d⟩
   · split at d
     · exact .inl d
     · rcases List.mem_cons.1 d with rfl|d
       · exact .inr ⟨x,by simp,rfl⟩
       · exact .inl d
   · exact .inr ⟨y,by simp[h],d⟩
def Fc.form (y:Fc):Prop:=(∃ a b,y=W_ a b)∨(∃ a r b,y=as_ a r b∧r≠[])∨(∃ a r lo hi,y=Y_ a r lo hi∧r≠[]∧-1099511627776≤lo∧lo≤hi∧hi≤1099511627776)
structure Pc.vok (x:Pc):Prop where
  rok:x.rok
  num:x.kind=8∨x.kind=9→-1099511627776≤x.lo∧x.lo≤x.hi∧x.hi≤1099511627776
theorem eT_ (a b:Str):(W_ a b).form:=.inl ⟨a,b,rfl⟩
theorem qI_ {f:Fc} (h:f.form) (d:f.kind=1):f=W_ f.a f.b:=by
 rcases h with⟨a,b,rfl⟩|⟨a,r,b,rfl,_⟩|⟨a,r,lo,hi,rfl,_⟩
 ·rfl
 ·simp[as_]at d
 simp[Y_]at d
theorem tC_ {f:Fc} (h:f.form) (d:f.kind=2):f=as_ f.a f.r f.b∧f.r≠[]:=by
 rcases h with⟨a,b,rfl⟩|⟨a,r,b,rfl,h⟩|⟨a,r,lo,hi,rfl,_⟩
 ·simp[W_]at d
 ·exact⟨rfl,h⟩
 simp[Y_]at d
theorem jW_ {f:Fc} (h:f.form) (d:f.kind=3):f=Y_ f.a f.r f.lo f.hi∧f.r≠[]∧-1099511627776≤f.lo∧f.lo≤f.hi∧f.hi≤1099511627776:=by
 rcases h with⟨a,b,rfl⟩|⟨a,r,b,rfl,_⟩|⟨a,r,lo,hi,rfl,h⟩
 ·simp[W_]at d
 ·simp[as_]at d
 exact⟨rfl,h⟩
theorem lV_ {f:Fc} (h:f.form):f.kind=1∨f.kind=2∨f.kind=3:=by
  rcases h with⟨a,b,rfl⟩|⟨a,r,b,rfl,h⟩|⟨a,r,lo,hi,rfl,_⟩<;>simp[W_,as_,Y_]
theorem One.form {p:List Pc} {A:List Str} {S:Fc→Prop} {M:Fc→Fc→Prop} (e:∀ x∈p,x.vok) (hS:∀ y,S y→y.form) {y:Fc} (h:One p A S M y):y.form:=by
  have d:∀ {a r:Str} {lo hi:Int},S (Y_ a r lo hi)→r≠[]∧-1099511627776≤lo∧lo≤hi∧hi≤1099511627776:=fun h=>(jW_ (hS _ h) rfl).2
  cases h with
  | r1 _=>exact eT_ _ _
  | r2 _=>exact eT_ _ _
  | r10 hx hk _=>exact .inr (.inl ⟨_,_,_,rfl,(e _ hx).rok.1 (by simp[hk])⟩)
  | r3 _ _ _=>exact eT_ _ _
  | r4 _ _ _ _=>exact eT_ _ _
  | r5 hx hk _=>exact .inr (.inl ⟨_,_,_,rfl,(e _ hx).rok.1 (by simp[hk])⟩)
  | r6 hx hk _=>exact .inr (.inl ⟨_,_,_,rfl,(e _ hx).rok.2.2 hk⟩)
  | r7 hx hk _ _=>exact .inr (.inl ⟨_,_,_,rfl,((e _ hx).rok.2.1 hk).2⟩)
  | r8 _ _ _ _=>exact eT_ _ _
  | r9 _ _=>exact eT_ _ _
  | r11 hx hk _=>exact .inr (.inr ⟨_,_,_,_,rfl,(e _ hx).rok.1 (by simp[hk]),(e _ hx).num (.inl hk)⟩)
  | r12 h h' _ hl=>exact .inr (.inr ⟨_,_,_,_,rfl,(d h).1,by have:=d h;omega,hl,by have:=d h;omega⟩)
  | r13 _ _ _ _=>exact eT_ _ _
  | r14 _ _ _ _ _=>exact eT_ _ _
section
variable {ps:List Pc} {A:List Str} {x:Ix} {S Fm:Fc→Prop} {f:Fc} {kn:List Fc}
theorem pM_ (h:f.kind=1) (C:f.form) (d:f∈kn):∀ y∈hH_ (bc_ ps) f,kG_ ps A (·∈kn) y:=by
  intro y e;obtain⟨z,E,rfl⟩:=List.mem_map.1 e;obtain⟨m,v,B⟩:=pm1.1 E;exact .r3 m v zbT_
theorem ut_ (h:f.kind=1) (C:f.form) (d:f∈kn):∀ y∈qa_ (bc_ ps) f,kG_ ps A (·∈kn) y:=by
  intro y e;obtain⟨z,E,rfl⟩:=List.mem_map.1 e;obtain⟨m,v,B⟩:=pm3.1 E;exact .r5 m v zbT_
theorem sr_ (h:f.kind=1) (C:f.form) (d:f∈kn):∀ y∈(lat (bc_ ps) ⟨8,[],f.b⟩).map (fun y=>Y_ f.a y.r y.lo y.hi),kG_ ps A (·∈kn) y:=by
  intro y e;obtain⟨z,E,rfl⟩:=List.mem_map.1 e;obtain⟨m,v,B⟩:=pm8.1 E;exact .r11 m v zbT_
theorem pK_ (h:f.kind=2) (C:f.form) (d:f∈kn):∀ y∈hE_ (bc_ ps) f,kG_ ps A (·∈kn) y:=by
  intro y e;obtain⟨z,E,rfl⟩:=List.mem_map.1 e;obtain⟨m,v,B⟩:=pm5.1 E;exact .r6 m v (by rw[B,← (tC_ C h).1];exact d)
theorem nE_ {hS:∀ y,S y→y.form} {a r b:Str} (h:∃ g,S g∧g.kind=2∧g.a=a∧g.r=r∧g.b=b):S (as_ a r b):=by
  obtain⟨g,d,e,rfl,rfl,rfl⟩:=h;rw[← (tC_ (hS g d) e).1];exact d
theorem ix_sub {hS:∀ y,S y→y.form} {a b:Str} (h:∃ g,S g∧g.kind=1∧g.a=a∧g.b=b):S (W_ a b):=by
  obtain⟨g,d,e,rfl,rfl⟩:=h;rw[← qI_ (hS g d) e];exact d
theorem tW_ (G:x.of S Fm) (hS:∀ y,S y→y.form) (h:∀ y,S y→y∈kn) (J:f.kind=2) (I:f.form) (m:f∈kn):∀ y∈gi_ (bc_ ps) x f++im_ (bc_ ps) x f,kG_ ps A (·∈kn) y:=by
 intro y d;obtain⟨e,H⟩:=tC_ I J;rcases List.mem_append.1 d with d|d
 ·obtain⟨z,F,d⟩:=List.mem_flatMap.1 d
  obtain⟨c,v,rfl⟩:=List.mem_map.1 d;obtain⟨B,C,E⟩:=(pm6 H).1 F;exact .r7 B C (by rw[E,← e];exact m) (h _ (nE_ (hS:=hS) ((G.frm _ _ _).1 (cW_.1 v))))
 obtain⟨z,F,d⟩:=List.mem_flatMap.1 d;obtain⟨c,v,rfl⟩:=List.mem_map.1 d;obtain⟨B,C,E⟩:=(pm6' H).1 F;exact .r7 B C (h _ (nE_ (hS:=hS) ((G.into _ _ _).1 (cW_.1 v)))) (by rw[E,← e];exact m)
theorem pj_ (C:x.of S Fm) (hS:∀ y,S y→y.form) (d:∀ y,S y→y∈kn) (E:f.kind=2) (B:f.form) (h:f∈kn):∀ y∈go_ (bc_ ps) x f,kG_ ps A (·∈kn) y:=by
  intro y m;obtain⟨e,J⟩:=tC_ B E;obtain⟨c,v,m⟩:=List.mem_flatMap.1 m;obtain⟨z,K,rfl⟩:=List.mem_map.1 m;obtain⟨F,G,H,I⟩:=(pm4' J).1 K;exact .r8 (b:=f.b) F G (by rw[H,← e];exact h) (by rw[I];exact d _ (ix_sub (hS:=hS) ((C.above _ _).1 (cW_.1 v))))
theorem pk_ (F:∀ x∈ps,x.vok) (d:x.of S Fm) (hS:∀ y,S y→y.form) (e:∀ y,S y→y∈kn) (C:f.kind=1) (B:f.form) (h:f∈kn):∀ y∈gp_ (bc_ ps) x f,kG_ ps A (·∈kn) y:=by
  intro y m;obtain⟨z,I,m⟩:=List.mem_flatMap.1 m;obtain⟨c,v,rfl⟩:=List.mem_map.1 m;obtain⟨E,G,H⟩:=(pm4 (fun x d=>(F x d).rok)).1 I;exact .r8 (b:=f.a) E G (e _ (nE_ (hS:=hS) ((d.into _ _ _).1 (cW_.1 v)))) (by rw[H,← qI_ B C];exact h)
theorem ns_ (v:x.of S Fm) (hS:∀ y,S y→y.form) (e:∀ y,S y→y∈kn) (C:f.kind=1) (m:f.form) (h:f∈kn):∀ y∈dr_ x f,kG_ ps A (·∈kn) y:=by
 intro y d;unfold dr_ at d
 split at d
 ·rename_i B
  obtain⟨a,I,rfl⟩:=List.mem_map.1 d;obtain⟨g,E,F,G,H⟩:=(v.under _ _).1 (cW_.1 I);exact .r9 (r:=g.r) (e _ (nE_ (hS:=hS) ⟨g,E,F,G,rfl,H⟩)) (by rw[← B,← qI_ m C];exact h)
 simp at d
theorem nr_ (m:f.kind=2) (e:f.form) (d:f∈kn) (h:W_ f.b [33]∈kn):kG_ ps A (·∈kn) (W_ f.a [33]) :=
  .r9 (r:=f.r) (b:=f.b) (by rw[← (tC_ e m).1];exact d) h
theorem xx_ (v:f.kind=3) (F:f.form) (e:f∈kn):∀ y∈xy_ (bc_ ps) f,kG_ ps A (·∈kn) y:=by
  intro y m;obtain⟨z,h,rfl⟩:=List.mem_map.1 m;obtain⟨h,d⟩:=List.mem_filter.1 h;obtain⟨B,C,E⟩:=pm9.1 h;have d:=of_decide_eq_true d;exact .r14 B C (by rw[E,← (jW_ F v).1];exact e) d.1 d.2
theorem lO_ (e:x.of S Fm) {firm:Bool} {y:Fc} (d:y∈eS_ x f firm):S y∧y.kind=3∧y.a=f.a∧y.r=f.r:=by
 unfold eS_ at d
 split at d
 ·exact (e.ranges _ _ _).1 (cW_.1 d)
 have:=(e.firms _ _ _).1 (cW_.1 d);exact⟨this.1,this.2.2⟩
theorem uS_ (I:x.of S Fm) (hS:∀ y,S y→y.form) (m:∀ y,S y→y∈kn) (K:f.kind=3) (J:f.form) (v:f∈kn) {firm:Bool}:∀ y∈he_ f (eS_ x f firm)++io_ f (eS_ x f firm),kG_ ps A (·∈kn) y:=by
 intro y d;have e:=(jW_ J K).1;rcases List.mem_append.1 d with d|d
 ·obtain⟨z,C,rfl⟩:=List.mem_map.1 d
  obtain⟨C,E⟩:=List.mem_filter.1 C;obtain⟨B,F,G,H⟩:=lO_ I C;simp only[fh_,Bool.and_eq_true,Bool.not_eq_true',decide_eq_false_iff_not,Int.not_lt]at E;have h:=(jW_ (hS z B) F).1;rw[G,H]at h;exact .r12 (by rw[← e];exact v) (by rw[← h];exact m z B) trivial E.1
 unfold io_ at d
 split at d
 ·rename_i L
  obtain⟨z,C,E⟩:=List.any_eq_true.1 L;obtain⟨B,F,G,H⟩:=lO_ I C;have h:=(jW_ (hS z B) F).1;rw[G,H]at h;simp only[List.mem_singleton]at d;subst d;exact .r13 (r:=f.r) (by rw[← e];exact v) (by rw[← h];exact m z B) trivial (by simpa [fh_] using E)
 simp at d
theorem tQ_ {z:Pc} {a:Str} (d:z∈ps) (e:z.kind=1):W_ a z.c∈hH_ (bc_ ps) (W_ a z.a) :=
  List.mem_map.2 ⟨z,pm1.2 ⟨d,e,rfl⟩,rfl⟩
theorem zd_ {z:Pc} {a:Str} (d:z∈ps) (e:z.kind=3):as_ a z.r z.c∈qa_ (bc_ ps) (W_ a z.a) :=
  List.mem_map.2 ⟨z,pm3.2 ⟨d,e,rfl⟩,rfl⟩
theorem wO_ {z:Pc} {a:Str} (e:z∈ps) (d:z.kind=8):Y_ a z.r z.lo z.hi∈(lat (bc_ ps) ⟨8,[],(W_ a z.a).b⟩).map (fun y=>Y_ (W_ a z.a).a y.r y.lo y.hi) :=
  List.mem_map.2 ⟨z,pm8.2 ⟨e,d,rfl⟩,rfl⟩
theorem tz_ {z:Pc} {a b:Str} (e:z∈ps) (d:z.kind=5):as_ a z.t b∈hE_ (bc_ ps) (as_ a z.r b) :=
  List.mem_map.2 ⟨z,pm5.2 ⟨e,d,rfl⟩,rfl⟩
theorem vv_ (v:x.of S Fm) (m:∀ x∈ps,x.vok) {z:Pc} {a b c:Str} (e:z∈ps) (d:z.kind=6) (h:S (as_ b z.s c)):as_ a z.t c∈gi_ (bc_ ps) x (as_ a z.r b) :=
  List.mem_flatMap.2 ⟨z,(pm6 ((m z e).rok.1 zaT_)).2 ⟨e,d,rfl⟩,List.mem_map.2 ⟨c,cW_.2 ((v.frm _ _ _).2 ⟨_,h,rfl,rfl,rfl,rfl⟩),rfl⟩⟩
theorem vu_ (v:x.of S Fm) (m:∀ x∈ps,x.vok) {z:Pc} {a b c:Str} (e:z∈ps) (d:z.kind=6) (h:S (as_ a z.r b)):as_ a z.t c∈im_ (bc_ ps) x (as_ b z.s c) :=
  List.mem_flatMap.2 ⟨z,(pm6' ((m z e).rok.2.1 d).1).2 ⟨e,d,rfl⟩,List.mem_map.2 ⟨a,cW_.2 ((v.into _ _ _).2 ⟨_,h,rfl,rfl,rfl,rfl⟩),rfl⟩⟩
theorem rM_ (v:x.of S Fm) (m:∀ x∈ps,x.vok) {z:Pc} {a b:Str} (e:z∈ps) (d:z.kind=4) (h:S (W_ b z.a)):W_ a z.c∈go_ (bc_ ps) x (as_ a z.r b) :=
  List.mem_flatMap.2 ⟨z.a,cW_.2 ((v.above _ _).2 ⟨_,h,rfl,rfl,rfl⟩),List.mem_map.2 ⟨z,(pm4' ((m z e).rok.1 zaT_)).2 ⟨e,d,rfl,rfl⟩,rfl⟩⟩
theorem rN_ (d:x.of S Fm) (m:∀ x∈ps,x.vok) {z:Pc} {a b:Str} (v:z∈ps) (e:z.kind=4) (h:S (as_ a z.r b)):W_ a z.c∈gp_ (bc_ ps) x (W_ b z.a) :=
  List.mem_flatMap.2 ⟨z,(pm4 (fun x d=>(m x d).rok)).2 ⟨v,e,rfl⟩,List.mem_map.2 ⟨a,cW_.2 ((d.into _ _ _).2 ⟨_,h,rfl,rfl,rfl,rfl⟩),rfl⟩⟩
theorem pL_ (d:x.of S Fm) {a r b:Str} (h:S (as_ a r b)):W_ a [33]∈dr_ x (W_ b [33]):=by
  unfold dr_;rw[if_pos (show (W_ b [33]).b=[33] from rfl)];exact List.mem_map.2 ⟨a,cW_.2 ((d.under _ _).2 ⟨_,h,rfl,rfl,rfl⟩),rfl⟩
theorem BM_ {z:Pc} {a:Str} {lo hi:Int} (m:z∈ps) (e:z.kind=9) (d:z.lo≤lo) (h:hi≤z.hi):W_ a z.c∈xy_ (bc_ ps) (Y_ a z.r lo hi) :=
  List.mem_map.2 ⟨z,List.mem_filter.2 ⟨pm9.2 ⟨m,e,rfl⟩,decide_eq_true ⟨d,h⟩⟩,rfl⟩
theorem qu_ (B:x.of S Fm) {firm:Bool} (d:firm=true↔Fm f) {y:Fc} (e:S y) (h:y.kind=3) (v:y.a=f.a) (m:y.r=f.r) (hm:Fm f∨Fm y):y∈eS_ x f firm:=by
  unfold eS_;cases firm with
  | true=>rw[if_pos rfl];exact cW_.2 ((B.ranges _ _ _).2 ⟨e,h,v,m⟩)
  | false =>
    rw[if_neg zad_];refine cW_.2 ((B.firms _ _ _).2 ⟨e,hm.resolve_left (fun q=>?_),h,v,m⟩);exact absurd (d.2 q) zad_
theorem ti_ {l:List Fc} {y:Fc} (d:y∈l) :
    (max f.lo y.lo≤min f.hi y.hi→dM_ f y∈he_ f l∨dM_ f y=f∨dM_ f y=y)∧(min f.hi y.hi<max f.lo y.lo→W_ f.a [33]∈io_ f l):=by
  refine⟨fun h=>?_,fun h=>?_⟩
  · by_cases e:dM_ f y=f
    · exact .inr (.inl e)
    · by_cases m:dM_ f y=y
      · exact .inr (.inr m)
      · refine .inl (List.mem_map.2 ⟨y,List.mem_filter.2 ⟨d,?_⟩,rfl⟩)
        simp only[fh_,Bool.and_eq_true,Bool.not_eq_true',decide_eq_false_iff_not,Int.not_lt,decide_eq_true_eq];exact⟨h,e,m⟩
  · unfold io_
    rw[if_pos (List.any_eq_true.2 ⟨y,d,by simpa [fh_] using h⟩)];simp
end
section
variable (stp:Fc→List Fc→List Fc) (kof:List Fc→List Fc) (pm:List (Ky×Pc)) (x:Ix) (f:Fc)
def rl (j:Nat) (s:List Fc×List Fc):List Fc×List Fc :=
  if f.kind=1 then
    (match j with
    | 0=>(emits stp (hH_ pm f) s.1,s.2)
    | 1=>(eF_ stp kof f (lat pm ⟨2,[],f.b⟩) s.1,s.2)
    | 2=>(emits stp (qa_ pm f) s.1,s.2)
    | 3=>(emits stp (gp_ pm x f) s.1,s.2)
    | 4=>(emits stp (dr_ x f) s.1,s.2)
    | _=>cn_ stp kof f (lat pm ⟨8,[],f.b⟩) s)
  else if f.kind=2 then
    (match j with
    | 0=>(emits stp (hE_ pm f) s.1,s.2)
    | 1=>(emits stp (gi_ pm x f++im_ pm x f) s.1,s.2)
    | 2=>(emits stp (go_ pm x f) s.1,s.2)
    | _=>(if W_ f.b [33]∈kof s.1 then stp (W_ f.a [33]) s.1 else s.1,s.2))
  else
    (match j with
    | 0=>(emits stp (he_ f (eS_ x f (decide (f∈s.2)))++io_ f (eS_ x f (decide (f∈s.2)))) s.1,s.2)
    | _=>(emits stp (xy_ pm f) s.1,s.2))
def rls:Nat→List Fc×List Fc→List Fc×List Fc
  | 0,s=>s
  | j+1,s=>rl stp kof pm x f j (rls j s)
def nrl:Nat:=if f.kind=1 then 6 else if f.kind=2 then 4 else 2
end
structure Cmpl (ps:List Pc) (S Fm kn good:Fc→Prop) (f:Fc):Prop where
  c3:∀ z a,z∈ps→z.kind=1→f=W_ a z.a→good (W_ a z.c)
  c4:∀ z a,z∈ps→z.kind=2→f=W_ a z.a→kn (W_ a z.b)→good (W_ a z.c)
  c4':∀ z a,z∈ps→z.kind=2→f=W_ a z.b→kn (W_ a z.a)→good (W_ a z.c)
  c5:∀ z a,z∈ps→z.kind=3→f=W_ a z.a→good (as_ a z.r z.c)
  c6:∀ z a b,z∈ps→z.kind=5→f=as_ a z.r b→good (as_ a z.t b)
  c7:∀ z a b c,z∈ps→z.kind=6→f=as_ a z.r b→S (as_ b z.s c)→good (as_ a z.t c)
  c7':∀ z a b c,z∈ps→z.kind=6→f=as_ b z.s c→S (as_ a z.r b)→good (as_ a z.t c)
  c8:∀ z a b,z∈ps→z.kind=4→f=as_ a z.r b→S (W_ b z.a)→good (W_ a z.c)
  c8':∀ z a b,z∈ps→z.kind=4→f=W_ b z.a→S (as_ a z.r b)→good (W_ a z.c)
  c9:∀ a r b,f=as_ a r b→kn (W_ b [33])→good (W_ a [33])
  c9':∀ a r b,f=W_ b [33]→S (as_ a r b)→good (W_ a [33])
  c11:∀ z a,z∈ps→z.kind=8→f=W_ a z.a→good (Y_ a z.r z.lo z.hi)
  c12:∀ y,f.kind=3→S y→y.kind=3→y.a=f.a→y.r=f.r→(Fm f∨Fm y)→max f.lo y.lo≤min f.hi y.hi→good (dM_ f y)
  c13:∀ y,f.kind=3→S y→y.kind=3→y.a=f.a→y.r=f.r→(Fm f∨Fm y)→min f.hi y.hi<max f.lo y.lo→good (W_ f.a [33])
  c14:∀ z a lo hi,z∈ps→z.kind=9→f=Y_ a z.r lo hi→z.lo≤lo→hi≤z.hi→good (W_ a z.c)
section
variable {stp:Fc→List Fc→List Fc} {kof:List Fc→List Fc} {ps:List Pc} {A:List Str} {x:Ix} {S Fm:Fc→Prop} {f:Fc}
theorem sJ_ (d:Grows stp kof) (j:Nat) (s:List Fc×List Fc):∃ L,(rl stp kof (bc_ ps) x f j s).1=emits stp L s.1:=by
 unfold rl
 split
 ·split
  ·exact⟨_,rfl⟩
  ·obtain⟨L,h,_⟩:=fS_ d f (lat (bc_ ps) ⟨2,[],f.b⟩) s.1
   exact⟨L,h⟩
  ·exact⟨_,rfl⟩
  ·exact⟨_,rfl⟩
  ·exact⟨_,rfl⟩
  exact⟨_,fr_ stp kof f _ s.1 s.2⟩
 split
 ·split
  ·exact⟨_,rfl⟩
  ·exact⟨_,rfl⟩
  ·exact⟨_,rfl⟩
  simp only
  split
  ·exact⟨[W_ f.a [33]],rfl⟩
  exact⟨[],rfl⟩
 split
 ·exact⟨_,rfl⟩
 exact⟨_,rfl⟩
theorem lH_ (e:Grows stp kof) (j:Nat) (s:List Fc×List Fc):∃ L,(rls stp kof (bc_ ps) x f j s).1=emits stp L s.1:=by
  induction j with
  | zero=>exact⟨[],rfl⟩
  | succ j ih =>
    obtain⟨L,h⟩:=ih;obtain⟨M,d⟩:=sJ_ (ps:=ps) (x:=x) (f:=f) e j (rls stp kof (bc_ ps) x f j s);exact⟨L++M,by rw[rls,d,h,aX_]⟩
theorem lG_ (d:Grows stp kof) (j:Nat) (s:List Fc×List Fc) (z:Fc) (e:z∈kof s.1):z∈kof (rls stp kof (bc_ ps) x f j s).1:=by
  obtain⟨L,h⟩:=lH_ (ps:=ps) (x:=x) (f:=f) d j s;rw[h];exact d.emits L _ z e
theorem sI_ (j:Nat) (s:List Fc×List Fc) (h:f.kind=1→j≤5):(rls stp kof (bc_ ps) x f j s).2=s.2:=by
 induction j with
 | zero=>rfl
 | succ j ih =>
   rw[← ih (fun d=>by have:=h d;omega),rls,rl.eq_def]
   split
   · rename_i d
     have:=h d
     match j,this with
     | 0,_=>rfl
     | 1,_=>rfl
     | 2,_=>rfl
     | 3,_=>rfl
     | 4,_=>rfl
   · split
     · split<;>rfl
     · split<;>rfl
theorem zi_ (Q:Grows stp kof) (P:∀ x∈ps,x.vok) (I:x.of S Fm) (s:List Fc×List Fc) (X:∀ y,S y→(Fm y↔y∈s.2)) (R:S f) (N:∀ y,S y→y∈kof s.1) (good:Fc→Prop) (hS:∀ y,S y→good y)
    (H:∀ j,j<nrl f→∀ L,(rls stp kof (bc_ ps) x f (j+1) s).1=emits stp L (rls stp kof (bc_ ps) x f j s).1→∀ y∈L,good y) :
    Cmpl ps S Fm (·∈kof s.1) good f:=by
  have K:∀ k j,f.kind=k→j<nrl f→∀ L,(rl stp kof (bc_ ps) x f j (rls stp kof (bc_ ps) x f j s)).1=emits stp L (rls stp kof (bc_ ps) x f j s).1→∀ y∈L,good y:=fun k j _ hj L hL=>H j hj L (by rw[rls];exact hL)
  have J:f.kind=1→nrl f=6:=fun h=>by simp[nrl,h]
  have O:f.kind=2→nrl f=4:=fun h=>by simp[nrl,h]
  have Z:f.kind=3→nrl f=2:=fun h=>by simp[nrl,h]
  have k1:∀ {a b},f=W_ a b→f.kind=1:=fun e=>by rw[e];rfl
  have k2:∀ {a r b},f=as_ a r b→f.kind=2:=fun e=>by rw[e];rfl
  have k3:∀ {a r lo hi},f=Y_ a r lo hi→f.kind=3:=fun e=>by rw[e];rfl
  have E:∀ z a,z∈ps→z.kind=2→f.kind=1→f.a=a→(z.a=f.b∨z.b=f.b)→W_ a z.a∈kof s.1→W_ a z.b∈kof s.1→good (W_ a z.c):=by
    intro z a v m d M hb W V;subst M;obtain⟨L,U,e2,e3⟩:=fS_ Q f (lat (bc_ ps) ⟨2,[],f.b⟩) (rls stp kof (bc_ ps) x f 1 s).1;exact K 1 1 d zbs_ L (by rw[rl.eq_def,if_pos d];exact U) _ (e3 z (pm2.2 ⟨v,m,hb⟩) (lG_ Q 1 s _ W) (lG_ Q 1 s _ V))
  have Y:f.kind=3→(∀ y∈he_ f (eS_ x f (decide (f∈s.2)))++io_ f (eS_ x f (decide (f∈s.2))),good y):=fun F =>
    K 3 0 F (by rw[Z F];decide) _ (by rw[rl.eq_def,if_neg (by rw[F];decide),if_neg (by rw[F];decide)];rfl)
  have C:decide (f∈s.2)=true↔Fm f:=by rw[decide_eq_true_eq];exact (X f R).symm
  refine⟨?_,?_,?_,?_,?_,?_,?_,?_,?_,?_,?_,?_,?_,?_,?_⟩
  · intro z a v m e
    have d:=k1 e;exact K 1 0 d zbs_ (hH_ (bc_ ps) f) zbk_ _ (by rw[e];exact tQ_ v m)
  · intro z a v m e h
    have d:=k1 e;exact E z a v m d (by rw[e];rfl) (by rw[e];exact .inl rfl) (by rw[← e];exact N f R) h
  · intro z a v m e h
    have d:=k1 e;exact E z a v m d (by rw[e];rfl) (by rw[e];exact .inr rfl) h (by rw[← e];exact N f R)
  · intro z a v m e
    have d:=k1 e;exact K 1 2 d zbs_ (qa_ (bc_ ps) f) zbk_ _ (by rw[e];exact zd_ v m)
  · intro z a b v m e
    have d:=k2 e;exact K 2 0 d zbH_ (hE_ (bc_ ps) f) zaG_ _ (by rw[e];exact tz_ v m)
  · intro z a b c v m e h
    have d:=k2 e;exact K 2 1 d zbH_ (gi_ (bc_ ps) x f++im_ (bc_ ps) x f) zaG_ _ (List.mem_append_left _ (by rw[e];exact vv_ I P v m h))
  · intro z a b c v m e h
    have d:=k2 e;exact K 2 1 d zbH_ (gi_ (bc_ ps) x f++im_ (bc_ ps) x f) zaG_ _ (List.mem_append_right _ (by rw[e];exact vu_ I P v m h))
  · intro z a b v m e h
    have d:=k2 e;exact K 2 2 d zbH_ (go_ (bc_ ps) x f) zaG_ _ (by rw[e];exact rM_ I P v m h)
  · intro z a b v m e h
    have d:=k1 e;exact K 1 3 d zbs_ (gp_ (bc_ ps) x f) zbk_ _ (by rw[e];exact rN_ I P v m h)
  · intro a r b e h
    have d:=k2 e;have U:W_ f.b [33]∈kof (rls stp kof (bc_ ps) x f 3 s).1:=lG_ Q 3 s _ (by rw[e];exact h);exact K 2 3 d zbH_ [W_ f.a [33]] (by rw[rl.eq_def,if_neg (by rw[d];decide),if_pos d];simp only[if_pos U];rfl) _ (by rw[e];simp[as_])
  · intro a r b e h
    have d:=k1 e;exact K 1 4 d zbs_ (dr_ x f) zbk_ _ (by rw[e];exact pL_ I h)
  · intro z a v m e
    have d:=k1 e;exact K 1 5 d zbs_ ((lat (bc_ ps) ⟨8,[],f.b⟩).map fun y=>Y_ f.a y.r y.lo y.hi) (by rw[rl.eq_def,if_pos d];exact fr_ stp kof f _ _ _) _ (by rw[e];exact wO_ v m)
  · intro y F T m M G hm hl
    have B:=qu_ I C T m M G hm;rcases (ti_ (f:=f) B).1 hl with q|q|q
    · exact Y F _ (List.mem_append_left _ q)
    · rw[q];exact hS f R
    · rw[q];exact hS y T
  · intro y F T m M G hm hl
    have B:=qu_ I C T m M G hm;exact Y F _ (List.mem_append_right _ ((ti_ (f:=f) B).2 hl))
  · intro z a lo hi v m e W V
    have d:=k3 e;exact K 3 1 d (by rw[Z d];decide) (xy_ (bc_ ps) f) (by rw[rl.eq_def,if_neg (by rw[d];decide),if_neg (by rw[d];decide)]<;>rfl) _ (by rw[e];exact BM_ v m W V)
end
end Go.Vs
namespace Go.Vs
open Go Go.Sx
def bE_ (m:Nat) (y:Fc) (q:List Fc):List Fc:=if q.length≤m∧y ∉ q then q++[y] else q
abbrev idk:List Fc→List Fc:=fun q=>q
theorem sC_ (m:Nat) (y:Fc) (q:List Fc):∃ t,bE_ m y q=q++t:=by
 unfold bE_;split
 ·exact⟨[y],rfl⟩
 exact⟨[],by simp⟩
theorem lp_ (m:Nat):∀ (L q:List Fc),∃ t,emits (bE_ m) L q=q++t
  | [],q=>⟨[],by simp[emits]⟩
  | y::L,q=>by
    obtain⟨t,h⟩:=sC_ m y q;obtain⟨u,d⟩:=lp_ m L (bE_ m y q);exact⟨t++u,by rw[← List.append_assoc,← h,← d];rfl⟩
theorem fY_ (m:Nat):Grows (bE_ m) idk:=⟨fun y s z d=>by obtain⟨t,h⟩:=sC_ m y s;rw[h];exact List.mem_append_left _ d⟩
theorem hg_ (m:Nat):∀ (L q:List Fc) (z:Fc),z∈emits (bE_ m) L q→z∈q∨z∈L
 | [],q,z,h=>.inl h
 | y::L,q,z,h=>by
   rcases hg_ m L (bE_ m y q) z h with h|h
   · unfold bE_ at h
     split at h
     · rcases List.mem_append.1 h with h|h
       · exact .inl h
       · exact .inr (by simp at h;simp[h])
     · exact .inl h
   · exact .inr (List.mem_cons_of_mem _ h)
theorem jJ_ (m:Nat):∀ (L q:List Fc),q.Nodup→(emits (bE_ m) L q).Nodup
 | [],q,h=>h
 | y::L,q,h=>by
   refine jJ_ m L (bE_ m y q) ?_;unfold bE_
   split
   · rename_i v
     rw[List.nodup_append];exact⟨h,by simp,fun a B b d e=>by simp at d;subst d;subst e;exact v.2 B⟩
   · exact h
theorem rP_ (m:Nat):∀ (L q:List Fc),q.length≤m+1→(emits (bE_ m) L q).length≤m+1
 | [],q,h=>h
 | y::L,q,h=>by
   refine rP_ m L (bE_ m y q) ?_;unfold bE_
   split
   · rename_i d;simp;exact d.1
   · exact h
theorem jK_ (m:Nat):∀ (L q:List Fc),(emits (bE_ m) L q).length≤m→∀ y∈L,y∈emits (bE_ m) L q
 | [],q,_,y,d=>by simp at d
 | x::L,q,h,y,d=>by
   have e:emits (bE_ m) (x::L) q=emits (bE_ m) L (bE_ m x q):=rfl;rw[e]at h ⊢;rcases List.mem_cons.1 d with rfl|d
   · obtain⟨t,B⟩:=lp_ m L (bE_ m y q)
     rw[B]at h ⊢;refine List.mem_append_left _ ?_;have hl:(bE_ m y q).length≤m:=by rw[List.length_append]at h;omega
     unfold bE_ at hl ⊢
     split
     · simp
     · rename_i v
       rw[if_neg v]at hl;exact Classical.byContradiction fun C=>v ⟨hl,C⟩
   · exact jK_ m L _ h y d
theorem nj_ {ps:List Pc} {A:List Str} {m:Nat} {f:Fc}:∀ (l:List Pc) (s:List Fc),(∀ z∈l,z∈ps∧z.kind=2)→(∀ y∈s,Der ps A y)→∀ y∈eF_ (bE_ m) idk f l s,Der ps A y
 | [],s,_,hs,y,d=>hs y d
 | z::l,s,hl,hs,y,d=>by
   have e:=hl z zaf_;simp only[eF_,List.foldl_cons]at d;refine nj_ l _ (fun z e=>hl z zbZ_) (fun y d=>?_) y d
   split at d
   · rename_i v
     have:=hg_ m [W_ f.a z.c] s y d;rcases this with h|h
     · exact hs y h
     · simp at h;subst h
       exact Der.step (.r4 e.1 e.2 (hs _ v.1) (hs _ v.2))
   · exact hs y d
section
variable {ps:List Pc} {A:List Str} {m:Nat} {x:Ix} {S Fm:Fc→Prop} {f:Fc}
theorem xg_ (M:∀ x∈ps,x.vok) (B:x.of S Fm) (hS:∀ y,S y→y.form) (O:f.kind=1∨f.kind=2∨f.kind=3) (v:f.form) (j:Nat) (s:List Fc×List Fc) (e:∀ y,S y→y∈s.1) (d:f∈s.1) (G:∀ y∈s.1,Der ps A y) :
    ∀ y∈(rl (bE_ m) idk (bc_ ps) x f j s).1,Der ps A y:=by
  have E:∀ L,(∀ y∈L,kG_ ps A (·∈s.1) y)→∀ y∈emits (bE_ m) L s.1,Der ps A y:=fun L N y H=>by
    rcases hg_ m L s.1 y H with h|h
    · exact G y h
    · exact Der.step ((N y h).mono (fun x B=>⟨x,B,x.frm,rfl⟩) (fun _ h=>h) G (fun _ _ h=>h))
  unfold rl
  split
  · rename_i C
    split
    · exact E _ (pM_ C v d)
    · exact nj_ _ s.1 (fun z K=>by have:=pm2.1 K;exact⟨this.1,this.2.1⟩) G
    · exact E _ (ut_ C v d)
    · exact E _ (pk_ M B hS e C v d)
    · exact E _ (ns_ B hS e C v d)
    · rw[fr_];exact E _ (sr_ C v d)
  · split
    · rename_i F
      split
      · exact E _ (pK_ F v d)
      · exact E _ (tW_ B hS e F v d)
      · exact E _ (pj_ B hS e F v d)
      · simp only
        split
        · rename_i J
          exact E [W_ f.a [33]] (fun y H=>by simp at H;subst H;exact nr_ F v d J)
        · exact G
    · rename_i C F
      have I:f.kind=3:=by omega
      split
      · exact E _ (uS_ B hS e I v d)
      · exact E _ (xx_ I v d)
theorem ow_ (B:∀ x∈ps,x.vok) (C:x.of S Fm) (hS:∀ y,S y→y.form) (h:f.form) (s:List Fc×List Fc) (d:∀ y,S y→y∈s.1) (e:f∈s.1) (E:∀ y∈s.1,Der ps A y) (j:Nat) :
    ∀ y∈(rls (bE_ m) idk (bc_ ps) x f j s).1,Der ps A y:=by
  induction j with
  | zero=>exact E
  | succ j ih=>exact xg_ B C hS (lV_ h) h j _ (fun y v=>lG_ (fY_ m) j s y (d y v)) (lG_ (fY_ m) j s f e) ih
end
inductive Fmd (fm:List Fc):Fc→Prop
  | base {y:Fc} (h:y∈fm):Fmd fm y
  | meet {y z:Fc} (hy:Fmd fm y) (hz:Fmd fm z) (ha:z.a=y.a) (hr:z.r=y.r) (hl:max y.lo z.lo≤min y.hi z.hi):Fmd fm (dM_ y z)
theorem Fmd.mono {fm d:List Fc} (h:∀ y∈fm,y∈d) {y:Fc} (e:Fmd fm y):Fmd d y:=by
  induction e with
  | base h1=>exact .base (h _ h1)
  | meet _ _ ha hr hl ih1 ih2=>exact .meet ih1 ih2 ha hr hl
structure InvA (ps:List Pc) (A:List Str) (m n:Nat) (q fm:List Fc) (x:Ix):Prop where
  nd:q.Nodup
  len:q.length≤m
  le:n≤q.length
  der:∀ y∈q,Der ps A y
  form:∀ y∈q,y.form
  ix:x.of (·∈q.take n) (·∈fm)
  fmq:∀ y∈fm,y∈q∧y.kind=3
  firm:∀ y∈q,y.kind=3→Fmd fm y
  st:∀ a∈A,W_ a a∈q∧W_ a [42]∈q∧∀ z∈ps,z.kind=7→as_ a z.r a∈q
  cl:∀ y,One ps A (·∈q.take n) (fun y z=>y∈fm∨z∈fm) y→y∈q
theorem Der.form {p:List Pc} {A:List Str} (e:∀ x∈p,x.vok) {y:Fc} (h:Der p A y):y.form:=h _ fun _ d=>One.form e (fun _ h=>h) d
theorem mR_ {stp:Fc→List Fc→List Fc} {kof:List Fc→List Fc} (C:∀ i s z,z∈kof (stp i s)→z∈kof s∨z=i) (h:Grows stp kof) (f:Fc):∀ (l:List Pc) (s fm:List Fc),∀ y∈l,Y_ f.a y.r y.lo y.hi∈kof s∨Y_ f.a y.r y.lo y.hi∈(cn_ stp kof f l (s,fm)).2
 | [],s,fm,y,d=>by simp at d
 | x::l,s,fm,y,d=>by
   have e:cn_ stp kof f (x::l) (s,fm)=cn_ stp kof f l (stp (Y_ f.a x.r x.lo x.hi) s,if Y_ f.a x.r x.lo x.hi∈kof s then fm else Y_ f.a x.r x.lo x.hi::fm):=rfl;rw[e]
   by_cases B:Y_ f.a y.r y.lo y.hi=Y_ f.a x.r x.lo x.hi
   · rw[B]
     by_cases E:Y_ f.a x.r x.lo x.hi∈kof s
     · exact .inl E
     · refine .inr ((hT_ h f l _ _ _).2 (.inl ?_))
       rw[if_neg E];simp
   · rcases List.mem_cons.1 d with rfl|d
     · exact absurd rfl B
     · rcases mR_ C h f l (stp (Y_ f.a x.r x.lo x.hi) s) (if Y_ f.a x.r x.lo x.hi∈kof s then fm else Y_ f.a x.r x.lo x.hi::fm) y d with v|v
       · exact (C _ _ _ v).imp id fun q=>absurd q B
       · exact .inr v
theorem yO_ {q:List Fc} {n:Nat} {f z:Fc} (d:q[n]? = some f):z∈q.take (n+1)↔z∈q.take n∨z=f:=by
  rw[List.take_add_one,d];simp
theorem Cw_ {ps:List Pc} {A:List Str} {S Fm kn good:Fc→Prop} {f:Fc} (v:Cmpl ps (fun y=>S y∨y=f) Fm kn good f) (B:∀ y,S y∨y=f→kn y) (h:∀ y,One ps A S (fun y z=>Fm y∨Fm z) y→good y) (y:Fc) (C:One ps A (fun y=>S y∨y=f) (fun y z=>Fm y∨Fm z) y):good y:=by
 cases C with
 | r1 d=>exact h _ (.r1 d)
 | r2 d=>exact h _ (.r2 d)
 | r10 hx hk d=>exact h _ (.r10 hx hk d)
 | r3 hx hk d=>exact d.elim (fun q=>h _ (.r3 hx hk q)) (fun q=>v.c3 _ _ hx hk q.symm)
 | r4 hx hk d e =>
   rcases d with d|d
   · rcases e with e|e
     · exact h _ (.r4 hx hk d e)
     · exact v.c4' _ _ hx hk e.symm (B _ (.inl d))
   · exact v.c4 _ _ hx hk d.symm (B _ e)
 | r5 hx hk d=>exact d.elim (fun q=>h _ (.r5 hx hk q)) (fun q=>v.c5 _ _ hx hk q.symm)
 | r6 hx hk d=>exact d.elim (fun q=>h _ (.r6 hx hk q)) (fun q=>v.c6 _ _ _ hx hk q.symm)
 | r7 hx hk d e =>
   rcases d with d|d
   · rcases e with e|e
     · exact h _ (.r7 hx hk d e)
     · exact v.c7' _ _ _ _ hx hk e.symm (.inl d)
   · exact v.c7 _ _ _ _ hx hk d.symm e
 | r8 hx hk d e =>
   rcases d with d|d
   · rcases e with e|e
     · exact h _ (.r8 hx hk d e)
     · exact v.c8' _ _ _ hx hk e.symm (.inl d)
   · exact v.c8 _ _ _ hx hk d.symm e
 | r9 d e =>
   rcases d with d|d
   · rcases e with e|e
     · exact h _ (.r9 d e)
     · exact v.c9' _ _ _ e.symm (.inl d)
   · exact v.c9 _ _ _ d.symm (B _ e)
 | r11 hx hk d=>exact d.elim (fun q=>h _ (.r11 hx hk q)) (fun q=>v.c11 _ _ hx hk q.symm)
 | @r12 a r lo hi lo' hi' d e hm hl =>
   rcases d with d|d
   · rcases e with e|e
     · exact h _ (.r12 d e hm hl)
     · have:=v.c12 (Y_ a r lo hi) zbu_ (.inl d) rfl zbu_ zbu_ (by rw[← e];exact hm.symm) (by rw[← e];simp only[Y_];omega)
       rw[← e]at this;rw[Int.max_comm,Int.min_comm];exact this
   · have:=v.c12 (Y_ a r lo' hi') zbv_ e rfl zbv_ zbv_ (by rw[← d];exact hm) (by rw[← d];exact hl)
     rw[← d]at this;exact this
 | @r13 a r lo hi lo' hi' d e hm hl =>
   rcases d with d|d
   · rcases e with e|e
     · exact h _ (.r13 d e hm hl)
     · have:=v.c13 (Y_ a r lo hi) zbu_ (.inl d) rfl zbu_ zbu_ (by rw[← e];exact hm.symm) (by rw[← e];simp only[Y_];omega)
       rw[← e]at this;exact this
   · have:=v.c13 (Y_ a r lo' hi') zbv_ e rfl zbv_ zbv_ (by rw[← d];exact hm) (by rw[← d];exact hl)
     rw[← d]at this;exact this
 | r14 hx hk d g1 g2=>exact d.elim (fun q=>h _ (.r14 hx hk q g1 g2)) (fun q=>v.c14 _ _ _ _ hx hk q.symm g1 g2)
theorem One.congrM {p:List Pc} {A:List Str} {S:Fc→Prop} {M d:Fc→Fc→Prop} (e:∀ y z,S y→S z→M y z→d y z) {y:Fc} (h:One p A S M y):One p A S d y:=by
  cases h with
  | r1 h=>exact .r1 h
  | r2 h=>exact .r2 h
  | r10 hx hk h=>exact .r10 hx hk h
  | r3 hx hk h=>exact .r3 hx hk h
  | r4 hx hk h h'=>exact .r4 hx hk h h'
  | r5 hx hk h=>exact .r5 hx hk h
  | r6 hx hk h=>exact .r6 hx hk h
  | r7 hx hk h h'=>exact .r7 hx hk h h'
  | r8 hx hk h h'=>exact .r8 hx hk h h'
  | r9 h h'=>exact .r9 h h'
  | r11 hx hk h=>exact .r11 hx hk h
  | r12 h h' hm hl=>exact .r12 h h' (e _ _ h h' hm) hl
  | r13 h h' hm hl=>exact .r13 h h' (e _ _ h h' hm) hl
  | r14 hx hk h h1 h2=>exact .r14 hx hk h h1 h2
section
variable {ps:List Pc} {A:List Str} {m n:Nat} {q fm:List Fc} {x:Ix} {f:Fc}
theorem zj_ (j k:Nat) (s:List Fc×List Fc):∃ t,(rls (bE_ m) idk (bc_ ps) x f (j+k) s).1=(rls (bE_ m) idk (bc_ ps) x f j s).1++t:=by
  induction k with
  | zero=>exact⟨[],by simp⟩
  | succ k ih =>
    obtain⟨t,h⟩:=ih;obtain⟨L,e⟩:=sJ_ (ps:=ps) (x:=x) (f:=f) (fY_ m) (j+k) (rls (bE_ m) idk (bc_ ps) x f (j+k) s);obtain⟨u,d⟩:=lp_ m L (rls (bE_ m) idk (bc_ ps) x f (j+k) s).1;exact⟨t++u,by rw[← Nat.add_assoc,rls,e,d,h,List.append_assoc]⟩
theorem sK_ (j:Nat) (s:List Fc×List Fc) (h:f.kind=1→j≤4) (O:f.kind=3→j≠0) (F:f.kind=1∨f.kind=2∨f.kind=3):∀ y∈(rl (bE_ m) idk (bc_ ps) x f j s).1,y.kind=3→y∈s.1:=by
 have E:∀ L:List Fc,(∀ y∈L,y.kind≠3)→∀ y∈emits (bE_ m) L s.1,y.kind=3→y∈s.1:=fun L Q y d F =>
   (hg_ m L s.1 y d).elim id fun q=>absurd F (Q y q)
 have B:∀ {α:Type} (l:List α) (g:α→Fc),(∀ a,(g a).kind≠3)→∀ y∈l.map g,y.kind≠3:=fun l g C y d=>by
   obtain⟨a,_,rfl⟩:=List.mem_map.1 d;exact C a
 have v:∀ {α β:Type} (l:List α) (k:α→List β) (g:α→β→Fc),(∀ a b,(g a b).kind≠3)→∀ y∈l.flatMap (fun a=>(k a).map (g a)),y.kind≠3:=fun l k g C y d=>by
   obtain⟨a,_,d⟩:=List.mem_flatMap.1 d;exact B _ _ (C a) y d
 unfold rl
 split
 ·rename_i G
  split
  ·exact E _ (B _ _ fun _=>by simp[W_])
  ·obtain⟨L,H,K,_⟩:=fS_ (fY_ m) f (lat (bc_ ps) ⟨2,[],f.b⟩) s.1
   rw[H];exact E L fun y d=>by obtain⟨_,_,rfl,_⟩:=K y d;simp[W_]
  ·exact E _ (B _ _ fun _=>by simp[as_])
  ·exact E _ (v _ _ _ fun _ _=>by simp[W_])
  ·refine E _ fun y d=>?_
   unfold dr_ at d
   split at d
   ·exact B _ _ (fun _=>by simp[W_]) y d
   simp at d
  have:=h G
  rename_i I M N J P
  have e:j=0∨j=1∨j=2∨j=3∨j=4:=by omega
  rcases e with e|e|e|e|e
  ·exact (I e).elim
  ·exact (M e).elim
  ·exact (N e).elim
  ·exact (J e).elim
  exact (P e).elim
 split
 ·split
  ·exact E _ (B _ _ fun _=>by simp[as_])
  ·refine E _ fun y d=>?_
   rcases List.mem_append.1 d with d|d
   ·exact v _ _ _ (fun _ _=>by simp[as_]) y d
   exact v _ _ _ (fun _ _=>by simp[as_]) y d
  ·exact E _ (v _ _ _ fun _ _=>by simp[W_])
  simp only
  split
  ·exact E [W_ f.a [33]] (by simp[W_])
  exact fun y d _=>d
 rename_i G R
 split
 ·exact absurd rfl (O zaa_)
 exact E _ (B _ _ fun _=>by simp[W_])
theorem qf_ (j:Nat) (s:List Fc×List Fc) (h:f.kind=1→j≤5) (C:f.kind≠3) (B:f.kind=1∨f.kind=2∨f.kind=3):∀ y∈(rls (bE_ m) idk (bc_ ps) x f j s).1,y.kind=3→y∈s.1:=by
  induction j with
  | zero=>exact fun y v _=>v
  | succ j ih=>exact fun y v e=>ih (fun d=>by have:=h d;omega) y (sK_ j _ (fun d=>by have:=h d;omega) (fun d=>absurd d C) B y v e) e
theorem Aa_ (hr:∀ x∈ps,x.vok) (inv:InvA ps A m n q fm x) (hn:q[n]? = some f) {B:List Fc×List Fc} (F:rls (bE_ m) idk (bc_ ps) (x.add (decide (f∈fm)) f) f (nrl f) (q,fm)=B) (hl:B.1.length≤m) :
    InvA ps A m (n+1) B.1 B.2 (x.add (decide (f∈fm)) f):=by
  have O:f∈q:=List.mem_of_getElem? hn;have hlt:n<q.length:=(List.getElem?_eq_some_iff.1 hn).1;have K:=inv.form f O;have hk:=lV_ K;have P:(x.add (decide (f∈fm)) f).of (fun y=>y∈q.take n∨y=f) (·∈fm):=Ix.of_add inv.ix f zaf_;have E:∀ y,(y∈q.take n∨y=f)→y∈q:=fun y d=>d.elim (fun h=>List.mem_of_mem_take h) (fun h=>h▸O)
  obtain⟨L,W⟩:=lH_ (ps:=ps) (x:=x.add (decide (f∈fm)) f) (f:=f) (fY_ m) (nrl f) (q,fm);rw[F]at W;obtain⟨t,ht⟩:=lp_ m L q;have M:B.1=q++t:=by rw[W];exact ht
  have C:∀ y∈q,y∈B.1:=fun y d=>by rw[M];exact List.mem_append_left _ d
  have U:B.1.take (n+1)=q.take (n+1):=by rw[M,List.take_append_of_le_length zaa_]
  have T:∀ y,y∈B.1.take (n+1)↔(y∈q.take n∨y=f):=fun y=>by rw[U];exact yO_ hn
  have R:∀ y∈B.1,Der ps A y:=by rw[← F];exact ow_ hr P (fun y d=>inv.form y (E y d)) K (q,fm) E O inv.der (nrl f)
  have H:∀ j,j<nrl f→∀ L,(rls (bE_ m) idk (bc_ ps) (x.add (decide (f∈fm)) f) f (j+1) (q,fm)).1=emits (bE_ m) L (rls (bE_ m) idk (bc_ ps) (x.add (decide (f∈fm)) f) f j (q,fm)).1→∀ y∈L,y∈B.1:=by
    intro j hj L W y d;obtain⟨u,X⟩:=zj_ (m:=m) (ps:=ps) (x:=x.add (decide (f∈fm)) f) (f:=f) (j+1) (nrl f - (j+1)) (q,fm);rw[show j+1+(nrl f - (j+1))=nrl f by omega,F]at X;have hle:(rls (bE_ m) idk (bc_ ps) (x.add (decide (f∈fm)) f) f (j+1) (q,fm)).1.length≤m:=by rw[X,List.length_append]at hl;omega
    rw[W]at hle;have:=jK_ m L _ hle y d;rw[X,W];exact List.mem_append_left _ this
  have hc:=zi_ (fY_ m) hr P (q,fm) (fun _ _=>Iff.rfl) (.inr rfl) E (·∈B.1) (fun y d=>C y (E y d)) H
  -- the firm ones
  have G:(∀ y∈fm,y∈B.2)∧(∀ y∈B.2,y∈fm∨(y ∉ q∧y∈B.1∧y.kind=3))∧(∀ y∈B.1,y.kind=3→y∈q∨y∈B.2∨∃ z,(z∈q.take n∨z=f)∧z.kind=3∧f.kind=3∧z.a=f.a∧z.r=f.r∧max f.lo z.lo≤min f.hi z.hi∧y=dM_ f z):=by
    by_cases Q:f.kind=1
    · have e6:nrl f=5+1:=by simp[nrl,Q]
      rw[e6,rls]at F;have Y:(rls (bE_ m) idk (bc_ ps) (x.add (decide (f∈fm)) f) f 5 (q,fm)).2=fm:=sI_ 5 (q,fm) (fun _=>Nat.le_refl _);have V:=qf_ (m:=m) (ps:=ps) (x:=x.add (decide (f∈fm)) f) (f:=f) 5 (q,fm) (fun _=>Nat.le_refl _) zaa_ hk;have hq5:∀ y∈q,y∈(rls (bE_ m) idk (bc_ ps) (x.add (decide (f∈fm)) f) f 5 (q,fm)).1:=fun y d=>lG_ (fY_ m) 5 (q,fm) y d
      have H5:=H 5 zaa_;rw[rls]at H5;generalize rls (bE_ m) idk (bc_ ps) (x.add (decide (f∈fm)) f) f 5 (q,fm)=s5 at F Y V hq5 H5
      have er:rl (bE_ m) idk (bc_ ps) (x.add (decide (f∈fm)) f) f 5 s5=cn_ (bE_ m) idk f (lat (bc_ ps) ⟨8,[],f.b⟩) s5:=by rw[rl.eq_def,if_pos Q]<;>rfl
      rw[er]at F H5;have es5:s5=(s5.1,fm):=by rw[← Y]
      rw[es5]at F H5;have Hv:=H5 _ (fr_ (bE_ m) idk f _ s5.1 fm);refine⟨fun y d=>?_,fun y d=>?_,fun y d J=>?_⟩
      · rw[← F];exact (hT_ (fY_ m) f _ _ _ _).2 (.inl d)
      · rw[← F]at d
        rcases (hT_ (fY_ m) f _ _ _ _).1 d with h|h
        · exact .inl h
        · rcases oa_ f _ _ _ _ h.2 with g|⟨z,I,rfl⟩
          · exact .inl g
          · exact .inr ⟨fun hq=>h.1 (hq5 _ hq),Hv _ (List.mem_map.2 ⟨z,I,rfl⟩),rfl⟩
      · have hy':=d
        rw[← F,fr_]at d;rcases hg_ m _ _ y d with h|h
        · exact .inl (V y h J)
        · obtain⟨z,I,rfl⟩:=List.mem_map.1 h
          rcases mR_ (stp:=bE_ m) (kof:=idk) (fun i s z I=>(hg_ m [i] s z I).imp id zaf_) (fY_ m) f _ s5.1 fm z I with g|g
          · exact .inl (V _ g rfl)
          · exact .inr (.inl (by rw[← F];exact g))
    · have hf2:B.2=fm:=by rw[← F];exact sI_ _ (q,fm) (fun h=>absurd h Q)
      refine⟨fun y d=>by rw[hf2];exact d,fun y d=>.inl (by rw[← hf2];exact d),fun y d J=>?_⟩
      by_cases h3:f.kind=3
      · have e2:nrl f=0+1+1:=by simp[nrl,h3]
        rw[e2,rls]at F;rw[← F]at d;have hy1:=sK_ 1 _ (fun h=>absurd h Q) (fun _=>by decide) hk y d J;rw[rls,rl.eq_def,if_neg Q,if_neg zaa_]at hy1;rcases hg_ m _ _ y hy1 with h|h
        · exact .inl h
        · rcases List.mem_append.1 h with h|h
          · obtain⟨z,I,rfl⟩:=List.mem_map.1 h
            obtain⟨I,Z⟩:=List.mem_filter.1 I;obtain⟨g1,g2,g3,g4⟩:=lO_ P I;simp only[fh_,Bool.and_eq_true,Bool.not_eq_true',decide_eq_false_iff_not,Int.not_lt]at Z;exact .inr (.inr ⟨z,g1,g2,h3,g3,g4,Z.1,rfl⟩)
          · unfold io_ at h
            split at h
            · simp at h;rw[h]at J;simp[W_]at J
            · simp at h
      · rw[← F]at d
        exact .inl (qf_ _ _ (fun h=>absurd h Q) h3 hk y d J)
  have N:∀ y,(y∈q.take n∨y=f)→(y∈fm↔y∈B.2):=fun y d=>⟨fun h=>G.1 y h,fun h=>(G.2.1 y h).elim id fun g=>absurd (E y d) g.1⟩
  refine⟨?_,hl,?_,R,fun y d=>(R y d).form hr,?_,?_,?_,?_,?_⟩
  · rw[W];exact jJ_ m L q inv.nd
  · rw[M,List.length_append];omega
  · have:=Ix.of_firm P N
    have e:(fun y=>y∈B.1.take (n+1))=(fun y=>y∈q.take n∨y=f):=funext fun y=>propext (T y)
    rw[e];exact this
  · intro y d
    rcases G.2.1 y d with h|h
    · exact⟨C y (inv.fmq y h).1,(inv.fmq y h).2⟩
    · exact h.2
  · intro y d hk3
    rcases G.2.2 y d hk3 with h|h|⟨z,Q,h2,h3,h4,h5,h6,rfl⟩
    · exact (inv.firm y h hk3).mono G.1
    · exact .base h
    · exact .meet ((inv.firm f O h3).mono G.1) ((inv.firm z (E z Q) h2).mono G.1) h4 h5 h6
  · intro a ha
    obtain⟨g1,g2,g3⟩:=inv.st a ha;exact⟨C _ g1,C _ g2,fun z I hk=>C _ (g3 z I hk)⟩
  · intro y d
    have e:(fun y=>y∈B.1.take (n+1))=(fun y=>y∈q.take n∨y=f):=funext fun y=>propext (T y)
    rw[e]at d;refine Cw_ (A:=A) hc E (fun z I=>C z (inv.cl z I)) y (d.congrM fun u v X hv hm=>hm.imp (N u X).2 (N v hv).2)
theorem mm_le {a b c d e g:Int} (h:max a (max b c)≤min d (min e g)):max a b≤min d e:=by omega
theorem Ab_ (inv:InvA ps A m q.length q fm x) (y:Fc):Der ps A y↔y∈q:=by
 refine⟨fun h=>h.least fun y K=>?_,inv.der y⟩;have d:∀ y,One ps A (·∈q) (fun y z=>y∈fm∨z∈fm) y→y∈q:=fun y K=>inv.cl y (by rw[List.take_length];exact K)
 have T:∀ f,Fmd fm f→∀ z∈q,z.kind=3→z.a=f.a→z.r=f.r→(max z.lo f.lo≤min z.hi f.hi→dM_ z f∈q)∧(min z.hi f.hi<max z.lo f.lo→W_ z.a [33]∈q):=by
   intro f hf
   induction hf with
   | @base f hb =>
     intro z J v M H;obtain⟨I,P⟩:=inv.fmq f hb;have X:=(jW_ (inv.form z J) v).1;have ef:=(jW_ (inv.form f I) P).1;rw[← M,← H]at ef;refine⟨fun hl=>d _ (.r12 (by rw[← X];exact J) (by rw[← ef];exact I) (.inr (by rw[← ef];exact hb)) hl),fun hl=>d _ (.r13 (r:=z.r) (by rw[← X];exact J) (by rw[← ef];exact I) (.inr (by rw[← ef];exact hb)) hl)⟩
   | @meet y w K hw M H hl ih1 ih2 =>
     intro z J v N R;have E:z.a=y.a:=N;have G:z.r=y.r:=R;obtain⟨i1,i2⟩:=ih1 z J v E G;have O:(dM_ y w).lo=max y.lo w.lo:=rfl;have L:(dM_ y w).hi=min y.hi w.hi:=rfl;rw[O,L]
     by_cases Q:max z.lo y.lo≤min z.hi y.hi
     · have U:=i1 Q
       obtain⟨V,W⟩:=ih2 (dM_ z y) U rfl (by rw[M,← E];rfl) (by rw[H,← G];rfl);have Y:(dM_ z y).lo=max z.lo y.lo:=rfl;have Z:(dM_ z y).hi=min z.hi y.hi:=rfl;rw[Y,Z]at V W;refine⟨fun C=>?_,fun C=>W (by rw[Int.max_assoc,Int.min_assoc];exact C)⟩;have:=V (by rw[Int.max_assoc,Int.min_assoc];exact C)
       have e:dM_ (dM_ z y) w=dM_ z (dM_ y w):=by
         simp only[dM_,Y_];rw[Int.max_assoc,Int.min_assoc]
       rw[← e];exact this
     · exact⟨fun C=>absurd (mm_le C) Q,fun _=>i2 (Int.not_le.1 Q)⟩
 have F:∀ {a r:Str} {lo hi lo' hi':Int},Y_ a r lo hi∈q→Y_ a r lo' hi'∈q→(max lo lo'≤min hi hi'→Y_ a r (max lo lo') (min hi hi')∈q)∧(min hi hi'<max lo lo'→W_ a [33]∈q):=fun h B=>T _ (inv.firm _ B rfl) _ h rfl rfl rfl
 cases K with
 | r1 h=>exact d _ (.r1 h)
 | r2 h=>exact d _ (.r2 h)
 | r10 hx v h=>exact d _ (.r10 hx v h)
 | r3 hx v h=>exact d _ (.r3 hx v h)
 | r4 hx v h B=>exact d _ (.r4 hx v h B)
 | r5 hx v h=>exact d _ (.r5 hx v h)
 | r6 hx v h=>exact d _ (.r6 hx v h)
 | r7 hx v h B=>exact d _ (.r7 hx v h B)
 | r8 hx v h B=>exact d _ (.r8 hx v h B)
 | r9 h B=>exact d _ (.r9 h B)
 | r11 hx v h=>exact d _ (.r11 hx v h)
 | r12 h B hm hl=>exact (F h B).1 hl
 | r13 h B hm hl=>exact (F h B).2 hl
 | r14 hx v h U h2=>exact d _ (.r14 hx v h U h2)
end
def ho_ (loops:List Str) (A:List Str):List Fc:=A.flatMap fun a=>W_ a a::W_ a [42]::loops.map fun r=>as_ a r a
theorem tX_ {ps:List Pc} {A:List Str} {S:Fc→Prop} {M:Fc→Fc→Prop}:∀ y∈ho_ (aP_ ps) A,One ps A S M y:=by
 intro y d;obtain⟨a,e,d⟩:=List.mem_flatMap.1 d;simp only[List.mem_cons]at d;rcases d with rfl|rfl|d
 ·exact .r1 e
 ·exact .r2 e
 obtain⟨r,v,rfl⟩:=List.mem_map.1 d;obtain⟨z,C,rfl⟩:=List.mem_map.1 v;obtain⟨h,B⟩:=List.mem_filter.1 C;exact .r10 h (of_decide_eq_true B) e
theorem ra_ {ps:List Pc} {A:List Str} {a:Str} (d:a∈A):W_ a a∈ho_ (aP_ ps) A∧W_ a [42]∈ho_ (aP_ ps) A∧∀ z∈ps,z.kind=7→as_ a z.r a∈ho_ (aP_ ps) A:=by
  refine⟨List.mem_flatMap.2 ⟨a,d,by simp⟩,List.mem_flatMap.2 ⟨a,d,by simp⟩,fun z e h=>List.mem_flatMap.2 ⟨a,d,?_⟩⟩;exact List.mem_cons_of_mem _ (List.mem_cons_of_mem _ (List.mem_map.2 ⟨z.r,List.mem_map.2 ⟨z,List.mem_filter.2 ⟨e,decide_eq_true h⟩,rfl⟩,rfl⟩))
structure LoopA (ps:List Pc) (A:List Str) (m n:Nat) (q fm:List Fc) (x:Ix):Prop where
  nd:q.Nodup
  len:q.length≤m+1
  le:n≤q.length
  der:∀ y∈q,Der ps A y
  ix:x.of (·∈q.take n) (·∈fm)
  inv:q.length≤m→InvA ps A m n q fm x
section
variable {ps:List Pc} {A:List Str} {m n:Nat} {q fm:List Fc} {x:Ix} {f:Fc}
theorem tm_ (N:∀ x∈ps,x.vok) {q:List Fc} (G:emits (bE_ m) (ho_ (aP_ ps) A) []=q):LoopA ps A m 0 q [] Ix.nil:=by
 have E:∀ y∈q,y∈ho_ (aP_ ps) A:=fun y C=>by rw[← G]at C;exact (hg_ m _ _ y C).elim (fun h=>by simp at h) id
 have v:∀ y∈q,Der ps A y:=fun y C=>Der.step (tX_ y (E y C))
 have I:q.Nodup:=by rw[← G];exact jJ_ m _ _ List.nodup_nil
 have H:Ix.nil.of (·∈q.take 0) (·∈([]:List Fc)):=by
   have e:(fun y=>y∈q.take 0)=(fun _=>False):=funext fun y=>by simp
   rw[e];exact Ix.of_nil _
 refine⟨I,by rw[← G];exact rP_ m _ _ zaf_,Nat.zero_le _,v,H,fun hl=>⟨I,hl,Nat.zero_le _,v,fun y C=>(v y C).form N,H,by simp,fun y C d=>?_,fun a J=>?_,fun y C=>?_⟩⟩
 ·exfalso
  obtain⟨a,_,h⟩:=List.mem_flatMap.1 (E y C);simp only[List.mem_cons]at h;rcases h with rfl|rfl|h
  ·simp[W_]at d
  ·simp[W_]at d
  obtain⟨r,_,rfl⟩:=List.mem_map.1 h;simp[as_]at d
 ·obtain⟨O,L,M⟩:=ra_ (ps:=ps) J
  rw[← G]at hl ⊢;exact⟨jK_ m _ _ hl _ O,jK_ m _ _ hl _ L,fun z K d=>jK_ m _ _ hl _ (M z K d)⟩
 rw[← G]at hl;have B:∀ a∈A,_:=fun a J=>ra_ (ps:=ps) J
 have F:∀ z∈ho_ (aP_ ps) A,z∈q:=fun z K=>by rw[← G];exact jK_ m _ _ hl z K
 cases C with
 | r1 h=>exact F _ (B _ h).1
 | r2 h=>exact F _ (B _ h).2.1
 | r10 hx d h=>exact F _ ((B _ h).2.2 _ hx d)
 | r3 hx d h=>simp at h
 | r4 hx d h h'=>simp at h
 | r5 hx d h=>simp at h
 | r6 hx d h=>simp at h
 | r7 hx d h h'=>simp at h
 | r8 hx d h h'=>simp at h
 | r9 h h'=>simp at h
 | r11 hx d h=>simp at h
 | r12 h h' hm hl=>simp at h
 | r13 h h' hm hl=>simp at h
 | r14 hx d h h1 h2=>simp at h
theorem gH_ (E:∀ x∈ps,x.vok) (h:LoopA ps A m n q fm x) (G:q[n]? = some f) (j:Nat) {e:List Fc×List Fc} (F:rls (bE_ m) idk (bc_ ps) (x.add (decide (f∈fm)) f) f j (q,fm)=e) :
    e.1.Nodup∧e.1.length≤m+1∧(∀ y∈e.1,Der ps A y)∧∃ t,e.1=q++t:=by
  have d:f∈q:=List.mem_of_getElem? G;have v:∀ y,(y∈q.take n∨y=f)→y∈q:=fun y C=>C.elim (fun h=>List.mem_of_mem_take h) (fun h=>h▸d)
  obtain⟨L,B⟩:=lH_ (ps:=ps) (x:=x.add (decide (f∈fm)) f) (f:=f) (fY_ m) j (q,fm);rw[F]at B;refine⟨by rw[B];exact jJ_ m L q h.nd,by rw[B];exact rP_ m L q h.len,?_,by rw[B];exact lp_ m L q⟩;rw[← F];exact ow_ E (Ix.of_add h.ix f zaf_) (fun y C=>(h.der y (v y C)).form E) ((h.der f d).form E) (q,fm) v d h.der j
theorem kz_ (e:∀ x∈ps,x.vok) (h:LoopA ps A m n q fm x) (v:q[n]? = some f) {d:List Fc×List Fc} (y:rls (bE_ m) idk (bc_ ps) (x.add (decide (f∈fm)) f) f (nrl f) (q,fm)=d) (hl:d.1.length≤m) :
    LoopA ps A m (n+1) d.1 d.2 (x.add (decide (f∈fm)) f):=by
  obtain⟨_,_,_,t,B⟩:=gH_ e h v (nrl f) y;have hi:=Aa_ e (h.inv (by rw[B,List.length_append]at hl;omega)) v y hl;exact⟨hi.nd,by have:=hi.len;omega,hi.le,hi.der,hi.ix,fun _=>hi⟩
theorem uV_ (h:LoopA ps A m q.length q fm x) (hl:q.length≤m) (y:Fc):Der ps A y↔y∈q:=Ab_ (h.inv hl) y
end
theorem zf_eq (x:Pc):∃ n,{ x.zf with frm:=n }=x:=⟨x.frm,rfl⟩
theorem su_ {p:List Pc} {A:List Str} {y:Fc}:Der (uniq [] p) A y↔Der p A y:=by
 constructor
 ·refine Der.mono (fun x d=>?_) (fun _ h=>h)
  rcases (kN_ p [] x).1 d with h|⟨z,e,rfl⟩
  ·simp at h
  exact⟨z,e,0,rfl⟩
 exact Der.mono (fun x d=>⟨x.zf,(kN_ p [] _).2 (.inr ⟨x,d,rfl⟩),zf_eq x⟩) (fun _ h=>h)
theorem yG_ {p:List Pc} (h:∀ x∈p,x.vok):∀ x∈uniq [] p,x.vok:=fun x v=>by
 rcases (kN_ p [] x).1 v with e|⟨z,d,rfl⟩
 ·simp at e
 exact⟨(h z d).rok,(h z d).num⟩
def Fc.lt (x y:Fc):Prop:=x.kind<y.kind∨x.kind=y.kind∧(x.a<y.a∨x.a=y.a∧(x.b<y.b∨x.b=y.b∧(x.r<y.r∨x.r=y.r∧(x.lo<y.lo∨x.lo=y.lo∧x.hi<y.hi))))
instance (x y:Fc):Decidable (Fc.lt x y):=by unfold Fc.lt;exact inferInstance
theorem Bq_ (x:Str):¬ x<x:=List.lt_irrefl x
theorem rj_ (x y:Str):x<y∨x=y∨y<x:=by
 by_cases h:x<y
 ·exact .inl h
 by_cases d:y<x
 ·exact .inr (.inr d)
 exact .inr (.inl (List.le_antisymm (List.not_lt.1 d) (List.not_lt.1 h)))
theorem Fc.lt_irr (x:Fc):¬ x.lt x:=by
  unfold Fc.lt;simp[Bq_]
theorem Fc.lt_tri (x y:Fc):x.lt y∨x=y∨y.lt x:=by
 unfold Fc.lt;rcases Int.lt_trichotomy x.kind y.kind with h|h|h
 ·exact .inl (.inl h)
 ·rcases rj_ x.a y.a with d|d|d
  ·exact .inl (.inr ⟨h,.inl d⟩)
  ·rcases rj_ x.b y.b with e|e|e
   ·exact .inl (.inr ⟨h,.inr ⟨d,.inl e⟩⟩)
   ·rcases rj_ x.r y.r with v|v|v
    ·exact .inl (.inr ⟨h,.inr ⟨d,.inr ⟨e,.inl v⟩⟩⟩)
    ·rcases Int.lt_trichotomy x.lo y.lo with B|B|B
     ·exact .inl (.inr ⟨h,.inr ⟨d,.inr ⟨e,.inr ⟨v,.inl B⟩⟩⟩⟩)
     ·rcases Int.lt_trichotomy x.hi y.hi with C|C|C
      ·exact .inl (.inr ⟨h,.inr ⟨d,.inr ⟨e,.inr ⟨v,.inr ⟨B,C⟩⟩⟩⟩⟩)
      ·refine .inr (.inl ?_);cases x;cases y;simp_all
      exact .inr (.inr (.inr ⟨h.symm,.inr ⟨d.symm,.inr ⟨e.symm,.inr ⟨v.symm,.inr ⟨B.symm,C⟩⟩⟩⟩⟩))
     exact .inr (.inr (.inr ⟨h.symm,.inr ⟨d.symm,.inr ⟨e.symm,.inr ⟨v.symm,.inl B⟩⟩⟩⟩))
    exact .inr (.inr (.inr ⟨h.symm,.inr ⟨d.symm,.inr ⟨e.symm,.inl v⟩⟩⟩))
   exact .inr (.inr (.inr ⟨h.symm,.inr ⟨d.symm,.inl e⟩⟩))
  exact .inr (.inr (.inr ⟨h.symm,.inl d⟩))
 exact .inr (.inr (.inl h))
theorem hz_ {α:Type} {lt:α→α→Prop} (h:∀ {x y z},lt x y→lt y z→lt x z) {x y z:α} {P Q R:Prop} (v:x=y→y=z→P→Q→R) (e:lt x y∨x=y∧P) (d:lt y z∨y=z∧Q):lt x z∨x=z∧R:=by
 rcases e with e|⟨rfl,e⟩
 ·rcases d with d|⟨rfl,d⟩
  ·exact .inl (h e d)
  exact .inl e
 rcases d with d|⟨rfl,d⟩
 ·exact .inl d
 exact .inr ⟨rfl,v rfl rfl e d⟩
theorem Fc.lt_trans {x y z:Fc} (d:x.lt y) (e:y.lt z):x.lt z :=
  hz_ (lt:=fun a b:Int=>a<b) Int.lt_trans (fun _ _=>hz_ (lt:=fun a b:Str=>a<b) List.lt_trans (fun _ _=>hz_ (lt:=fun a b:Str=>a<b) List.lt_trans (fun _ _=>hz_ (lt:=fun a b:Str=>a<b) List.lt_trans (fun _ _=>hz_ (lt:=fun a b:Int=>a<b) Int.lt_trans fun _ _=>Int.lt_trans)))) d e
abbrev Srt (l:List Fc):Prop:=l.Pairwise Fc.lt
def uh_ (p:List Pc) (A:List Str) (m:Nat):Option (List Fc)→Prop
  | some L=>Srt L∧(∀ y,y∈L↔Der p A y)∧L.length≤m
  | none=>∃ M:List Fc,M.Nodup∧(∀ y∈M,Der p A y)∧m<M.length
theorem eB_ {α:Type} [DecidableEq α]:∀ {l m:List α},l.Nodup→(∀ x∈l,x∈m)→l.length≤m.length
  | [],m,_,_=>by simp
  | x::l,m,h,hs=>by
    rw[List.nodup_cons]at h
    have:=eB_ (l:=l) (m:=m.erase x) h.2 fun y v=>by
      have d:y≠x:=fun e=>h.1 (e▸v)
      exact (List.mem_erase_of_ne d).2 (hs y (by simp[v]))
    have B:=hs x zaf_;rw[List.length_erase_of_mem B]at this;have:0<m.length:=List.length_pos_of_mem B;simp only[List.length_cons];omega
end Go.Vs
namespace Go.Vs
open Go Go.Sx
section
variable {ps:List Pc} {A:List Str} {c:List Fc} {x:Ix} {f:Fc}
end
section
variable {p:List Pc} {A:List Str} {l:List Fc} {f:Fc}
theorem CT_ {α β:Type} {g:α→List β} {n:Nat}:∀ (l:List α),(∀ x∈l,(g x).length≤n)→(l.flatMap g).length≤l.length*n
  | [],_=>by simp
  | x::l,h=>by
    have:=CT_ l fun y d=>h y zaT_
    have e:=h x zaf_;simp only[List.flatMap_cons,List.length_append,List.length_cons,Nat.add_mul,Nat.one_mul];omega
end
end Go.Vs
