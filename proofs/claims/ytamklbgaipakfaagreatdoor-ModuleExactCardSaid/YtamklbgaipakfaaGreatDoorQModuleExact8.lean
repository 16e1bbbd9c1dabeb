/-
  Part of the proof of the law ModuleExact over this seat: the small logic, the data, the contracts of functions (no condition).
-/
import Derived.Test.YtamklbgaipakfaaGreatDoorQModuleExact7
import Derived.Test.YtamklbgaipakfaaGreatDoorQModuleExact2
set_option linter.unusedVariables false
set_option linter.unusedSimpArgs false
set_option linter.unusedSectionVars false
set_option maxHeartbeats 1000000
namespace Go.Vs
open Go Go.Sx
def ar_ (a b:Str):Fc:=⟨1,a,b,[],0,0⟩
def ax_ (a r b:Str):Fc:=⟨2,a,b,r,0,0⟩
def ak_ (a r:Str) (lo hi:Int):Fc:=⟨3,a,[],r,lo,hi⟩
inductive One (p:List Pc) (A:List Str) (S:Fc→Prop) (M:Fc→Fc→Prop):Fc→Prop
  | r1 {a:Str} (h:a∈A):One p A S M (ar_ a a)
  | r2 {a:Str} (h:a∈A):One p A S M (ar_ a [42])
  | r10 {a:Str} {x:Pc} (hx:x∈p) (hk:x.kind=7) (h:a∈A):One p A S M (ax_ a x.r a)
  | r3 {a:Str} {x:Pc} (hx:x∈p) (hk:x.kind=1) (h:S (ar_ a x.a)):One p A S M (ar_ a x.c)
  | r4 {a:Str} {x:Pc} (hx:x∈p) (hk:x.kind=2) (h:S (ar_ a x.a)) (h':S (ar_ a x.b)):One p A S M (ar_ a x.c)
  | r5 {a:Str} {x:Pc} (hx:x∈p) (hk:x.kind=3) (h:S (ar_ a x.a)):One p A S M (ax_ a x.r x.c)
  | r6 {a b:Str} {x:Pc} (hx:x∈p) (hk:x.kind=5) (h:S (ax_ a x.r b)):One p A S M (ax_ a x.t b)
  | r7 {a b c:Str} {x:Pc} (hx:x∈p) (hk:x.kind=6) (h:S (ax_ a x.r b)) (h':S (ax_ b x.s c)):One p A S M (ax_ a x.t c)
  | r8 {a b:Str} {x:Pc} (hx:x∈p) (hk:x.kind=4) (h:S (ax_ a x.r b)) (h':S (ar_ b x.a)):One p A S M (ar_ a x.c)
  | r9 {a r b:Str} (h:S (ax_ a r b)) (h':S (ar_ b [33])):One p A S M (ar_ a [33])
  | r11 {a:Str} {x:Pc} (hx:x∈p) (hk:x.kind=8) (h:S (ar_ a x.a)):One p A S M (ak_ a x.r x.lo x.hi)
  | r12 {a r:Str} {lo hi lo' hi':Int} (h:S (ak_ a r lo hi)) (h':S (ak_ a r lo' hi')) (hm:M (ak_ a r lo hi) (ak_ a r lo' hi')) (hl:max lo lo'≤min hi hi'):One p A S M (ak_ a r (max lo lo') (min hi hi'))
  | r13 {a r:Str} {lo hi lo' hi':Int} (h:S (ak_ a r lo hi)) (h':S (ak_ a r lo' hi')) (hm:M (ak_ a r lo hi) (ak_ a r lo' hi')) (hl:min hi hi'<max lo lo'):One p A S M (ar_ a [33])
  | r14 {a:Str} {lo hi:Int} {x:Pc} (hx:x∈p) (hk:x.kind=9) (h:S (ak_ a x.r lo hi)) (h1:x.lo≤lo) (h2:hi≤x.hi):One p A S M (ar_ a x.c)
abbrev iT_ (p:List Pc) (A:List Str) (S:Fc→Prop):Fc→Prop:=One p A S (fun _ _=>True)
theorem One.mono {p p':List Pc} {A A':List Str} {S S':Fc→Prop} {M M':Fc→Fc→Prop} (hp:∀ x∈p,∃ y∈p',∃ n,{ y with frm:=n }=x) (hA:∀ a∈A,a∈A') (hS:∀ y,S y→S' y) (hM:∀ x y,M x y→M' x y) {y:Fc} (h:One p A S M y):One p' A' S' M' y:=by
  cases h with
  | r1 h=>exact .r1 (hA _ h)
  | r2 h=>exact .r2 (hA _ h)
  | r10 hx hk h=>obtain⟨z,hz,n,rfl⟩:=hp _ hx;exact One.r10 (x:=z) hz hk (hA _ h)
  | r3 hx hk h=>obtain⟨z,hz,n,rfl⟩:=hp _ hx;exact One.r3 (x:=z) hz hk (hS _ h)
  | r4 hx hk h h'=>obtain⟨z,hz,n,rfl⟩:=hp _ hx;exact One.r4 (x:=z) hz hk (hS _ h) (hS _ h')
  | r5 hx hk h=>obtain⟨z,hz,n,rfl⟩:=hp _ hx;exact One.r5 (x:=z) hz hk (hS _ h)
  | r6 hx hk h=>obtain⟨z,hz,n,rfl⟩:=hp _ hx;exact One.r6 (x:=z) hz hk (hS _ h)
  | r7 hx hk h h'=>obtain⟨z,hz,n,rfl⟩:=hp _ hx;exact One.r7 (x:=z) hz hk (hS _ h) (hS _ h')
  | r8 hx hk h h'=>obtain⟨z,hz,n,rfl⟩:=hp _ hx;exact One.r8 (x:=z) hz hk (hS _ h) (hS _ h')
  | r9 h h'=>exact .r9 (hS _ h) (hS _ h')
  | r11 hx hk h=>obtain⟨z,hz,n,rfl⟩:=hp _ hx;exact One.r11 (x:=z) hz hk (hS _ h)
  | r12 h h' hm hl=>exact .r12 (hS _ h) (hS _ h') (hM _ _ hm) hl
  | r13 h h' hm hl=>exact .r13 (hS _ h) (hS _ h') (hM _ _ hm) hl
  | r14 hx hk h h1 h2=>obtain⟨z,hz,n,rfl⟩:=hp _ hx;exact One.r14 (x:=z) hz hk (hS _ h) h1 h2
def Der (p:List Pc) (A:List Str) (y:Fc):Prop:=∀ T:Fc→Prop,(∀ y,iT_ p A T y→T y)→T y
theorem Der.step {p:List Pc} {A:List Str} {y:Fc} (h:iT_ p A (Der p A) y):Der p A y :=
  fun T hT=>hT y (h.mono (fun x hx=>⟨x,hx,x.frm,rfl⟩) (fun _ h=>h) (fun z hz=>hz T hT) (fun _ _ h=>h))
theorem Der.mono {p p':List Pc} {A A':List Str} (hp:∀ x∈p,∃ y∈p',∃ n,{ y with frm:=n }=x) (hA:∀ a∈A,a∈A') {y:Fc} (h:Der p A y):Der p' A' y :=
  h _ fun _ hz=>Der.step (hz.mono hp hA (fun _ h=>h) (fun _ _ h=>h))
theorem Der.least {p:List Pc} {A:List Str} {T:Fc→Prop} (hT:∀ y,iT_ p A T y→T y) {y:Fc} (h:Der p A y):T y:=h T hT
structure Ky where
  kind:Int
  role:Str
  atom:Str
deriving DecidableEq
abbrev iS_:=Str×Str
def lat {K D:Type} [DecidableEq K] (l:List (K×D)) (k:K):List D:=(l.filter fun e=>decide (e.1=k)).map (·.2)
theorem dz_ {K D:Type} [DecidableEq K] {l:List (K×D)} {k:K} {d:D}:d∈lat l k↔(k,d)∈l:=by
  unfold lat
  simp only[List.mem_map,List.mem_filter,decide_eq_true_eq]
  exact⟨fun⟨⟨a,b⟩,⟨h1,h2⟩,h3⟩=>by subst h2;subst h3;exact h1,fun h=>⟨(k,d),⟨h,rfl⟩,rfl⟩⟩
theorem iO_ {K D:Type} [DecidableEq K] (l m:List (K×D)) (k:K):lat (l++m) k=lat l k++lat m k:=by simp[lat]
theorem fx_ {K D:Type} [DecidableEq K] (l:List (K×D)) (k:K):(lat l k).length≤l.length:=by
  simp only[lat,List.length_map];exact List.length_filter_le _ _
def cH_ (x:Pc):List (Ky×Pc) :=
  if x.kind=1∨x.kind=3∨x.kind=8 then [(⟨x.kind,[],x.a⟩,x)]
  else if x.kind=2 then if x.b≠x.a then [(⟨x.kind,[],x.a⟩,x),(⟨x.kind,[],x.b⟩,x)] else [(⟨x.kind,[],x.a⟩,x)]
  else if x.kind=4 then [(⟨x.kind,[],x.a⟩,x),(⟨x.kind,x.r,x.a⟩,x)]
  else if x.kind=5∨x.kind=9 then [(⟨x.kind,x.r,[]⟩,x)]
  else if x.kind=6 then [(⟨x.kind,x.r,[]⟩,x),(⟨x.kind,[],x.s⟩,x)]
  else []
def Pc.zf (x:Pc):Pc:={ x with frm:=0 }
def uniq:List Pc→List Pc→List Pc
  | l,[]=>l
  | l,x::r=>uniq (if x.zf∈l then l else l++[x.zf]) r
theorem iZ_:∀ (r l:List Pc) (x:Pc),x∈uniq l r↔x∈l∨∃ y∈r,y.zf=x
 | [],l,x=>by simp[uniq]
 | y::r,l,x=>by
   rw[uniq,iZ_ r]
   by_cases h:y.zf∈l
   · rw[if_pos h]
     constructor
     · rintro (h1|⟨z,h1,h2⟩)
       · exact .inl h1
       · exact .inr ⟨z,by simp[h1],h2⟩
     · rintro (h1|⟨z,h1,h2⟩)
       · exact .inl h1
       · rcases List.mem_cons.1 h1 with rfl|h1
         · exact .inl (h2▸h)
         · exact .inr ⟨z,h1,h2⟩
   · rw[if_neg h]
     simp only[List.mem_append,List.mem_cons,List.not_mem_nil,or_false]
     constructor
     · rintro ((h1|h1)|⟨z,h1,h2⟩)
       · exact .inl h1
       · exact .inr ⟨y,.inl rfl,h1.symm⟩
       · exact .inr ⟨z,.inr h1,h2⟩
     · rintro (h1|⟨z,h1|h1,h2⟩)
       · exact .inl (.inl h1)
       · subst h1;exact .inl (.inr h2.symm)
       · exact .inr ⟨z,h1,h2⟩
theorem ja_:∀ (r l:List Pc),(uniq l r).length≤l.length+r.length
  | [],l=>by simp[uniq]
  | y::r,l=>by
    rw[uniq]
    have:=ja_ r (if y.zf∈l then l else l++[y.zf])
    have h2:(if y.zf∈l then l else l++[y.zf]).length≤l.length+1:=by split<;>simp
    simp only[List.length_cons]
    omega
def aN_ (ps:List Pc):List (Ky×Pc):=ps.flatMap cH_
def as_ (ps:List Pc):List Str:=(ps.filter fun x=>decide (x.kind=7)).map (·.r)
theorem tJ_ (x:Pc):∀ e∈cH_ x,e.2=x∧e.1.kind=x.kind:=by
  unfold cH_
  repeat' split
  all_goals simp
theorem et_ {x y:Pc} {k:Ky} (h:(k,y)∈cH_ x):y=x∧k.kind=x.kind:=tJ_ x _ h
def Pc.rok (x:Pc):Prop:=(x.kind=4∨x.kind=5∨x.kind=6∨x.kind=9∨x.kind=3∨x.kind=7∨x.kind=8→x.r≠[])∧(x.kind=6→x.s≠[]∧x.t≠[])∧(x.kind=5→x.t≠[])
theorem gD_ {ps:List Pc} {k:Ky} {x:Pc}:x∈lat (aN_ ps) k↔x∈ps∧(k,x)∈cH_ x:=by
 rw[dz_,aN_,List.mem_flatMap]
 constructor
 ·rintro ⟨y,hy,h⟩
  obtain⟨rfl,_⟩:=et_ h
  exact⟨hy,h⟩
 rintro ⟨h1,h2⟩
 exact⟨x,h1,h2⟩
theorem pm1 {ps:List Pc} {b:Str} {x:Pc}:x∈lat (aN_ ps) ⟨1,[],b⟩↔x∈ps∧x.kind=1∧x.a=b:=by
 rw[gD_]
 refine and_congr_right fun _=>⟨fun h=>?_,fun⟨h,h'⟩=>?_⟩
 ·have hk:=(et_ h).2
  simp only at hk
  simp[cH_,← hk]at h
  exact⟨hk.symm,h.symm⟩
 subst h';simp[cH_,h]
theorem pm2 {ps:List Pc} {b:Str} {x:Pc}:x∈lat (aN_ ps) ⟨2,[],b⟩↔x∈ps∧x.kind=2∧(x.a=b∨x.b=b):=by
 rw[gD_]
 refine and_congr_right fun _=>⟨fun h=>?_,fun⟨h,h'⟩=>?_⟩
 ·have hk:=(et_ h).2
  simp only at hk
  simp[cH_,← hk]at h
  split at h
  ·simp at h;exact⟨hk.symm,.inl h.symm⟩
  simp at h;rcases h with h|h
  ·exact⟨hk.symm,.inl h.symm⟩
  exact⟨hk.symm,.inr h.symm⟩
 by_cases e:x.b=x.a
 ·have:x.a=b:=h'.elim id (fun q=>e▸q)
  subst this;simp[cH_,h,e]
 rcases h' with rfl|rfl<;>simp[cH_,h,e]
theorem pm3 {ps:List Pc} {b:Str} {x:Pc}:x∈lat (aN_ ps) ⟨3,[],b⟩↔x∈ps∧x.kind=3∧x.a=b:=by
 rw[gD_]
 refine and_congr_right fun _=>⟨fun h=>?_,fun⟨h,h'⟩=>?_⟩
 ·have hk:=(et_ h).2
  simp only at hk
  simp[cH_,← hk]at h
  exact⟨hk.symm,h.symm⟩
 subst h';simp[cH_,h]
theorem pm8 {ps:List Pc} {b:Str} {x:Pc}:x∈lat (aN_ ps) ⟨8,[],b⟩↔x∈ps∧x.kind=8∧x.a=b:=by
 rw[gD_]
 refine and_congr_right fun _=>⟨fun h=>?_,fun⟨h,h'⟩=>?_⟩
 ·have hk:=(et_ h).2
  simp only at hk
  simp[cH_,← hk]at h
  exact⟨hk.symm,h.symm⟩
 subst h';simp[cH_,h]
theorem pm5 {ps:List Pc} {r:Str} {x:Pc}:x∈lat (aN_ ps) ⟨5,r,[]⟩↔x∈ps∧x.kind=5∧x.r=r:=by
 rw[gD_]
 refine and_congr_right fun _=>⟨fun h=>?_,fun⟨h,h'⟩=>?_⟩
 ·have hk:=(et_ h).2
  simp only at hk
  simp[cH_,← hk]at h
  exact⟨hk.symm,h.symm⟩
 subst h';simp[cH_,h]
theorem pm9 {ps:List Pc} {r:Str} {x:Pc}:x∈lat (aN_ ps) ⟨9,r,[]⟩↔x∈ps∧x.kind=9∧x.r=r:=by
 rw[gD_]
 refine and_congr_right fun _=>⟨fun h=>?_,fun⟨h,h'⟩=>?_⟩
 ·have hk:=(et_ h).2
  simp only at hk
  simp[cH_,← hk]at h
  exact⟨hk.symm,h.symm⟩
 subst h';simp[cH_,h]
theorem pm6 {ps:List Pc} {r:Str} (hn:r≠[]) {x:Pc}:x∈lat (aN_ ps) ⟨6,r,[]⟩↔x∈ps∧x.kind=6∧x.r=r:=by
 rw[gD_]
 refine and_congr_right fun hx=>⟨fun h=>?_,fun⟨h,h'⟩=>?_⟩
 ·have hk:=(et_ h).2
  simp only at hk
  simp[cH_,← hk,hn]at h
  exact⟨hk.symm,h.symm⟩
 subst h';simp[cH_,h]
theorem pm6' {ps:List Pc} {s:Str} {x:Pc} (hn:s≠[]):x∈lat (aN_ ps) ⟨6,[],s⟩↔x∈ps∧x.kind=6∧x.s=s:=by
 rw[gD_]
 refine and_congr_right fun hx=>⟨fun h=>?_,fun⟨h,h'⟩=>?_⟩
 ·have hk:=(et_ h).2
  simp only at hk
  simp[cH_,← hk,hn]at h
  exact⟨hk.symm,h.symm⟩
 subst h';simp[cH_,h]
theorem pm4 {ps:List Pc} (hr:∀ x∈ps,x.rok) {b:Str} {x:Pc}:x∈lat (aN_ ps) ⟨4,[],b⟩↔x∈ps∧x.kind=4∧x.a=b:=by
 rw[gD_]
 refine and_congr_right fun hx=>⟨fun h=>?_,fun⟨h,h'⟩=>?_⟩
 ·have hk:=(et_ h).2
  simp only at hk
  have h0:=(hr x hx).1 (.inl hk.symm)
  simp[cH_,← hk]at h
  refine⟨hk.symm,h.elim (fun q=>q.symm) (fun q=>absurd q.1 h0)⟩
 subst h';simp[cH_,h]
theorem pm4' {ps:List Pc} {r b:Str} (hn:r≠[]) {x:Pc}:x∈lat (aN_ ps) ⟨4,r,b⟩↔x∈ps∧x.kind=4∧x.r=r∧x.a=b:=by
 rw[gD_]
 refine and_congr_right fun hx=>⟨fun h=>?_,fun⟨h,h',h''⟩=>?_⟩
 ·have hk:=(et_ h).2
  simp only at hk
  simp[cH_,← hk,hn]at h
  exact⟨hk.symm,h.1.symm,h.2.symm⟩
 subst h' h'';simp[cH_,h]
structure Ix where
  above:List (Str×Str)
  under:List (Str×Str)
  frm:List (iS_×Str)
  into:List (iS_×Str)
  ranges:List (iS_×Fc)
  firms:List (iS_×Fc)
def Ix.nil:Ix:=⟨[],[],[],[],[],[]⟩
def Ix.add (x:Ix) (firm:Bool) (f:Fc):Ix :=
  if f.kind=1 then { x with above:=x.above++[(f.a,f.b)] }
  else if f.kind=2 then { x with under:=x.under++[(f.b,f.a)],frm:=x.frm++[((f.a,f.r),f.b)],into:=x.into++[((f.b,f.r),f.a)] }
  else if f.kind=3 then { x with ranges:=x.ranges++[((f.a,f.r),f)],firms:=if firm then x.firms++[((f.a,f.r),f)] else x.firms }
  else x
structure Ix.of (x:Ix) (S Fm:Fc→Prop):Prop where
  above:∀ a b,(a,b)∈x.above↔∃ f,S f∧f.kind=1∧f.a=a∧f.b=b
  under:∀ b a,(b,a)∈x.under↔∃ f,S f∧f.kind=2∧f.a=a∧f.b=b
  frm:∀ a r b,((a,r),b)∈x.frm↔∃ f,S f∧f.kind=2∧f.a=a∧f.r=r∧f.b=b
  into:∀ a r b,((b,r),a)∈x.into↔∃ f,S f∧f.kind=2∧f.a=a∧f.r=r∧f.b=b
  ranges:∀ a r f,((a,r),f)∈x.ranges↔S f∧f.kind=3∧f.a=a∧f.r=r
  firms:∀ a r f,((a,r),f)∈x.firms↔S f∧Fm f∧f.kind=3∧f.a=a∧f.r=r
theorem Ix.of_nil (Fm:Fc→Prop):Ix.nil.of (fun _=>False) Fm:=by
  constructor<;>simp[Ix.nil]
theorem Ix.of_add {x:Ix} {S Fm:Fc→Prop} (h:x.of S Fm) (f:Fc) {b:Bool} (hb:b=true↔Fm f):(x.add b f).of (fun y=>S y∨y=f) Fm:=by
 have key:∀ (Q:Fc→Prop),(∃ y,(S y∨y=f)∧Q y)↔(∃ y,S y∧Q y)∨Q f:=fun Q=>by
   constructor
   · rintro ⟨y,h1|rfl,h2⟩
     · exact .inl ⟨y,h1,h2⟩
     · exact .inr h2
   · rintro (⟨y,h1,h2⟩|h2)
     · exact⟨y,.inl h1,h2⟩
     · exact⟨f,.inr rfl,h2⟩
 unfold Ix.add
 split
 ·rename_i hk
  constructor
  ·intro a c;rw[key,← h.above];simp[hk];exact or_congr_right ⟨fun⟨p,q⟩=>⟨p.symm,q.symm⟩,fun⟨p,q⟩=>⟨p.symm,q.symm⟩⟩
  ·intro a c;rw[key,← h.under];simp[hk]
  ·intro a r c;rw[key,← h.frm];simp[hk]
  ·intro a r c;rw[key,← h.into];simp[hk]
  ·intro a r y;rw[h.ranges];constructor
   ·exact fun q=>⟨.inl q.1,q.2⟩
   rintro ⟨q|rfl,q2⟩
   ·exact⟨q,q2⟩
   rw[hk]at q2;exact absurd q2.1 (by decide)
  intro a r y;rw[h.firms];constructor
  ·exact fun q=>⟨.inl q.1,q.2⟩
  rintro ⟨q|rfl,q2⟩
  ·exact⟨q,q2⟩
  rw[hk]at q2;exact absurd q2.2.1 (by decide)
 split
 ·rename_i hk
  constructor
  ·intro a c;rw[key,← h.above];simp[hk]
  ·intro a c;rw[key,← h.under];simp[hk];exact or_congr_right ⟨fun⟨p,q⟩=>⟨q.symm,p.symm⟩,fun⟨p,q⟩=>⟨q.symm,p.symm⟩⟩
  ·intro a r c;rw[key,← h.frm];simp[hk];exact or_congr_right ⟨fun⟨⟨p,q⟩,s⟩=>⟨p.symm,q.symm,s.symm⟩,fun⟨p,q,s⟩=>⟨⟨p.symm,q.symm⟩,s.symm⟩⟩
  ·intro a r c;rw[key,← h.into];simp[hk];exact or_congr_right ⟨fun⟨⟨p,q⟩,s⟩=>⟨s.symm,q.symm,p.symm⟩,fun⟨p,q,s⟩=>⟨⟨s.symm,q.symm⟩,p.symm⟩⟩
  ·intro a r y;rw[h.ranges];constructor
   ·exact fun q=>⟨.inl q.1,q.2⟩
   rintro ⟨q|rfl,q2⟩
   ·exact⟨q,q2⟩
   rw[hk]at q2;exact absurd q2.1 (by decide)
  intro a r y;rw[h.firms];constructor
  ·exact fun q=>⟨.inl q.1,q.2⟩
  rintro ⟨q|rfl,q2⟩
  ·exact⟨q,q2⟩
  rw[hk]at q2;exact absurd q2.2.1 (by decide)
 split
 ·rename_i hk
  constructor
  ·intro a c;rw[key,← h.above];simp[hk]
  ·intro a c;rw[key,← h.under];simp[hk]
  ·intro a r c;rw[key,← h.frm];simp[hk]
  ·intro a r c;rw[key,← h.into];simp[hk]
  ·intro a r y
   simp only[List.mem_append,List.mem_singleton,h.ranges,Prod.mk.injEq]
   constructor
   ·rintro (⟨q,q2⟩|⟨⟨rfl,rfl⟩,rfl⟩)
    ·exact⟨.inl q,q2⟩
    exact⟨.inr rfl,hk,rfl,rfl⟩
   rintro ⟨q|rfl,q2,rfl,rfl⟩
   ·exact .inl ⟨q,q2,rfl,rfl⟩
   exact .inr ⟨⟨rfl,rfl⟩,rfl⟩
  intro a r y
  cases b with
  | false =>
    simp only[Bool.false_eq_true,if_false,h.firms]
    constructor
    · exact fun q=>⟨.inl q.1,q.2⟩
    · rintro ⟨q|rfl,q2⟩
      · exact⟨q,q2⟩
      · exact absurd (hb.2 q2.1) (by decide)
  | true =>
    simp only[if_true,List.mem_append,List.mem_singleton,h.firms,Prod.mk.injEq]
    constructor
    · rintro (⟨q,q2⟩|⟨⟨rfl,rfl⟩,rfl⟩)
      · exact⟨.inl q,q2⟩
      · exact⟨.inr rfl,hb.1 rfl,hk,rfl,rfl⟩
    · rintro ⟨q|rfl,q2,q3,rfl,rfl⟩
      · exact .inl ⟨q,q2,q3,rfl,rfl⟩
      · exact .inr ⟨⟨rfl,rfl⟩,rfl⟩
 rename_i h1 h2 h3
 constructor
 ·intro a c;rw[key,← h.above];simp[h1]
 ·intro a c;rw[key,← h.under];simp[h2]
 ·intro a r c;rw[key,← h.frm];simp[h2]
 ·intro a r c;rw[key,← h.into];simp[h2]
 ·intro a r y;rw[h.ranges];constructor
  ·exact fun q=>⟨.inl q.1,q.2⟩
  rintro ⟨q|rfl,q2⟩
  ·exact⟨q,q2⟩
  exact absurd q2.1 h3
 intro a r y;rw[h.firms];constructor
 ·exact fun q=>⟨.inl q.1,q.2⟩
 rintro ⟨q|rfl,q2⟩
 ·exact⟨q,q2⟩
 exact absurd q2.2.1 h3
theorem Ix.of_firm {x:Ix} {S Fm Fm':Fc→Prop} (h:x.of S Fm) (hf:∀ y,S y→(Fm y↔Fm' y)):x.of S Fm' :=
  ⟨h.above,h.under,h.frm,h.into,h.ranges,fun a r f=>by rw[h.firms];exact and_congr_right fun hs=>by rw[hf f hs]⟩
section
variable (pm:List (Ky×Pc)) (x:Ix) (f:Fc)
def hc_:List Fc:=(lat pm ⟨1,[],f.b⟩).map fun y=>ar_ f.a y.c
def mB_:List Fc:=(lat pm ⟨3,[],f.b⟩).map fun y=>ax_ f.a y.r y.c
def gY_:List Fc:=(lat pm ⟨5,f.r,[]⟩).map fun y=>ax_ f.a y.t f.b
def fT_:List Fc:=(lat pm ⟨6,f.r,[]⟩).flatMap fun y=>(lat x.frm (f.b,y.s)).map fun c=>ax_ f.a y.t c
def hx_:List Fc:=(lat pm ⟨6,[],f.r⟩).flatMap fun y=>(lat x.into (f.a,y.r)).map fun a=>ax_ a y.t f.b
def fX_:List Fc:=(lat x.above f.b).flatMap fun c=>(lat pm ⟨4,f.r,c⟩).map fun y=>ar_ f.a y.c
def fY_:List Fc:=(lat pm ⟨4,[],f.b⟩).flatMap fun y=>(lat x.into (f.a,y.r)).map fun a=>ar_ a y.c
def dR_:List Fc:=if f.b=[33] then (lat x.under f.a).map fun a=>ar_ a [33] else []
def ss_:List Fc:=((lat pm ⟨9,f.r,[]⟩).filter fun y=>decide (y.lo≤f.lo∧f.hi≤y.hi)).map fun y=>ar_ f.a y.c
def ei_ (y:Fc):Fc:=ak_ f.a f.r (max f.lo y.lo) (min f.hi y.hi)
def cV_ (y:Fc):Bool:=decide (min f.hi y.hi<max f.lo y.lo)
def eW_ (firm:Bool):List Fc:=if firm then lat x.ranges (f.a,f.r) else lat x.firms (f.a,f.r)
def gx_ (l:List Fc):List Fc:=(l.filter fun y=>!cV_ f y&&decide (ei_ f y≠f∧ei_ f y≠y)).map (ei_ f)
def hB_ (l:List Fc):List Fc:=if l.any (cV_ f) then [ar_ f.a [33]] else []
end
section
variable (stp:Fc→List Fc→List Fc) (kof:List Fc→List Fc)
def emits (L:List Fc) (s:List Fc):List Fc:=L.foldl (fun s y=>stp y s) s
def eJ_ (f:Fc) (l:List Pc) (s:List Fc):List Fc:=l.foldl (fun s y=>if ar_ f.a y.a∈kof s∧ar_ f.a y.b∈kof s then stp (ar_ f.a y.c) s else s) s
def cv_ (f:Fc) (l:List Pc) (s:List Fc×List Fc):List Fc×List Fc:=l.foldl (fun s y=>(stp (ak_ f.a y.r y.lo y.hi) s.1,if ak_ f.a y.r y.lo y.hi∈kof s.1 then s.2 else ak_ f.a y.r y.lo y.hi::s.2)) s
end
theorem aC_ (stp:Fc→List Fc→List Fc) (L M:List Fc) (s:List Fc):emits stp (L++M) s=emits stp M (emits stp L s):=by simp[emits]
structure Grows (stp:Fc→List Fc→List Fc) (kof:List Fc→List Fc):Prop where
  up:∀ y s z,z∈kof s→z∈kof (stp y s)
theorem Grows.emits {stp:Fc→List Fc→List Fc} {kof:List Fc→List Fc} (h:Grows stp kof):∀ (L s:List Fc) (z:Fc),z∈kof s→z∈kof (emits stp L s)
  | [],_,_,hz=>hz
  | y::L,s,z,hz=>h.emits L _ z (h.up y s z hz)
theorem fI_ {stp:Fc→List Fc→List Fc} {kof:List Fc→List Fc} (h:Grows stp kof) (f:Fc):∀ (l:List Pc) (s:List Fc),
    ∃ L,eJ_ stp kof f l s=emits stp L s∧(∀ y∈L,∃ x∈l,y=ar_ f.a x.c∧ar_ f.a x.a∈kof (eJ_ stp kof f l s)∧ar_ f.a x.b∈kof (eJ_ stp kof f l s))∧(∀ x∈l,ar_ f.a x.a∈kof s→ar_ f.a x.b∈kof s→ar_ f.a x.c∈L)
  | [],s=>⟨[],rfl,by simp,by simp⟩
  | x::l,s=>by
    by_cases hc:ar_ f.a x.a∈kof s∧ar_ f.a x.b∈kof s
    · obtain⟨L,h1,h2,h3⟩:=fI_ h f l (stp (ar_ f.a x.c) s)
      have e:eJ_ stp kof f (x::l) s=eJ_ stp kof f l (stp (ar_ f.a x.c) s):=by simp only[eJ_,List.foldl_cons,if_pos hc]
      refine⟨ar_ f.a x.c::L,by rw[e,h1];rfl,fun y hy=>?_,fun z hz ha hb=>?_⟩
      · rw[e]
        rcases List.mem_cons.1 hy with rfl|hy
        · refine⟨x,by simp,rfl,?_,?_⟩<;>rw[h1]<;>exact h.emits L _ _ (h.up _ _ _ (by first|exact hc.1|exact hc.2))
        · obtain⟨z,hz,q⟩:=h2 y hy
          exact⟨z,by simp[hz],q⟩
      · rcases List.mem_cons.1 hz with rfl|hz
        · simp
        · exact List.mem_cons_of_mem _ (h3 z hz (h.up _ _ _ ha) (h.up _ _ _ hb))
    · obtain⟨L,h1,h2,h3⟩:=fI_ h f l s
      have e:eJ_ stp kof f (x::l) s=eJ_ stp kof f l s:=by simp only[eJ_,List.foldl_cons,if_neg hc]
      refine⟨L,by rw[e,h1],fun y hy=>?_,fun z hz ha hb=>?_⟩
      · rw[e]
        obtain⟨z,hz,q⟩:=h2 y hy
        exact⟨z,by simp[hz],q⟩
      · rcases List.mem_cons.1 hz with rfl|hz
        · exact absurd ⟨ha,hb⟩ hc
        · exact h3 z hz ha hb
theorem fq_ (stp:Fc→List Fc→List Fc) (kof:List Fc→List Fc) (f:Fc):∀ (l:List Pc) (s fm:List Fc),(cv_ stp kof f l (s,fm)).1=emits stp (l.map fun y=>ak_ f.a y.r y.lo y.hi) s
  | [],_,_=>rfl
  | x::l,s,fm=>by
    simp only[cv_,List.foldl_cons,List.map_cons,emits]
    exact fq_ stp kof f l _ _
theorem hh_ {stp:Fc→List Fc→List Fc} {kof:List Fc→List Fc} (h:Grows stp kof) (f:Fc):∀ (l:List Pc) (s fm:List Fc) (z:Fc),z∈(cv_ stp kof f l (s,fm)).2↔z∈fm∨(z ∉ kof s∧z∈(cv_ stp kof f l (s,fm)).2)
 | [],s,fm,z=>by simp[cv_]
 | x::l,s,fm,z=>by
   have ih:=hh_ h f l (stp (ak_ f.a x.r x.lo x.hi) s) (if ak_ f.a x.r x.lo x.hi∈kof s then fm else ak_ f.a x.r x.lo x.hi::fm) z
   have e:cv_ stp kof f (x::l) (s,fm)=cv_ stp kof f l (stp (ak_ f.a x.r x.lo x.hi) s,if ak_ f.a x.r x.lo x.hi∈kof s then fm else ak_ f.a x.r x.lo x.hi::fm):=rfl
   rw[e]
   constructor
   · intro hz
     rcases ih.1 hz with h1|h1
     · split at h1
       · exact .inl h1
       · rename_i hn
         rcases List.mem_cons.1 h1 with rfl|h1
         · exact .inr ⟨hn,hz⟩
         · exact .inl h1
     · exact .inr ⟨fun q=>h1.1 (h.up _ _ _ q),hz⟩
   · rintro (h1|h1)
     · exact ih.2 (.inl (by split<;>simp[h1]))
     · exact h1.2
theorem lc_ {stp:Fc→List Fc→List Fc} {kof:List Fc→List Fc} (f:Fc):∀ (l:List Pc) (s fm:List Fc) (z:Fc),z∈(cv_ stp kof f l (s,fm)).2→z∈fm∨∃ y∈l,z=ak_ f.a y.r y.lo y.hi
 | [],s,fm,z,hz=>.inl hz
 | x::l,s,fm,z,hz=>by
   have e:cv_ stp kof f (x::l) (s,fm)=cv_ stp kof f l (stp (ak_ f.a x.r x.lo x.hi) s,if ak_ f.a x.r x.lo x.hi∈kof s then fm else ak_ f.a x.r x.lo x.hi::fm):=rfl
   rw[e]at hz
   rcases lc_ f l _ _ z hz with h1|⟨y,hy,h1⟩
   · split at h1
     · exact .inl h1
     · rcases List.mem_cons.1 h1 with rfl|h1
       · exact .inr ⟨x,by simp,rfl⟩
       · exact .inl h1
   · exact .inr ⟨y,by simp[hy],h1⟩
def Fc.form (y:Fc):Prop:=(∃ a b,y=ar_ a b)∨(∃ a r b,y=ax_ a r b∧r≠[])∨(∃ a r lo hi,y=ak_ a r lo hi∧r≠[]∧-1099511627776≤lo∧lo≤hi∧hi≤1099511627776)
structure Pc.vok (x:Pc):Prop where
  rok:x.rok
  num:x.kind=8∨x.kind=9→-1099511627776≤x.lo∧x.lo≤x.hi∧x.hi≤1099511627776
theorem eX_ (a b:Str):(ar_ a b).form:=.inl ⟨a,b,rfl⟩
theorem mZ_ {f:Fc} (h:f.form) (hk:f.kind=1):f=ar_ f.a f.b:=by
 rcases h with⟨a,b,rfl⟩|⟨a,r,b,rfl,_⟩|⟨a,r,lo,hi,rfl,_⟩
 ·rfl
 ·simp[ax_]at hk
 simp[ak_]at hk
theorem mY_ {f:Fc} (h:f.form) (hk:f.kind=2):f=ax_ f.a f.r f.b∧f.r≠[]:=by
 rcases h with⟨a,b,rfl⟩|⟨a,r,b,rfl,h⟩|⟨a,r,lo,hi,rfl,_⟩
 ·simp[ar_]at hk
 ·exact⟨rfl,h⟩
 simp[ak_]at hk
theorem iA_ {f:Fc} (h:f.form) (hk:f.kind=3):f=ak_ f.a f.r f.lo f.hi∧f.r≠[]∧-1099511627776≤f.lo∧f.lo≤f.hi∧f.hi≤1099511627776:=by
 rcases h with⟨a,b,rfl⟩|⟨a,r,b,rfl,_⟩|⟨a,r,lo,hi,rfl,h⟩
 ·simp[ar_]at hk
 ·simp[ax_]at hk
 exact⟨rfl,h⟩
theorem kf_ {f:Fc} (h:f.form):f.kind=1∨f.kind=2∨f.kind=3:=by
  rcases h with⟨a,b,rfl⟩|⟨a,r,b,rfl,h⟩|⟨a,r,lo,hi,rfl,_⟩<;>simp[ar_,ax_,ak_]
theorem One.form {p:List Pc} {A:List Str} {S:Fc→Prop} {M:Fc→Fc→Prop} (hp:∀ x∈p,x.vok) (hS:∀ y,S y→y.form) {y:Fc} (h:One p A S M y):y.form:=by
  have link_r:∀ {a r b:Str},S (ax_ a r b)→r≠[]:=fun h=>(mY_ (hS _ h) rfl).2
  have span_r:∀ {a r:Str} {lo hi:Int},S (ak_ a r lo hi)→r≠[]∧-1099511627776≤lo∧lo≤hi∧hi≤1099511627776:=fun h=>(iA_ (hS _ h) rfl).2
  cases h with
  | r1 _=>exact eX_ _ _
  | r2 _=>exact eX_ _ _
  | r10 hx hk _=>exact .inr (.inl ⟨_,_,_,rfl,(hp _ hx).rok.1 (by simp[hk])⟩)
  | r3 _ _ _=>exact eX_ _ _
  | r4 _ _ _ _=>exact eX_ _ _
  | r5 hx hk _=>exact .inr (.inl ⟨_,_,_,rfl,(hp _ hx).rok.1 (by simp[hk])⟩)
  | r6 hx hk _=>exact .inr (.inl ⟨_,_,_,rfl,(hp _ hx).rok.2.2 hk⟩)
  | r7 hx hk _ _=>exact .inr (.inl ⟨_,_,_,rfl,((hp _ hx).rok.2.1 hk).2⟩)
  | r8 _ _ _ _=>exact eX_ _ _
  | r9 _ _=>exact eX_ _ _
  | r11 hx hk _=>exact .inr (.inr ⟨_,_,_,_,rfl,(hp _ hx).rok.1 (by simp[hk]),(hp _ hx).num (.inl hk)⟩)
  | r12 h h' _ hl=>exact .inr (.inr ⟨_,_,_,_,rfl,(span_r h).1,by have:=span_r h;omega,hl,by have:=span_r h;omega⟩)
  | r13 _ _ _ _=>exact eX_ _ _
  | r14 _ _ _ _ _=>exact eX_ _ _
section
variable {ps:List Pc} {A:List Str} {x:Ix} {S Fm:Fc→Prop} {f:Fc} {kn:List Fc}
theorem mn_ (hk:f.kind=1) (hf:f.form) (hkn:f∈kn):∀ y∈hc_ (aN_ ps) f,iT_ ps A (·∈kn) y:=by
  intro y hy
  obtain⟨z,hz,rfl⟩:=List.mem_map.1 hy
  obtain⟨h1,h2,h3⟩:=pm1.1 hz
  exact .r3 h1 h2 (by rw[h3,← mZ_ hf hk];exact hkn)
theorem qh_ (hk:f.kind=1) (hf:f.form) (hkn:f∈kn):∀ y∈mB_ (aN_ ps) f,iT_ ps A (·∈kn) y:=by
  intro y hy
  obtain⟨z,hz,rfl⟩:=List.mem_map.1 hy
  obtain⟨h1,h2,h3⟩:=pm3.1 hz
  exact .r5 h1 h2 (by rw[h3,← mZ_ hf hk];exact hkn)
theorem oB_ (hk:f.kind=1) (hf:f.form) (hkn:f∈kn):∀ y∈(lat (aN_ ps) ⟨8,[],f.b⟩).map (fun y=>ak_ f.a y.r y.lo y.hi),iT_ ps A (·∈kn) y:=by
  intro y hy
  obtain⟨z,hz,rfl⟩:=List.mem_map.1 hy
  obtain⟨h1,h2,h3⟩:=pm8.1 hz
  exact .r11 h1 h2 (by rw[h3,← mZ_ hf hk];exact hkn)
theorem ml_ (hk:f.kind=2) (hf:f.form) (hkn:f∈kn):∀ y∈gY_ (aN_ ps) f,iT_ ps A (·∈kn) y:=by
  intro y hy
  obtain⟨z,hz,rfl⟩:=List.mem_map.1 hy
  obtain⟨h1,h2,h3⟩:=pm5.1 hz
  exact .r6 h1 h2 (by rw[h3,← (mY_ hf hk).1];exact hkn)
theorem kR_ {hS:∀ y,S y→y.form} {a r b:Str} (h:∃ g,S g∧g.kind=2∧g.a=a∧g.r=r∧g.b=b):S (ax_ a r b):=by
  obtain⟨g,h1,h2,rfl,rfl,rfl⟩:=h
  rw[← (mY_ (hS g h1) h2).1];exact h1
theorem ix_sub {hS:∀ y,S y→y.form} {a b:Str} (h:∃ g,S g∧g.kind=1∧g.a=a∧g.b=b):S (ar_ a b):=by
  obtain⟨g,h1,h2,rfl,rfl⟩:=h
  rw[← mZ_ (hS g h1) h2];exact h1
theorem pS_ (hx:x.of S Fm) (hS:∀ y,S y→y.form) (hkS:∀ y,S y→y∈kn) (hk:f.kind=2) (hf:f.form) (hkn:f∈kn):∀ y∈fT_ (aN_ ps) x f++hx_ (aN_ ps) x f,iT_ ps A (·∈kn) y:=by
 intro y hy
 obtain⟨e,hn⟩:=mY_ hf hk
 rcases List.mem_append.1 hy with hy|hy
 ·obtain⟨z,hz,hy⟩:=List.mem_flatMap.1 hy
  obtain⟨c,hc,rfl⟩:=List.mem_map.1 hy
  obtain⟨h1,h2,h3⟩:=(pm6 hn).1 hz
  exact .r7 h1 h2 (by rw[h3,← e];exact hkn) (hkS _ (kR_ (hS:=hS) ((hx.frm _ _ _).1 (dz_.1 hc))))
 obtain⟨z,hz,hy⟩:=List.mem_flatMap.1 hy
 obtain⟨c,hc,rfl⟩:=List.mem_map.1 hy
 obtain⟨h1,h2,h3⟩:=(pm6' hn).1 hz
 exact .r7 h1 h2 (hkS _ (kR_ (hS:=hS) ((hx.into _ _ _).1 (dz_.1 hc)))) (by rw[h3,← e];exact hkn)
theorem lR_ (hx:x.of S Fm) (hS:∀ y,S y→y.form) (hkS:∀ y,S y→y∈kn) (hk:f.kind=2) (hf:f.form) (hkn:f∈kn):∀ y∈fX_ (aN_ ps) x f,iT_ ps A (·∈kn) y:=by
  intro y hy
  obtain⟨e,hn⟩:=mY_ hf hk
  obtain⟨c,hc,hy⟩:=List.mem_flatMap.1 hy
  obtain⟨z,hz,rfl⟩:=List.mem_map.1 hy
  obtain⟨h1,h2,h3,h4⟩:=(pm4' hn).1 hz
  exact .r8 (b:=f.b) h1 h2 (by rw[h3,← e];exact hkn) (by rw[h4];exact hkS _ (ix_sub (hS:=hS) ((hx.above _ _).1 (dz_.1 hc))))
theorem lS_ (hr:∀ x∈ps,x.vok) (hx:x.of S Fm) (hS:∀ y,S y→y.form) (hkS:∀ y,S y→y∈kn) (hk:f.kind=1) (hf:f.form) (hkn:f∈kn):∀ y∈fY_ (aN_ ps) x f,iT_ ps A (·∈kn) y:=by
  intro y hy
  obtain⟨z,hz,hy⟩:=List.mem_flatMap.1 hy
  obtain⟨c,hc,rfl⟩:=List.mem_map.1 hy
  obtain⟨h1,h2,h3⟩:=(pm4 (fun x hx=>(hr x hx).rok)).1 hz
  exact .r8 (b:=f.a) h1 h2 (hkS _ (kR_ (hS:=hS) ((hx.into _ _ _).1 (dz_.1 hc)))) (by rw[h3,← mZ_ hf hk];exact hkn)
theorem kJ_ (hx:x.of S Fm) (hS:∀ y,S y→y.form) (hkS:∀ y,S y→y∈kn) (hk:f.kind=1) (hf:f.form) (hkn:f∈kn):∀ y∈dR_ x f,iT_ ps A (·∈kn) y:=by
 intro y hy
 unfold dR_ at hy
 split at hy
 ·rename_i hb
  obtain⟨a,ha,rfl⟩:=List.mem_map.1 hy
  obtain⟨g,h1,h2,h3,h4⟩:=(hx.under _ _).1 (dz_.1 ha)
  exact .r9 (r:=g.r) (hkS _ (kR_ (hS:=hS) ⟨g,h1,h2,h3,rfl,h4⟩)) (by rw[← hb,← mZ_ hf hk];exact hkn)
 simp at hy
theorem kI_ (hk:f.kind=2) (hf:f.form) (hkn:f∈kn) (h:ar_ f.b [33]∈kn):iT_ ps A (·∈kn) (ar_ f.a [33]) :=
  .r9 (r:=f.r) (b:=f.b) (by rw[← (mY_ hf hk).1];exact hkn) h
theorem sr_ (hk:f.kind=3) (hf:f.form) (hkn:f∈kn):∀ y∈ss_ (aN_ ps) f,iT_ ps A (·∈kn) y:=by
  intro y hy
  obtain⟨z,hz,rfl⟩:=List.mem_map.1 hy
  obtain⟨hz,hc⟩:=List.mem_filter.1 hz
  obtain⟨h1,h2,h3⟩:=pm9.1 hz
  have hc:=of_decide_eq_true hc
  exact .r14 h1 h2 (by rw[h3,← (iA_ hf hk).1];exact hkn) hc.1 hc.2
theorem jX_ (hx:x.of S Fm) {firm:Bool} {y:Fc} (hy:y∈eW_ x f firm):S y∧y.kind=3∧y.a=f.a∧y.r=f.r:=by
 unfold eW_ at hy
 split at hy
 ·exact (hx.ranges _ _ _).1 (dz_.1 hy)
 have:=(hx.firms _ _ _).1 (dz_.1 hy)
 exact⟨this.1,this.2.2⟩
theorem qB_ (hx:x.of S Fm) (hS:∀ y,S y→y.form) (hkS:∀ y,S y→y∈kn) (hk:f.kind=3) (hf:f.form) (hkn:f∈kn) {firm:Bool}:∀ y∈gx_ f (eW_ x f firm)++hB_ f (eW_ x f firm),iT_ ps A (·∈kn) y:=by
 intro y hy
 have e:=(iA_ hf hk).1
 rcases List.mem_append.1 hy with hy|hy
 ·obtain⟨z,hz,rfl⟩:=List.mem_map.1 hy
  obtain⟨hz,hc⟩:=List.mem_filter.1 hz
  obtain⟨h1,h2,h3,h4⟩:=jX_ hx hz
  simp only[cV_,Bool.and_eq_true,Bool.not_eq_true',decide_eq_false_iff_not,Int.not_lt]at hc
  have ez:=(iA_ (hS z h1) h2).1
  rw[h3,h4]at ez
  exact .r12 (by rw[← e];exact hkn) (by rw[← ez];exact hkS z h1) trivial hc.1
 unfold hB_ at hy
 split at hy
 ·rename_i ha
  obtain⟨z,hz,hc⟩:=List.any_eq_true.1 ha
  obtain⟨h1,h2,h3,h4⟩:=jX_ hx hz
  have ez:=(iA_ (hS z h1) h2).1
  rw[h3,h4]at ez
  simp only[List.mem_singleton]at hy
  subst hy
  exact .r13 (r:=f.r) (by rw[← e];exact hkn) (by rw[← ez];exact hkS z h1) trivial (by simpa [cV_] using hc)
 simp at hy
theorem pO_ {z:Pc} {a:Str} (hz:z∈ps) (hk:z.kind=1):ar_ a z.c∈hc_ (aN_ ps) (ar_ a z.a) :=
  List.mem_map.2 ⟨z,pm1.2 ⟨hz,hk,rfl⟩,rfl⟩
theorem tx_ {z:Pc} {a:Str} (hz:z∈ps) (hk:z.kind=3):ax_ a z.r z.c∈mB_ (aN_ ps) (ar_ a z.a) :=
  List.mem_map.2 ⟨z,pm3.2 ⟨hz,hk,rfl⟩,rfl⟩
theorem rM_ {z:Pc} {a:Str} (hz:z∈ps) (hk:z.kind=8):ak_ a z.r z.lo z.hi∈(lat (aN_ ps) ⟨8,[],(ar_ a z.a).b⟩).map (fun y=>ak_ (ar_ a z.a).a y.r y.lo y.hi) :=
  List.mem_map.2 ⟨z,pm8.2 ⟨hz,hk,rfl⟩,rfl⟩
theorem pC_ {z:Pc} {a b:Str} (hz:z∈ps) (hk:z.kind=5):ax_ a z.t b∈gY_ (aN_ ps) (ax_ a z.r b) :=
  List.mem_map.2 ⟨z,pm5.2 ⟨hz,hk,rfl⟩,rfl⟩
theorem qW_ (hx:x.of S Fm) (hr:∀ x∈ps,x.vok) {z:Pc} {a b c:Str} (hz:z∈ps) (hk:z.kind=6) (h:S (ax_ b z.s c)):ax_ a z.t c∈fT_ (aN_ ps) x (ax_ a z.r b) :=
  List.mem_flatMap.2 ⟨z,(pm6 ((hr z hz).rok.1 (by simp[hk]))).2 ⟨hz,hk,rfl⟩,List.mem_map.2 ⟨c,dz_.2 ((hx.frm _ _ _).2 ⟨_,h,rfl,rfl,rfl,rfl⟩),rfl⟩⟩
theorem qV_ (hx:x.of S Fm) (hr:∀ x∈ps,x.vok) {z:Pc} {a b c:Str} (hz:z∈ps) (hk:z.kind=6) (h:S (ax_ a z.r b)):ax_ a z.t c∈hx_ (aN_ ps) x (ax_ b z.s c) :=
  List.mem_flatMap.2 ⟨z,(pm6' ((hr z hz).rok.2.1 hk).1).2 ⟨hz,hk,rfl⟩,List.mem_map.2 ⟨a,dz_.2 ((hx.into _ _ _).2 ⟨_,h,rfl,rfl,rfl,rfl⟩),rfl⟩⟩
theorem nW_ (hx:x.of S Fm) (hr:∀ x∈ps,x.vok) {z:Pc} {a b:Str} (hz:z∈ps) (hk:z.kind=4) (h:S (ar_ b z.a)):ar_ a z.c∈fX_ (aN_ ps) x (ax_ a z.r b) :=
  List.mem_flatMap.2 ⟨z.a,dz_.2 ((hx.above _ _).2 ⟨_,h,rfl,rfl,rfl⟩),List.mem_map.2 ⟨z,(pm4' ((hr z hz).rok.1 (by simp[hk]))).2 ⟨hz,hk,rfl,rfl⟩,rfl⟩⟩
theorem nX_ (hx:x.of S Fm) (hr:∀ x∈ps,x.vok) {z:Pc} {a b:Str} (hz:z∈ps) (hk:z.kind=4) (h:S (ax_ a z.r b)):ar_ a z.c∈fY_ (aN_ ps) x (ar_ b z.a) :=
  List.mem_flatMap.2 ⟨z,(pm4 (fun x hx=>(hr x hx).rok)).2 ⟨hz,hk,rfl⟩,List.mem_map.2 ⟨a,dz_.2 ((hx.into _ _ _).2 ⟨_,h,rfl,rfl,rfl,rfl⟩),rfl⟩⟩
theorem mm_ (hx:x.of S Fm) {a r b:Str} (h:S (ax_ a r b)):ar_ a [33]∈dR_ x (ar_ b [33]):=by
  unfold dR_
  rw[if_pos (show (ar_ b [33]).b=[33] from rfl)]
  exact List.mem_map.2 ⟨a,dz_.2 ((hx.under _ _).2 ⟨_,h,rfl,rfl,rfl⟩),rfl⟩
theorem vs_ {z:Pc} {a:Str} {lo hi:Int} (hz:z∈ps) (hk:z.kind=9) (h1:z.lo≤lo) (h2:hi≤z.hi):ar_ a z.c∈ss_ (aN_ ps) (ak_ a z.r lo hi) :=
  List.mem_map.2 ⟨z,List.mem_filter.2 ⟨pm9.2 ⟨hz,hk,rfl⟩,decide_eq_true ⟨h1,h2⟩⟩,rfl⟩
theorem mP_ (hx:x.of S Fm) {firm:Bool} (hfm:firm=true↔Fm f) {y:Fc} (hy:S y) (hk:y.kind=3) (ha:y.a=f.a) (hr:y.r=f.r) (hm:Fm f∨Fm y):y∈eW_ x f firm:=by
  unfold eW_
  cases firm with
  | true=>rw[if_pos rfl];exact dz_.2 ((hx.ranges _ _ _).2 ⟨hy,hk,ha,hr⟩)
  | false =>
    rw[if_neg (by decide)]
    refine dz_.2 ((hx.firms _ _ _).2 ⟨hy,hm.resolve_left (fun q=>?_),hk,ha,hr⟩)
    exact absurd (hfm.2 q) (by decide)
theorem ps_ {l:List Fc} {y:Fc} (hy:y∈l) :
    (max f.lo y.lo≤min f.hi y.hi→ei_ f y∈gx_ f l∨ei_ f y=f∨ei_ f y=y)∧(min f.hi y.hi<max f.lo y.lo→ar_ f.a [33]∈hB_ f l):=by
  refine⟨fun h=>?_,fun h=>?_⟩
  · by_cases h1:ei_ f y=f
    · exact .inr (.inl h1)
    · by_cases h2:ei_ f y=y
      · exact .inr (.inr h2)
      · refine .inl (List.mem_map.2 ⟨y,List.mem_filter.2 ⟨hy,?_⟩,rfl⟩)
        simp only[cV_,Bool.and_eq_true,Bool.not_eq_true',decide_eq_false_iff_not,Int.not_lt,decide_eq_true_eq]
        exact⟨h,h1,h2⟩
  · unfold hB_
    rw[if_pos (List.any_eq_true.2 ⟨y,hy,by simpa [cV_] using h⟩)]
    simp
end
section
variable (stp:Fc→List Fc→List Fc) (kof:List Fc→List Fc) (pm:List (Ky×Pc)) (x:Ix) (f:Fc)
def rl (j:Nat) (s:List Fc×List Fc):List Fc×List Fc :=
  if f.kind=1 then
    (match j with
    | 0=>(emits stp (hc_ pm f) s.1,s.2)
    | 1=>(eJ_ stp kof f (lat pm ⟨2,[],f.b⟩) s.1,s.2)
    | 2=>(emits stp (mB_ pm f) s.1,s.2)
    | 3=>(emits stp (fY_ pm x f) s.1,s.2)
    | 4=>(emits stp (dR_ x f) s.1,s.2)
    | _=>cv_ stp kof f (lat pm ⟨8,[],f.b⟩) s)
  else if f.kind=2 then
    (match j with
    | 0=>(emits stp (gY_ pm f) s.1,s.2)
    | 1=>(emits stp (fT_ pm x f++hx_ pm x f) s.1,s.2)
    | 2=>(emits stp (fX_ pm x f) s.1,s.2)
    | _=>(if ar_ f.b [33]∈kof s.1 then stp (ar_ f.a [33]) s.1 else s.1,s.2))
  else
    (match j with
    | 0=>(emits stp (gx_ f (eW_ x f (decide (f∈s.2)))++hB_ f (eW_ x f (decide (f∈s.2)))) s.1,s.2)
    | _=>(emits stp (ss_ pm f) s.1,s.2))
def rls:Nat→List Fc×List Fc→List Fc×List Fc
  | 0,s=>s
  | j+1,s=>rl stp kof pm x f j (rls j s)
def nrl:Nat:=if f.kind=1 then 6 else if f.kind=2 then 4 else 2
end
structure Cmpl (ps:List Pc) (S Fm kn good:Fc→Prop) (f:Fc):Prop where
  c3:∀ z a,z∈ps→z.kind=1→f=ar_ a z.a→good (ar_ a z.c)
  c4:∀ z a,z∈ps→z.kind=2→f=ar_ a z.a→kn (ar_ a z.b)→good (ar_ a z.c)
  c4':∀ z a,z∈ps→z.kind=2→f=ar_ a z.b→kn (ar_ a z.a)→good (ar_ a z.c)
  c5:∀ z a,z∈ps→z.kind=3→f=ar_ a z.a→good (ax_ a z.r z.c)
  c6:∀ z a b,z∈ps→z.kind=5→f=ax_ a z.r b→good (ax_ a z.t b)
  c7:∀ z a b c,z∈ps→z.kind=6→f=ax_ a z.r b→S (ax_ b z.s c)→good (ax_ a z.t c)
  c7':∀ z a b c,z∈ps→z.kind=6→f=ax_ b z.s c→S (ax_ a z.r b)→good (ax_ a z.t c)
  c8:∀ z a b,z∈ps→z.kind=4→f=ax_ a z.r b→S (ar_ b z.a)→good (ar_ a z.c)
  c8':∀ z a b,z∈ps→z.kind=4→f=ar_ b z.a→S (ax_ a z.r b)→good (ar_ a z.c)
  c9:∀ a r b,f=ax_ a r b→kn (ar_ b [33])→good (ar_ a [33])
  c9':∀ a r b,f=ar_ b [33]→S (ax_ a r b)→good (ar_ a [33])
  c11:∀ z a,z∈ps→z.kind=8→f=ar_ a z.a→good (ak_ a z.r z.lo z.hi)
  c12:∀ y,f.kind=3→S y→y.kind=3→y.a=f.a→y.r=f.r→(Fm f∨Fm y)→max f.lo y.lo≤min f.hi y.hi→good (ei_ f y)
  c13:∀ y,f.kind=3→S y→y.kind=3→y.a=f.a→y.r=f.r→(Fm f∨Fm y)→min f.hi y.hi<max f.lo y.lo→good (ar_ f.a [33])
  c14:∀ z a lo hi,z∈ps→z.kind=9→f=ak_ a z.r lo hi→z.lo≤lo→hi≤z.hi→good (ar_ a z.c)
section
variable {stp:Fc→List Fc→List Fc} {kof:List Fc→List Fc} {ps:List Pc} {A:List Str} {x:Ix} {S Fm:Fc→Prop} {f:Fc}
theorem oT_ (hg:Grows stp kof) (j:Nat) (s:List Fc×List Fc):∃ L,(rl stp kof (aN_ ps) x f j s).1=emits stp L s.1:=by
 unfold rl
 split
 ·split
  ·exact⟨_,rfl⟩
  ·obtain⟨L,h,_⟩:=fI_ hg f (lat (aN_ ps) ⟨2,[],f.b⟩) s.1
   exact⟨L,h⟩
  ·exact⟨_,rfl⟩
  ·exact⟨_,rfl⟩
  ·exact⟨_,rfl⟩
  exact⟨_,fq_ stp kof f _ s.1 s.2⟩
 split
 ·split
  ·exact⟨_,rfl⟩
  ·exact⟨_,rfl⟩
  ·exact⟨_,rfl⟩
  simp only
  split
  ·exact⟨[ar_ f.a [33]],rfl⟩
  exact⟨[],rfl⟩
 split
 ·exact⟨_,rfl⟩
 exact⟨_,rfl⟩
theorem jP_ (hg:Grows stp kof) (j:Nat) (s:List Fc×List Fc):∃ L,(rls stp kof (aN_ ps) x f j s).1=emits stp L s.1:=by
  induction j with
  | zero=>exact⟨[],rfl⟩
  | succ j ih =>
    obtain⟨L,h⟩:=ih
    obtain⟨M,h'⟩:=oT_ (ps:=ps) (x:=x) (f:=f) hg j (rls stp kof (aN_ ps) x f j s)
    exact⟨L++M,by rw[rls,h',h,aC_]⟩
theorem jO_ (hg:Grows stp kof) (j:Nat) (s:List Fc×List Fc) (z:Fc) (hz:z∈kof s.1):z∈kof (rls stp kof (aN_ ps) x f j s).1:=by
  obtain⟨L,h⟩:=jP_ (ps:=ps) (x:=x) (f:=f) hg j s
  rw[h];exact hg.emits L _ z hz
theorem oS_ (j:Nat) (s:List Fc×List Fc) (h:f.kind=1→j≤5):(rls stp kof (aN_ ps) x f j s).2=s.2:=by
 induction j with
 | zero=>rfl
 | succ j ih =>
   rw[← ih (fun hk=>by have:=h hk;omega),rls,rl.eq_def]
   split
   · rename_i hk
     have:=h hk
     match j,this with
     | 0,_=>rfl
     | 1,_=>rfl
     | 2,_=>rfl
     | 3,_=>rfl
     | 4,_=>rfl
   · split
     · split<;>rfl
     · split<;>rfl
theorem tD_ (hg:Grows stp kof) (hr:∀ x∈ps,x.vok) (hx:x.of S Fm) (s:List Fc×List Fc) (hfm:∀ y,S y→(Fm y↔y∈s.2)) (hf:S f) (hSk:∀ y,S y→y∈kof s.1) (good:Fc→Prop) (hS:∀ y,S y→good y)
    (H:∀ j,j<nrl f→∀ L,(rls stp kof (aN_ ps) x f (j+1) s).1=emits stp L (rls stp kof (aN_ ps) x f j s).1→∀ y∈L,good y) :
    Cmpl ps S Fm (·∈kof s.1) good f:=by
  have K:∀ k j,f.kind=k→j<nrl f→∀ L,(rl stp kof (aN_ ps) x f j (rls stp kof (aN_ ps) x f j s)).1=emits stp L (rls stp kof (aN_ ps) x f j s).1→∀ y∈L,good y:=fun k j _ hj L hL=>H j hj L (by rw[rls];exact hL)
  have n1:f.kind=1→nrl f=6:=fun h=>by simp[nrl,h]
  have n2:f.kind=2→nrl f=4:=fun h=>by simp[nrl,h]
  have n3:f.kind=3→nrl f=2:=fun h=>by simp[nrl,h]
  have k1:∀ {a b},f=ar_ a b→f.kind=1:=fun e=>by rw[e];rfl
  have k2:∀ {a r b},f=ax_ a r b→f.kind=2:=fun e=>by rw[e];rfl
  have k3:∀ {a r lo hi},f=ak_ a r lo hi→f.kind=3:=fun e=>by rw[e];rfl
  have both:∀ z a,z∈ps→z.kind=2→f.kind=1→f.a=a→(z.a=f.b∨z.b=f.b)→ar_ a z.a∈kof s.1→ar_ a z.b∈kof s.1→good (ar_ a z.c):=by
    intro z a hz hk h1 ha hb g1 g2
    subst ha
    obtain⟨L,e1,e2,e3⟩:=fI_ hg f (lat (aN_ ps) ⟨2,[],f.b⟩) (rls stp kof (aN_ ps) x f 1 s).1
    exact K 1 1 h1 (by rw[n1 h1];decide) L (by rw[rl.eq_def,if_pos h1];exact e1) _ (e3 z (pm2.2 ⟨hz,hk,hb⟩) (jO_ hg 1 s _ g1) (jO_ hg 1 s _ g2))
  have mt:f.kind=3→(∀ y∈gx_ f (eW_ x f (decide (f∈s.2)))++hB_ f (eW_ x f (decide (f∈s.2))),good y):=fun h3 =>
    K 3 0 h3 (by rw[n3 h3];decide) _ (by rw[rl.eq_def,if_neg (by rw[h3];decide),if_neg (by rw[h3];decide)];rfl)
  have hfirm:decide (f∈s.2)=true↔Fm f:=by rw[decide_eq_true_eq];exact (hfm f hf).symm
  refine⟨?_,?_,?_,?_,?_,?_,?_,?_,?_,?_,?_,?_,?_,?_,?_⟩
  · intro z a hz hk e
    have h1:=k1 e
    exact K 1 0 h1 (by rw[n1 h1];decide) (hc_ (aN_ ps) f) (by rw[rl.eq_def,if_pos h1]<;>rfl) _ (by rw[e];exact pO_ hz hk)
  · intro z a hz hk e h
    have h1:=k1 e
    exact both z a hz hk h1 (by rw[e];rfl) (by rw[e];exact .inl rfl) (by rw[← e];exact hSk f hf) h
  · intro z a hz hk e h
    have h1:=k1 e
    exact both z a hz hk h1 (by rw[e];rfl) (by rw[e];exact .inr rfl) h (by rw[← e];exact hSk f hf)
  · intro z a hz hk e
    have h1:=k1 e
    exact K 1 2 h1 (by rw[n1 h1];decide) (mB_ (aN_ ps) f) (by rw[rl.eq_def,if_pos h1]<;>rfl) _ (by rw[e];exact tx_ hz hk)
  · intro z a b hz hk e
    have h1:=k2 e
    exact K 2 0 h1 (by rw[n2 h1];decide) (gY_ (aN_ ps) f) (by rw[rl.eq_def,if_neg (by rw[h1];decide),if_pos h1]<;>rfl) _ (by rw[e];exact pC_ hz hk)
  · intro z a b c hz hk e h
    have h1:=k2 e
    exact K 2 1 h1 (by rw[n2 h1];decide) (fT_ (aN_ ps) x f++hx_ (aN_ ps) x f) (by rw[rl.eq_def,if_neg (by rw[h1];decide),if_pos h1]<;>rfl) _ (List.mem_append_left _ (by rw[e];exact qW_ hx hr hz hk h))
  · intro z a b c hz hk e h
    have h1:=k2 e
    exact K 2 1 h1 (by rw[n2 h1];decide) (fT_ (aN_ ps) x f++hx_ (aN_ ps) x f) (by rw[rl.eq_def,if_neg (by rw[h1];decide),if_pos h1]<;>rfl) _ (List.mem_append_right _ (by rw[e];exact qV_ hx hr hz hk h))
  · intro z a b hz hk e h
    have h1:=k2 e
    exact K 2 2 h1 (by rw[n2 h1];decide) (fX_ (aN_ ps) x f) (by rw[rl.eq_def,if_neg (by rw[h1];decide),if_pos h1]<;>rfl) _ (by rw[e];exact nW_ hx hr hz hk h)
  · intro z a b hz hk e h
    have h1:=k1 e
    exact K 1 3 h1 (by rw[n1 h1];decide) (fY_ (aN_ ps) x f) (by rw[rl.eq_def,if_pos h1]<;>rfl) _ (by rw[e];exact nX_ hx hr hz hk h)
  · intro a r b e h
    have h1:=k2 e
    have e1:ar_ f.b [33]∈kof (rls stp kof (aN_ ps) x f 3 s).1:=jO_ hg 3 s _ (by rw[e];exact h)
    exact K 2 3 h1 (by rw[n2 h1];decide) [ar_ f.a [33]] (by rw[rl.eq_def,if_neg (by rw[h1];decide),if_pos h1];simp only[if_pos e1];rfl) _ (by rw[e];simp[ax_])
  · intro a r b e h
    have h1:=k1 e
    exact K 1 4 h1 (by rw[n1 h1];decide) (dR_ x f) (by rw[rl.eq_def,if_pos h1]<;>rfl) _ (by rw[e];exact mm_ hx h)
  · intro z a hz hk e
    have h1:=k1 e
    exact K 1 5 h1 (by rw[n1 h1];decide) ((lat (aN_ ps) ⟨8,[],f.b⟩).map fun y=>ak_ f.a y.r y.lo y.hi) (by rw[rl.eq_def,if_pos h1];exact fq_ stp kof f _ _ _) _ (by rw[e];exact rM_ hz hk)
  · intro y h3 hy hk ha hr' hm hl
    have hmem:=mP_ hx hfirm hy hk ha hr' hm
    rcases (ps_ (f:=f) hmem).1 hl with q|q|q
    · exact mt h3 _ (List.mem_append_left _ q)
    · rw[q];exact hS f hf
    · rw[q];exact hS y hy
  · intro y h3 hy hk ha hr' hm hl
    have hmem:=mP_ hx hfirm hy hk ha hr' hm
    exact mt h3 _ (List.mem_append_right _ ((ps_ (f:=f) hmem).2 hl))
  · intro z a lo hi hz hk e g1 g2
    have h1:=k3 e
    exact K 3 1 h1 (by rw[n3 h1];decide) (ss_ (aN_ ps) f) (by rw[rl.eq_def,if_neg (by rw[h1];decide),if_neg (by rw[h1];decide)]<;>rfl) _ (by rw[e];exact vs_ hz hk g1 g2)
end
end Go.Vs
namespace Go.Vs
open Go Go.Sx
def bm_ (m:Nat) (y:Fc) (q:List Fc):List Fc:=if q.length≤m∧y ∉ q then q++[y] else q
abbrev idk:List Fc→List Fc:=fun q=>q
theorem oJ_ (m:Nat) (y:Fc) (q:List Fc):∃ t,bm_ m y q=q++t:=by
 unfold bm_;split
 ·exact⟨[y],rfl⟩
 exact⟨[],by simp⟩
theorem jA_ (m:Nat):∀ (L q:List Fc),∃ t,emits (bm_ m) L q=q++t
  | [],q=>⟨[],by simp[emits]⟩
  | y::L,q=>by
    obtain⟨t,h⟩:=oJ_ m y q
    obtain⟨u,h'⟩:=jA_ m L (bm_ m y q)
    exact⟨t++u,by rw[← List.append_assoc,← h,← h'];rfl⟩
theorem fO_ (m:Nat):Grows (bm_ m) idk:=⟨fun y s z hz=>by obtain⟨t,h⟩:=oJ_ m y s;rw[h];exact List.mem_append_left _ hz⟩
theorem gA_ (m:Nat):∀ (L q:List Fc) (z:Fc),z∈emits (bm_ m) L q→z∈q∨z∈L
 | [],q,z,h=>.inl h
 | y::L,q,z,h=>by
   rcases gA_ m L (bm_ m y q) z h with h|h
   · unfold bm_ at h
     split at h
     · rcases List.mem_append.1 h with h|h
       · exact .inl h
       · exact .inr (by simp at h;simp[h])
     · exact .inl h
   · exact .inr (List.mem_cons_of_mem _ h)
theorem is_ (m:Nat):∀ (L q:List Fc),q.Nodup→(emits (bm_ m) L q).Nodup
 | [],q,h=>h
 | y::L,q,h=>by
   refine is_ m L (bm_ m y q) ?_
   unfold bm_
   split
   · rename_i hc
     rw[List.nodup_append]
     exact⟨h,by simp,fun a ha b hb e=>by simp at hb;subst hb;subst e;exact hc.2 ha⟩
   · exact h
theorem oa_ (m:Nat):∀ (L q:List Fc),q.length≤m+1→(emits (bm_ m) L q).length≤m+1
 | [],q,h=>h
 | y::L,q,h=>by
   refine oa_ m L (bm_ m y q) ?_
   unfold bm_
   split
   · rename_i hc;simp;exact hc.1
   · exact h
theorem it_ (m:Nat):∀ (L q:List Fc),(emits (bm_ m) L q).length≤m→∀ y∈L,y∈emits (bm_ m) L q
 | [],q,_,y,hy=>by simp at hy
 | x::L,q,h,y,hy=>by
   have e:emits (bm_ m) (x::L) q=emits (bm_ m) L (bm_ m x q):=rfl
   rw[e]at h ⊢
   rcases List.mem_cons.1 hy with rfl|hy
   · obtain⟨t,ht⟩:=jA_ m L (bm_ m y q)
     rw[ht]at h ⊢
     refine List.mem_append_left _ ?_
     have hl:(bm_ m y q).length≤m:=by rw[List.length_append]at h;omega
     unfold bm_ at hl ⊢
     split
     · simp
     · rename_i hc
       rw[if_neg hc]at hl
       exact Classical.byContradiction fun hn=>hc ⟨hl,hn⟩
   · exact it_ m L _ h y hy
theorem kC_ {ps:List Pc} {A:List Str} {m:Nat} {f:Fc}:∀ (l:List Pc) (s:List Fc),(∀ z∈l,z∈ps∧z.kind=2)→(∀ y∈s,Der ps A y)→∀ y∈eJ_ (bm_ m) idk f l s,Der ps A y
 | [],s,_,hs,y,hy=>hs y hy
 | z::l,s,hl,hs,y,hy=>by
   have hz:=hl z (by simp)
   simp only[eJ_,List.foldl_cons]at hy
   refine kC_ l _ (fun z hz=>hl z (by simp[hz])) (fun y hy=>?_) y hy
   split at hy
   · rename_i hc
     have:=gA_ m [ar_ f.a z.c] s y hy
     rcases this with h|h
     · exact hs y h
     · simp at h;subst h
       exact Der.step (.r4 hz.1 hz.2 (hs _ hc.1) (hs _ hc.2))
   · exact hs y hy
section
variable {ps:List Pc} {A:List Str} {m:Nat} {x:Ix} {S Fm:Fc→Prop} {f:Fc}
theorem se_ (hr:∀ x∈ps,x.vok) (hx:x.of S Fm) (hS:∀ y,S y→y.form) (hk:f.kind=1∨f.kind=2∨f.kind=3) (hf:f.form) (j:Nat) (s:List Fc×List Fc) (hSs:∀ y,S y→y∈s.1) (hfs:f∈s.1) (hs:∀ y∈s.1,Der ps A y) :
    ∀ y∈(rl (bm_ m) idk (aN_ ps) x f j s).1,Der ps A y:=by
  have E:∀ L,(∀ y∈L,iT_ ps A (·∈s.1) y)→∀ y∈emits (bm_ m) L s.1,Der ps A y:=fun L hL y hy=>by
    rcases gA_ m L s.1 y hy with h|h
    · exact hs y h
    · exact Der.step ((hL y h).mono (fun x hx=>⟨x,hx,x.frm,rfl⟩) (fun _ h=>h) hs (fun _ _ h=>h))
  unfold rl
  split
  · rename_i h1
    split
    · exact E _ (mn_ h1 hf hfs)
    · exact kC_ _ s.1 (fun z hz=>by have:=pm2.1 hz;exact⟨this.1,this.2.1⟩) hs
    · exact E _ (qh_ h1 hf hfs)
    · exact E _ (lS_ hr hx hS hSs h1 hf hfs)
    · exact E _ (kJ_ hx hS hSs h1 hf hfs)
    · rw[fq_];exact E _ (oB_ h1 hf hfs)
  · split
    · rename_i h2
      split
      · exact E _ (ml_ h2 hf hfs)
      · exact E _ (pS_ hx hS hSs h2 hf hfs)
      · exact E _ (lR_ hx hS hSs h2 hf hfs)
      · simp only
        split
        · rename_i hc
          exact E [ar_ f.a [33]] (fun y hy=>by simp at hy;subst hy;exact kI_ h2 hf hfs hc)
        · exact hs
    · rename_i h1 h2
      have h3:f.kind=3:=by omega
      split
      · exact E _ (qB_ hx hS hSs h3 hf hfs)
      · exact E _ (sr_ h3 hf hfs)
theorem lp_ (hr:∀ x∈ps,x.vok) (hx:x.of S Fm) (hS:∀ y,S y→y.form) (hf:f.form) (s:List Fc×List Fc) (hSs:∀ y,S y→y∈s.1) (hfs:f∈s.1) (hs:∀ y∈s.1,Der ps A y) (j:Nat) :
    ∀ y∈(rls (bm_ m) idk (aN_ ps) x f j s).1,Der ps A y:=by
  induction j with
  | zero=>exact hs
  | succ j ih=>exact se_ hr hx hS (kf_ hf) hf j _ (fun y hy=>jO_ (fO_ m) j s y (hSs y hy)) (jO_ (fO_ m) j s f hfs) ih
end
inductive Fmd (fm:List Fc):Fc→Prop
  | base {y:Fc} (h:y∈fm):Fmd fm y
  | meet {y z:Fc} (hy:Fmd fm y) (hz:Fmd fm z) (ha:z.a=y.a) (hr:z.r=y.r) (hl:max y.lo z.lo≤min y.hi z.hi):Fmd fm (ei_ y z)
theorem Fmd.mono {fm fm':List Fc} (h:∀ y∈fm,y∈fm') {y:Fc} (hy:Fmd fm y):Fmd fm' y:=by
  induction hy with
  | base h1=>exact .base (h _ h1)
  | meet _ _ ha hr hl ih1 ih2=>exact .meet ih1 ih2 ha hr hl
structure InvA (ps:List Pc) (A:List Str) (m n:Nat) (q fm:List Fc) (x:Ix):Prop where
  nd:q.Nodup
  len:q.length≤m
  le:n≤q.length
  der:∀ y∈q,Der ps A y
  form:∀ y∈q,y.form
  ix:x.of (·∈q.take n) (·∈fm)
  fmq:∀ y∈fm,y∈q∧y.kind=3
  firm:∀ y∈q,y.kind=3→Fmd fm y
  st:∀ a∈A,ar_ a a∈q∧ar_ a [42]∈q∧∀ z∈ps,z.kind=7→ax_ a z.r a∈q
  cl:∀ y,One ps A (·∈q.take n) (fun y z=>y∈fm∨z∈fm) y→y∈q
theorem Der.form {p:List Pc} {A:List Str} (hp:∀ x∈p,x.vok) {y:Fc} (h:Der p A y):y.form:=h _ fun _ hz=>One.form hp (fun _ h=>h) hz
theorem km_ {stp:Fc→List Fc→List Fc} {kof:List Fc→List Fc} (hk:∀ i s z,z∈kof (stp i s)→z∈kof s∨z=i) (h:Grows stp kof) (f:Fc):∀ (l:List Pc) (s fm:List Fc),∀ y∈l,ak_ f.a y.r y.lo y.hi∈kof s∨ak_ f.a y.r y.lo y.hi∈(cv_ stp kof f l (s,fm)).2
 | [],s,fm,y,hy=>by simp at hy
 | x::l,s,fm,y,hy=>by
   have e:cv_ stp kof f (x::l) (s,fm)=cv_ stp kof f l (stp (ak_ f.a x.r x.lo x.hi) s,if ak_ f.a x.r x.lo x.hi∈kof s then fm else ak_ f.a x.r x.lo x.hi::fm):=rfl
   rw[e]
   by_cases he:ak_ f.a y.r y.lo y.hi=ak_ f.a x.r x.lo x.hi
   · rw[he]
     by_cases hc:ak_ f.a x.r x.lo x.hi∈kof s
     · exact .inl hc
     · refine .inr ((hh_ h f l _ _ _).2 (.inl ?_))
       rw[if_neg hc];simp
   · rcases List.mem_cons.1 hy with rfl|hy
     · exact absurd rfl he
     · rcases km_ hk h f l (stp (ak_ f.a x.r x.lo x.hi) s) (if ak_ f.a x.r x.lo x.hi∈kof s then fm else ak_ f.a x.r x.lo x.hi::fm) y hy with h1|h1
       · exact (hk _ _ _ h1).imp id fun q=>absurd q he
       · exact .inr h1
theorem tr_ {q:List Fc} {n:Nat} {f z:Fc} (hn:q[n]? = some f):z∈q.take (n+1)↔z∈q.take n∨z=f:=by
  rw[List.take_add_one,hn];simp
theorem vS_ {ps:List Pc} {A:List Str} {S Fm kn good:Fc→Prop} {f:Fc} (hc:Cmpl ps (fun y=>S y∨y=f) Fm kn good f) (hkn:∀ y,S y∨y=f→kn y) (h:∀ y,One ps A S (fun y z=>Fm y∨Fm z) y→good y) (y:Fc) (hy:One ps A (fun y=>S y∨y=f) (fun y z=>Fm y∨Fm z) y):good y:=by
 cases hy with
 | r1 h1=>exact h _ (.r1 h1)
 | r2 h1=>exact h _ (.r2 h1)
 | r10 hx hk h1=>exact h _ (.r10 hx hk h1)
 | r3 hx hk h1=>exact h1.elim (fun q=>h _ (.r3 hx hk q)) (fun q=>hc.c3 _ _ hx hk q.symm)
 | r4 hx hk h1 h2 =>
   rcases h1 with h1|h1
   · rcases h2 with h2|h2
     · exact h _ (.r4 hx hk h1 h2)
     · exact hc.c4' _ _ hx hk h2.symm (hkn _ (.inl h1))
   · exact hc.c4 _ _ hx hk h1.symm (hkn _ h2)
 | r5 hx hk h1=>exact h1.elim (fun q=>h _ (.r5 hx hk q)) (fun q=>hc.c5 _ _ hx hk q.symm)
 | r6 hx hk h1=>exact h1.elim (fun q=>h _ (.r6 hx hk q)) (fun q=>hc.c6 _ _ _ hx hk q.symm)
 | r7 hx hk h1 h2 =>
   rcases h1 with h1|h1
   · rcases h2 with h2|h2
     · exact h _ (.r7 hx hk h1 h2)
     · exact hc.c7' _ _ _ _ hx hk h2.symm (.inl h1)
   · exact hc.c7 _ _ _ _ hx hk h1.symm h2
 | r8 hx hk h1 h2 =>
   rcases h1 with h1|h1
   · rcases h2 with h2|h2
     · exact h _ (.r8 hx hk h1 h2)
     · exact hc.c8' _ _ _ hx hk h2.symm (.inl h1)
   · exact hc.c8 _ _ _ hx hk h1.symm h2
 | r9 h1 h2 =>
   rcases h1 with h1|h1
   · rcases h2 with h2|h2
     · exact h _ (.r9 h1 h2)
     · exact hc.c9' _ _ _ h2.symm (.inl h1)
   · exact hc.c9 _ _ _ h1.symm (hkn _ h2)
 | r11 hx hk h1=>exact h1.elim (fun q=>h _ (.r11 hx hk q)) (fun q=>hc.c11 _ _ hx hk q.symm)
 | @r12 a r lo hi lo' hi' h1 h2 hm hl =>
   rcases h1 with h1|h1
   · rcases h2 with h2|h2
     · exact h _ (.r12 h1 h2 hm hl)
     · have:=hc.c12 (ak_ a r lo hi) (by rw[← h2];rfl) (.inl h1) rfl (by rw[← h2];rfl) (by rw[← h2];rfl) (by rw[← h2];exact hm.symm) (by rw[← h2];simp only[ak_];omega)
       rw[← h2]at this
       rw[Int.max_comm,Int.min_comm];exact this
   · have:=hc.c12 (ak_ a r lo' hi') (by rw[← h1];rfl) h2 rfl (by rw[← h1];rfl) (by rw[← h1];rfl) (by rw[← h1];exact hm) (by rw[← h1];exact hl)
     rw[← h1]at this
     exact this
 | @r13 a r lo hi lo' hi' h1 h2 hm hl =>
   rcases h1 with h1|h1
   · rcases h2 with h2|h2
     · exact h _ (.r13 h1 h2 hm hl)
     · have:=hc.c13 (ak_ a r lo hi) (by rw[← h2];rfl) (.inl h1) rfl (by rw[← h2];rfl) (by rw[← h2];rfl) (by rw[← h2];exact hm.symm) (by rw[← h2];simp only[ak_];omega)
       rw[← h2]at this
       exact this
   · have:=hc.c13 (ak_ a r lo' hi') (by rw[← h1];rfl) h2 rfl (by rw[← h1];rfl) (by rw[← h1];rfl) (by rw[← h1];exact hm) (by rw[← h1];exact hl)
     rw[← h1]at this
     exact this
 | r14 hx hk h1 g1 g2=>exact h1.elim (fun q=>h _ (.r14 hx hk q g1 g2)) (fun q=>hc.c14 _ _ _ _ hx hk q.symm g1 g2)
theorem One.congrM {p:List Pc} {A:List Str} {S:Fc→Prop} {M M':Fc→Fc→Prop} (hM:∀ y z,S y→S z→M y z→M' y z) {y:Fc} (h:One p A S M y):One p A S M' y:=by
  cases h with
  | r1 h=>exact .r1 h
  | r2 h=>exact .r2 h
  | r10 hx hk h=>exact .r10 hx hk h
  | r3 hx hk h=>exact .r3 hx hk h
  | r4 hx hk h h'=>exact .r4 hx hk h h'
  | r5 hx hk h=>exact .r5 hx hk h
  | r6 hx hk h=>exact .r6 hx hk h
  | r7 hx hk h h'=>exact .r7 hx hk h h'
  | r8 hx hk h h'=>exact .r8 hx hk h h'
  | r9 h h'=>exact .r9 h h'
  | r11 hx hk h=>exact .r11 hx hk h
  | r12 h h' hm hl=>exact .r12 h h' (hM _ _ h h' hm) hl
  | r13 h h' hm hl=>exact .r13 h h' (hM _ _ h h' hm) hl
  | r14 hx hk h h1 h2=>exact .r14 hx hk h h1 h2
section
variable {ps:List Pc} {A:List Str} {m n:Nat} {q fm:List Fc} {x:Ix} {f:Fc}
theorem tE_ (j k:Nat) (s:List Fc×List Fc):∃ t,(rls (bm_ m) idk (aN_ ps) x f (j+k) s).1=(rls (bm_ m) idk (aN_ ps) x f j s).1++t:=by
  induction k with
  | zero=>exact⟨[],by simp⟩
  | succ k ih =>
    obtain⟨t,h⟩:=ih
    obtain⟨L,h'⟩:=oT_ (ps:=ps) (x:=x) (f:=f) (fO_ m) (j+k) (rls (bm_ m) idk (aN_ ps) x f (j+k) s)
    obtain⟨u,h''⟩:=jA_ m L (rls (bm_ m) idk (aN_ ps) x f (j+k) s).1
    exact⟨t++u,by rw[← Nat.add_assoc,rls,h',h'',h,List.append_assoc]⟩
theorem oU_ (j:Nat) (s:List Fc×List Fc) (h:f.kind=1→j≤4) (h3:f.kind=3→j≠0) (hk:f.kind=1∨f.kind=2∨f.kind=3):∀ y∈(rl (bm_ m) idk (aN_ ps) x f j s).1,y.kind=3→y∈s.1:=by
 have E:∀ L:List Fc,(∀ y∈L,y.kind≠3)→∀ y∈emits (bm_ m) L s.1,y.kind=3→y∈s.1:=fun L hL y hy hk =>
   (gA_ m L s.1 y hy).elim id fun q=>absurd hk (hL y q)
 have mp:∀ {α:Type} (l:List α) (g:α→Fc),(∀ a,(g a).kind≠3)→∀ y∈l.map g,y.kind≠3:=fun l g hg y hy=>by
   obtain⟨a,_,rfl⟩:=List.mem_map.1 hy;exact hg a
 have fmp:∀ {α β:Type} (l:List α) (k:α→List β) (g:α→β→Fc),(∀ a b,(g a b).kind≠3)→∀ y∈l.flatMap (fun a=>(k a).map (g a)),y.kind≠3:=fun l k g hg y hy=>by
   obtain⟨a,_,hy⟩:=List.mem_flatMap.1 hy
   exact mp _ _ (hg a) y hy
 unfold rl
 split
 ·rename_i h1
  split
  ·exact E _ (mp _ _ fun _=>by simp[ar_])
  ·obtain⟨L,e1,e2,_⟩:=fI_ (fO_ m) f (lat (aN_ ps) ⟨2,[],f.b⟩) s.1
   rw[e1]
   exact E L fun y hy=>by obtain⟨_,_,rfl,_⟩:=e2 y hy;simp[ar_]
  ·exact E _ (mp _ _ fun _=>by simp[ax_])
  ·exact E _ (fmp _ _ _ fun _ _=>by simp[ar_])
  ·refine E _ fun y hy=>?_
   unfold dR_ at hy
   split at hy
   ·exact mp _ _ (fun _=>by simp[ar_]) y hy
   simp at hy
  have:=h h1
  rename_i a1 a2 a3 a4 a5
  have hj:j=0∨j=1∨j=2∨j=3∨j=4:=by omega
  rcases hj with hj|hj|hj|hj|hj
  ·exact (a1 hj).elim
  ·exact (a2 hj).elim
  ·exact (a3 hj).elim
  ·exact (a4 hj).elim
  exact (a5 hj).elim
 split
 ·split
  ·exact E _ (mp _ _ fun _=>by simp[ax_])
  ·refine E _ fun y hy=>?_
   rcases List.mem_append.1 hy with hy|hy
   ·exact fmp _ _ _ (fun _ _=>by simp[ax_]) y hy
   exact fmp _ _ _ (fun _ _=>by simp[ax_]) y hy
  ·exact E _ (fmp _ _ _ fun _ _=>by simp[ar_])
  simp only
  split
  ·exact E [ar_ f.a [33]] (by simp[ar_])
  exact fun y hy _=>hy
 rename_i h1 h2
 split
 ·exact absurd rfl (h3 (by omega))
 exact E _ (mp _ _ fun _=>by simp[ar_])
theorem mF_ (j:Nat) (s:List Fc×List Fc) (h:f.kind=1→j≤5) (h3:f.kind≠3) (hk:f.kind=1∨f.kind=2∨f.kind=3):∀ y∈(rls (bm_ m) idk (aN_ ps) x f j s).1,y.kind=3→y∈s.1:=by
  induction j with
  | zero=>exact fun y hy _=>hy
  | succ j ih=>exact fun y hy hk3=>ih (fun hh=>by have:=h hh;omega) y (oU_ j _ (fun hh=>by have:=h hh;omega) (fun hh=>absurd hh h3) hk y hy hk3) hk3
theorem uk_ (hr:∀ x∈ps,x.vok) (inv:InvA ps A m n q fm x) (hn:q[n]? = some f) {s':List Fc×List Fc} (hs:rls (bm_ m) idk (aN_ ps) (x.add (decide (f∈fm)) f) f (nrl f) (q,fm)=s') (hl:s'.1.length≤m) :
    InvA ps A m (n+1) s'.1 s'.2 (x.add (decide (f∈fm)) f):=by
  have hfq:f∈q:=List.mem_of_getElem? hn
  have hlt:n<q.length:=(List.getElem?_eq_some_iff.1 hn).1
  have hform:=inv.form f hfq
  have hk:=kf_ hform
  have hx':(x.add (decide (f∈fm)) f).of (fun y=>y∈q.take n∨y=f) (·∈fm):=Ix.of_add inv.ix f (by simp)
  have hSq:∀ y,(y∈q.take n∨y=f)→y∈q:=fun y hy=>hy.elim (fun h=>List.mem_of_mem_take h) (fun h=>h▸hfq)
  obtain⟨L,hL⟩:=jP_ (ps:=ps) (x:=x.add (decide (f∈fm)) f) (f:=f) (fO_ m) (nrl f) (q,fm)
  rw[hs]at hL
  obtain⟨t,ht⟩:=jA_ m L q
  have hpre:s'.1=q++t:=by rw[hL];exact ht
  have hsub:∀ y∈q,y∈s'.1:=fun y hy=>by rw[hpre];exact List.mem_append_left _ hy
  have htake:s'.1.take (n+1)=q.take (n+1):=by rw[hpre,List.take_append_of_le_length (by omega)]
  have hmem:∀ y,y∈s'.1.take (n+1)↔(y∈q.take n∨y=f):=fun y=>by rw[htake];exact tr_ hn
  have hder:∀ y∈s'.1,Der ps A y:=by rw[← hs];exact lp_ hr hx' (fun y hy=>inv.form y (hSq y hy)) hform (q,fm) hSq hfq inv.der (nrl f)
  have H:∀ j,j<nrl f→∀ L,(rls (bm_ m) idk (aN_ ps) (x.add (decide (f∈fm)) f) f (j+1) (q,fm)).1=emits (bm_ m) L (rls (bm_ m) idk (aN_ ps) (x.add (decide (f∈fm)) f) f j (q,fm)).1→∀ y∈L,y∈s'.1:=by
    intro j hj L hL y hy
    obtain⟨u,hu⟩:=tE_ (m:=m) (ps:=ps) (x:=x.add (decide (f∈fm)) f) (f:=f) (j+1) (nrl f - (j+1)) (q,fm)
    rw[show j+1+(nrl f - (j+1))=nrl f by omega,hs]at hu
    have hle:(rls (bm_ m) idk (aN_ ps) (x.add (decide (f∈fm)) f) f (j+1) (q,fm)).1.length≤m:=by rw[hu,List.length_append]at hl;omega
    rw[hL]at hle
    have:=it_ m L _ hle y hy
    rw[hu,hL]
    exact List.mem_append_left _ this
  have hc:=tD_ (fO_ m) hr hx' (q,fm) (fun _ _=>Iff.rfl) (.inr rfl) hSq (·∈s'.1) (fun y hy=>hsub y (hSq y hy)) H
  -- the firm ones
  have hfm:(∀ y∈fm,y∈s'.2)∧(∀ y∈s'.2,y∈fm∨(y ∉ q∧y∈s'.1∧y.kind=3))∧(∀ y∈s'.1,y.kind=3→y∈q∨y∈s'.2∨∃ z,(z∈q.take n∨z=f)∧z.kind=3∧f.kind=3∧z.a=f.a∧z.r=f.r∧max f.lo z.lo≤min f.hi z.hi∧y=ei_ f z):=by
    by_cases h1:f.kind=1
    · have e6:nrl f=5+1:=by simp[nrl,h1]
      rw[e6,rls]at hs
      have hf5:(rls (bm_ m) idk (aN_ ps) (x.add (decide (f∈fm)) f) f 5 (q,fm)).2=fm:=oS_ 5 (q,fm) (fun _=>Nat.le_refl _)
      have hk5:=mF_ (m:=m) (ps:=ps) (x:=x.add (decide (f∈fm)) f) (f:=f) 5 (q,fm) (fun _=>Nat.le_refl _) (by omega) hk
      have hq5:∀ y∈q,y∈(rls (bm_ m) idk (aN_ ps) (x.add (decide (f∈fm)) f) f 5 (q,fm)).1:=fun y hy=>jO_ (fO_ m) 5 (q,fm) y hy
      have H5:=H 5 (by omega)
      rw[rls]at H5
      generalize rls (bm_ m) idk (aN_ ps) (x.add (decide (f∈fm)) f) f 5 (q,fm)=s5 at hs hf5 hk5 hq5 H5
      have er:rl (bm_ m) idk (aN_ ps) (x.add (decide (f∈fm)) f) f 5 s5=cv_ (bm_ m) idk f (lat (aN_ ps) ⟨8,[],f.b⟩) s5:=by rw[rl.eq_def,if_pos h1]<;>rfl
      rw[er]at hs H5
      have es5:s5=(s5.1,fm):=by rw[← hf5]
      rw[es5]at hs H5
      have Hv:=H5 _ (fq_ (bm_ m) idk f _ s5.1 fm)
      refine⟨fun y hy=>?_,fun y hy=>?_,fun y hy hy3=>?_⟩
      · rw[← hs];exact (hh_ (fO_ m) f _ _ _ _).2 (.inl hy)
      · rw[← hs]at hy
        rcases (hh_ (fO_ m) f _ _ _ _).1 hy with h|h
        · exact .inl h
        · rcases lc_ f _ _ _ _ h.2 with g|⟨z,hz,rfl⟩
          · exact .inl g
          · exact .inr ⟨fun hq=>h.1 (hq5 _ hq),Hv _ (List.mem_map.2 ⟨z,hz,rfl⟩),rfl⟩
      · have hy':=hy
        rw[← hs,fq_]at hy
        rcases gA_ m _ _ y hy with h|h
        · exact .inl (hk5 y h hy3)
        · obtain⟨z,hz,rfl⟩:=List.mem_map.1 h
          rcases km_ (stp:=bm_ m) (kof:=idk) (fun i s z hz=>(gA_ m [i] s z hz).imp id (by simp)) (fO_ m) f _ s5.1 fm z hz with g|g
          · exact .inl (hk5 _ g rfl)
          · exact .inr (.inl (by rw[← hs];exact g))
    · have hf2:s'.2=fm:=by rw[← hs];exact oS_ _ (q,fm) (fun h=>absurd h h1)
      refine⟨fun y hy=>by rw[hf2];exact hy,fun y hy=>.inl (by rw[← hf2];exact hy),fun y hy hy3=>?_⟩
      by_cases h3:f.kind=3
      · have e2:nrl f=0+1+1:=by simp[nrl,h3]
        rw[e2,rls]at hs
        rw[← hs]at hy
        have hy1:=oU_ 1 _ (fun h=>absurd h h1) (fun _=>by decide) hk y hy hy3
        rw[rls,rl.eq_def,if_neg h1,if_neg (by omega)]at hy1
        rcases gA_ m _ _ y hy1 with h|h
        · exact .inl h
        · rcases List.mem_append.1 h with h|h
          · obtain⟨z,hz,rfl⟩:=List.mem_map.1 h
            obtain⟨hz,hcc⟩:=List.mem_filter.1 hz
            obtain⟨g1,g2,g3,g4⟩:=jX_ hx' hz
            simp only[cV_,Bool.and_eq_true,Bool.not_eq_true',decide_eq_false_iff_not,Int.not_lt]at hcc
            exact .inr (.inr ⟨z,g1,g2,h3,g3,g4,hcc.1,rfl⟩)
          · unfold hB_ at h
            split at h
            · simp at h;rw[h]at hy3;simp[ar_]at hy3
            · simp at h
      · rw[← hs]at hy
        exact .inl (mF_ _ _ (fun h=>absurd h h1) h3 hk y hy hy3)
  have hSfm:∀ y,(y∈q.take n∨y=f)→(y∈fm↔y∈s'.2):=fun y hy=>⟨fun h=>hfm.1 y h,fun h=>(hfm.2.1 y h).elim id fun g=>absurd (hSq y hy) g.1⟩
  refine⟨?_,hl,?_,hder,fun y hy=>(hder y hy).form hr,?_,?_,?_,?_,?_⟩
  · rw[hL];exact is_ m L q inv.nd
  · rw[hpre,List.length_append];omega
  · have:=Ix.of_firm hx' hSfm
    have e:(fun y=>y∈s'.1.take (n+1))=(fun y=>y∈q.take n∨y=f):=funext fun y=>propext (hmem y)
    rw[e];exact this
  · intro y hy
    rcases hfm.2.1 y hy with h|h
    · exact⟨hsub y (inv.fmq y h).1,(inv.fmq y h).2⟩
    · exact h.2
  · intro y hy hk3
    rcases hfm.2.2 y hy hk3 with h|h|⟨z,h1,h2,h3,h4,h5,h6,rfl⟩
    · exact (inv.firm y h hk3).mono hfm.1
    · exact .base h
    · exact .meet ((inv.firm f hfq h3).mono hfm.1) ((inv.firm z (hSq z h1) h2).mono hfm.1) h4 h5 h6
  · intro a ha
    obtain⟨g1,g2,g3⟩:=inv.st a ha
    exact⟨hsub _ g1,hsub _ g2,fun z hz hk=>hsub _ (g3 z hz hk)⟩
  · intro y hy
    have e:(fun y=>y∈s'.1.take (n+1))=(fun y=>y∈q.take n∨y=f):=funext fun y=>propext (hmem y)
    rw[e]at hy
    refine vS_ (A:=A) hc hSq (fun z hz=>hsub z (inv.cl z hz)) y (hy.congrM fun u v hu hv hm=>hm.imp (hSfm u hu).2 (hSfm v hv).2)
theorem mm_le {a b c d e g:Int} (h:max a (max b c)≤min d (min e g)):max a b≤min d e:=by omega
theorem ul_ (inv:InvA ps A m q.length q fm x) (y:Fc):Der ps A y↔y∈q:=by
 refine⟨fun h=>h.least fun y hy=>?_,inv.der y⟩
 have hcl:∀ y,One ps A (·∈q) (fun y z=>y∈fm∨z∈fm) y→y∈q:=fun y hy=>inv.cl y (by rw[List.take_length];exact hy)
 have key:∀ f,Fmd fm f→∀ z∈q,z.kind=3→z.a=f.a→z.r=f.r→(max z.lo f.lo≤min z.hi f.hi→ei_ z f∈q)∧(min z.hi f.hi<max z.lo f.lo→ar_ z.a [33]∈q):=by
   intro f hf
   induction hf with
   | @base f hb =>
     intro z hz hk ha hr'
     obtain⟨hfq,hfk⟩:=inv.fmq f hb
     have ez:=(iA_ (inv.form z hz) hk).1
     have ef:=(iA_ (inv.form f hfq) hfk).1
     rw[← ha,← hr']at ef
     refine⟨fun hl=>hcl _ (.r12 (by rw[← ez];exact hz) (by rw[← ef];exact hfq) (.inr (by rw[← ef];exact hb)) hl),fun hl=>hcl _ (.r13 (r:=z.r) (by rw[← ez];exact hz) (by rw[← ef];exact hfq) (.inr (by rw[← ef];exact hb)) hl)⟩
   | @meet y w hy hw ha hr' hl ih1 ih2 =>
     intro z hz hk hza hzr
     have hza':z.a=y.a:=hza
     have hzr':z.r=y.r:=hzr
     obtain⟨i1,i2⟩:=ih1 z hz hk hza' hzr'
     have hlo:(ei_ y w).lo=max y.lo w.lo:=rfl
     have hhi:(ei_ y w).hi=min y.hi w.hi:=rfl
     rw[hlo,hhi]
     by_cases hc:max z.lo y.lo≤min z.hi y.hi
     · have h1:=i1 hc
       obtain⟨j1,j2⟩:=ih2 (ei_ z y) h1 rfl (by rw[ha,← hza'];rfl) (by rw[hr',← hzr'];rfl)
       have e1:(ei_ z y).lo=max z.lo y.lo:=rfl
       have e2:(ei_ z y).hi=min z.hi y.hi:=rfl
       rw[e1,e2]at j1 j2
       refine⟨fun hl'=>?_,fun hl'=>j2 (by rw[Int.max_assoc,Int.min_assoc];exact hl')⟩
       have:=j1 (by rw[Int.max_assoc,Int.min_assoc];exact hl')
       have e:ei_ (ei_ z y) w=ei_ z (ei_ y w):=by
         simp only[ei_,ak_]
         rw[Int.max_assoc,Int.min_assoc]
       rw[← e];exact this
     · exact⟨fun hl'=>absurd (mm_le hl') hc,fun _=>i2 (Int.not_le.1 hc)⟩
 have key2:∀ {a r:Str} {lo hi lo' hi':Int},ak_ a r lo hi∈q→ak_ a r lo' hi'∈q→(max lo lo'≤min hi hi'→ak_ a r (max lo lo') (min hi hi')∈q)∧(min hi hi'<max lo lo'→ar_ a [33]∈q):=fun h h'=>key _ (inv.firm _ h' rfl) _ h rfl rfl rfl
 cases hy with
 | r1 h=>exact hcl _ (.r1 h)
 | r2 h=>exact hcl _ (.r2 h)
 | r10 hx hk h=>exact hcl _ (.r10 hx hk h)
 | r3 hx hk h=>exact hcl _ (.r3 hx hk h)
 | r4 hx hk h h'=>exact hcl _ (.r4 hx hk h h')
 | r5 hx hk h=>exact hcl _ (.r5 hx hk h)
 | r6 hx hk h=>exact hcl _ (.r6 hx hk h)
 | r7 hx hk h h'=>exact hcl _ (.r7 hx hk h h')
 | r8 hx hk h h'=>exact hcl _ (.r8 hx hk h h')
 | r9 h h'=>exact hcl _ (.r9 h h')
 | r11 hx hk h=>exact hcl _ (.r11 hx hk h)
 | r12 h h' hm hl=>exact (key2 h h').1 hl
 | r13 h h' hm hl=>exact (key2 h h').2 hl
 | r14 hx hk h h1 h2=>exact hcl _ (.r14 hx hk h h1 h2)
end
def gG_ (loops:List Str) (A:List Str):List Fc:=A.flatMap fun a=>ar_ a a::ar_ a [42]::loops.map fun r=>ax_ a r a
theorem pT_ {ps:List Pc} {A:List Str} {S:Fc→Prop} {M:Fc→Fc→Prop}:∀ y∈gG_ (as_ ps) A,One ps A S M y:=by
 intro y hy
 obtain⟨a,ha,hy⟩:=List.mem_flatMap.1 hy
 simp only[List.mem_cons]at hy
 rcases hy with rfl|rfl|hy
 ·exact .r1 ha
 ·exact .r2 ha
 obtain⟨r,hr,rfl⟩:=List.mem_map.1 hy
 obtain⟨z,hz,rfl⟩:=List.mem_map.1 hr
 obtain⟨h1,h2⟩:=List.mem_filter.1 hz
 exact .r10 h1 (of_decide_eq_true h2) ha
theorem nm_ {ps:List Pc} {A:List Str} {a:Str} (ha:a∈A):ar_ a a∈gG_ (as_ ps) A∧ar_ a [42]∈gG_ (as_ ps) A∧∀ z∈ps,z.kind=7→ax_ a z.r a∈gG_ (as_ ps) A:=by
  refine⟨List.mem_flatMap.2 ⟨a,ha,by simp⟩,List.mem_flatMap.2 ⟨a,ha,by simp⟩,fun z hz hk=>List.mem_flatMap.2 ⟨a,ha,?_⟩⟩
  exact List.mem_cons_of_mem _ (List.mem_cons_of_mem _ (List.mem_map.2 ⟨z.r,List.mem_map.2 ⟨z,List.mem_filter.2 ⟨hz,decide_eq_true hk⟩,rfl⟩,rfl⟩))
structure LoopA (ps:List Pc) (A:List Str) (m n:Nat) (q fm:List Fc) (x:Ix):Prop where
  nd:q.Nodup
  len:q.length≤m+1
  le:n≤q.length
  der:∀ y∈q,Der ps A y
  ix:x.of (·∈q.take n) (·∈fm)
  inv:q.length≤m→InvA ps A m n q fm x
section
variable {ps:List Pc} {A:List Str} {m n:Nat} {q fm:List Fc} {x:Ix} {f:Fc}
theorem pv_ (hr:∀ x∈ps,x.vok) {q:List Fc} (hq:emits (bm_ m) (gG_ (as_ ps) A) []=q):LoopA ps A m 0 q [] Ix.nil:=by
 have hmem:∀ y∈q,y∈gG_ (as_ ps) A:=fun y hy=>by rw[← hq]at hy;exact (gA_ m _ _ y hy).elim (fun h=>by simp at h) id
 have hder:∀ y∈q,Der ps A y:=fun y hy=>Der.step (pT_ y (hmem y hy))
 have hnd:q.Nodup:=by rw[← hq];exact is_ m _ _ List.nodup_nil
 have hix:Ix.nil.of (·∈q.take 0) (·∈([]:List Fc)):=by
   have e:(fun y=>y∈q.take 0)=(fun _=>False):=funext fun y=>by simp
   rw[e];exact Ix.of_nil _
 refine⟨hnd,by rw[← hq];exact oa_ m _ _ (by simp),Nat.zero_le _,hder,hix,fun hl=>⟨hnd,hl,Nat.zero_le _,hder,fun y hy=>(hder y hy).form hr,hix,by simp,fun y hy hk=>?_,fun a ha=>?_,fun y hy=>?_⟩⟩
 ·exfalso
  obtain⟨a,_,h⟩:=List.mem_flatMap.1 (hmem y hy)
  simp only[List.mem_cons]at h
  rcases h with rfl|rfl|h
  ·simp[ar_]at hk
  ·simp[ar_]at hk
  obtain⟨r,_,rfl⟩:=List.mem_map.1 h
  simp[ax_]at hk
 ·obtain⟨g1,g2,g3⟩:=nm_ (ps:=ps) ha
  rw[← hq]at hl ⊢
  exact⟨it_ m _ _ hl _ g1,it_ m _ _ hl _ g2,fun z hz hk=>it_ m _ _ hl _ (g3 z hz hk)⟩
 rw[← hq]at hl
 have B:∀ a∈A,_:=fun a ha=>nm_ (ps:=ps) ha
 have hin:∀ z∈gG_ (as_ ps) A,z∈q:=fun z hz=>by rw[← hq];exact it_ m _ _ hl z hz
 cases hy with
 | r1 h=>exact hin _ (B _ h).1
 | r2 h=>exact hin _ (B _ h).2.1
 | r10 hx hk h=>exact hin _ ((B _ h).2.2 _ hx hk)
 | r3 hx hk h=>simp at h
 | r4 hx hk h h'=>simp at h
 | r5 hx hk h=>simp at h
 | r6 hx hk h=>simp at h
 | r7 hx hk h h'=>simp at h
 | r8 hx hk h h'=>simp at h
 | r9 h h'=>simp at h
 | r11 hx hk h=>simp at h
 | r12 h h' hm hl=>simp at h
 | r13 h h' hm hl=>simp at h
 | r14 hx hk h h1 h2=>simp at h
theorem cE_ (hr:∀ x∈ps,x.vok) (h:LoopA ps A m n q fm x) (hn:q[n]? = some f) (j:Nat) {s':List Fc×List Fc} (hs:rls (bm_ m) idk (aN_ ps) (x.add (decide (f∈fm)) f) f j (q,fm)=s') :
    s'.1.Nodup∧s'.1.length≤m+1∧(∀ y∈s'.1,Der ps A y)∧∃ t,s'.1=q++t:=by
  have hfq:f∈q:=List.mem_of_getElem? hn
  have hSq:∀ y,(y∈q.take n∨y=f)→y∈q:=fun y hy=>hy.elim (fun h=>List.mem_of_mem_take h) (fun h=>h▸hfq)
  obtain⟨L,hL⟩:=jP_ (ps:=ps) (x:=x.add (decide (f∈fm)) f) (f:=f) (fO_ m) j (q,fm)
  rw[hs]at hL
  refine⟨by rw[hL];exact is_ m L q h.nd,by rw[hL];exact oa_ m L q h.len,?_,by rw[hL];exact jA_ m L q⟩
  rw[← hs]
  exact lp_ hr (Ix.of_add h.ix f (by simp)) (fun y hy=>(h.der y (hSq y hy)).form hr) ((h.der f hfq).form hr) (q,fm) hSq hfq h.der j
theorem iN_ (hr:∀ x∈ps,x.vok) (h:LoopA ps A m n q fm x) (hn:q[n]? = some f) {s':List Fc×List Fc} (hs:rls (bm_ m) idk (aN_ ps) (x.add (decide (f∈fm)) f) f (nrl f) (q,fm)=s') (hl:s'.1.length≤m) :
    LoopA ps A m (n+1) s'.1 s'.2 (x.add (decide (f∈fm)) f):=by
  obtain⟨_,_,_,t,ht⟩:=cE_ hr h hn (nrl f) hs
  have hi:=uk_ hr (h.inv (by rw[ht,List.length_append]at hl;omega)) hn hs hl
  exact⟨hi.nd,by have:=hi.len;omega,hi.le,hi.der,hi.ix,fun _=>hi⟩
theorem qE_ (h:LoopA ps A m q.length q fm x) (hl:q.length≤m) (y:Fc):Der ps A y↔y∈q:=ul_ (h.inv hl) y
end
theorem zf_eq (x:Pc):∃ n,{ x.zf with frm:=n }=x:=⟨x.frm,rfl⟩
theorem oE_ {p:List Pc} {A:List Str} {y:Fc}:Der (uniq [] p) A y↔Der p A y:=by
 constructor
 ·refine Der.mono (fun x hx=>?_) (fun _ h=>h)
  rcases (iZ_ p [] x).1 hx with h|⟨z,hz,rfl⟩
  ·simp at h
  exact⟨z,hz,0,rfl⟩
 exact Der.mono (fun x hx=>⟨x.zf,(iZ_ p [] _).2 (.inr ⟨x,hx,rfl⟩),zf_eq x⟩) (fun _ h=>h)
theorem to_ {p:List Pc} (h:∀ x∈p,x.vok):∀ x∈uniq [] p,x.vok:=fun x hx=>by
 rcases (iZ_ p [] x).1 hx with h1|⟨z,hz,rfl⟩
 ·simp at h1
 exact⟨(h z hz).rok,(h z hz).num⟩
def Fc.lt (x y:Fc):Prop:=x.kind<y.kind∨x.kind=y.kind∧(x.a<y.a∨x.a=y.a∧(x.b<y.b∨x.b=y.b∧(x.r<y.r∨x.r=y.r∧(x.lo<y.lo∨x.lo=y.lo∧x.hi<y.hi))))
instance (x y:Fc):Decidable (Fc.lt x y):=by unfold Fc.lt;exact inferInstance
theorem va_ (x:Str):¬ x<x:=List.lt_irrefl x
theorem nu_ (x y:Str):x<y∨x=y∨y<x:=by
 by_cases h:x<y
 ·exact .inl h
 by_cases h':y<x
 ·exact .inr (.inr h')
 exact .inr (.inl (List.le_antisymm (List.not_lt.1 h') (List.not_lt.1 h)))
theorem Fc.lt_irr (x:Fc):¬ x.lt x:=by
  unfold Fc.lt
  simp[va_]
theorem Fc.lt_tri (x y:Fc):x.lt y∨x=y∨y.lt x:=by
 unfold Fc.lt
 rcases Int.lt_trichotomy x.kind y.kind with h|h|h
 ·exact .inl (.inl h)
 ·rcases nu_ x.a y.a with h1|h1|h1
  ·exact .inl (.inr ⟨h,.inl h1⟩)
  ·rcases nu_ x.b y.b with h2|h2|h2
   ·exact .inl (.inr ⟨h,.inr ⟨h1,.inl h2⟩⟩)
   ·rcases nu_ x.r y.r with h3|h3|h3
    ·exact .inl (.inr ⟨h,.inr ⟨h1,.inr ⟨h2,.inl h3⟩⟩⟩)
    ·rcases Int.lt_trichotomy x.lo y.lo with h4|h4|h4
     ·exact .inl (.inr ⟨h,.inr ⟨h1,.inr ⟨h2,.inr ⟨h3,.inl h4⟩⟩⟩⟩)
     ·rcases Int.lt_trichotomy x.hi y.hi with h5|h5|h5
      ·exact .inl (.inr ⟨h,.inr ⟨h1,.inr ⟨h2,.inr ⟨h3,.inr ⟨h4,h5⟩⟩⟩⟩⟩)
      ·refine .inr (.inl ?_);cases x;cases y;simp_all
      exact .inr (.inr (.inr ⟨h.symm,.inr ⟨h1.symm,.inr ⟨h2.symm,.inr ⟨h3.symm,.inr ⟨h4.symm,h5⟩⟩⟩⟩⟩))
     exact .inr (.inr (.inr ⟨h.symm,.inr ⟨h1.symm,.inr ⟨h2.symm,.inr ⟨h3.symm,.inl h4⟩⟩⟩⟩))
    exact .inr (.inr (.inr ⟨h.symm,.inr ⟨h1.symm,.inr ⟨h2.symm,.inl h3⟩⟩⟩))
   exact .inr (.inr (.inr ⟨h.symm,.inr ⟨h1.symm,.inl h2⟩⟩))
  exact .inr (.inr (.inr ⟨h.symm,.inl h1⟩))
 exact .inr (.inr (.inl h))
theorem gV_ {α:Type} {lt:α→α→Prop} (ht:∀ {x y z},lt x y→lt y z→lt x z) {x y z:α} {P Q R:Prop} (hr:x=y→y=z→P→Q→R) (h1:lt x y∨x=y∧P) (h2:lt y z∨y=z∧Q):lt x z∨x=z∧R:=by
 rcases h1 with h1|⟨rfl,h1⟩
 ·rcases h2 with h2|⟨rfl,h2⟩
  ·exact .inl (ht h1 h2)
  exact .inl h1
 rcases h2 with h2|⟨rfl,h2⟩
 ·exact .inl h2
 exact .inr ⟨rfl,hr rfl rfl h1 h2⟩
theorem Fc.lt_trans {x y z:Fc} (h1:x.lt y) (h2:y.lt z):x.lt z :=
  gV_ (lt:=fun a b:Int=>a<b) Int.lt_trans (fun _ _=>gV_ (lt:=fun a b:Str=>a<b) List.lt_trans (fun _ _=>gV_ (lt:=fun a b:Str=>a<b) List.lt_trans (fun _ _=>gV_ (lt:=fun a b:Str=>a<b) List.lt_trans (fun _ _=>gV_ (lt:=fun a b:Int=>a<b) Int.lt_trans fun _ _=>Int.lt_trans)))) h1 h2
theorem lo_ {α:Type} {lt:α→α→Prop} (hi:∀ x,¬ lt x x) (ht:∀ {x y z},lt x y→lt y z→lt x z):∀ {l m:List α},l.Pairwise lt→m.Pairwise lt→(∀ x,x∈l↔x∈m)→l=m
 | [],[],_,_,_=>rfl
 | [],y::m,_,_,h=>by have:=(h y).2 (by simp);simp at this
 | x::l,[],_,_,h=>by have:=(h x).1 (by simp);simp at this
 | x::l,y::m,h1,h2,h=>by
   rw[List.pairwise_cons]at h1 h2
   have e:x=y:=by
     rcases List.mem_cons.1 ((h x).1 (by simp)) with e|hx
     · exact e
     · rcases List.mem_cons.1 ((h y).2 (by simp)) with e|hy
       · exact e.symm
       · exact absurd (ht (h1.1 y hy) (h2.1 x hx)) (hi x)
   subst e
   congr 1
   refine lo_ hi ht h1.2 h2.2 fun z=>⟨fun hz=>?_,fun hz=>?_⟩
   · rcases List.mem_cons.1 ((h z).1 (by simp[hz])) with rfl|q
     · exact absurd (h1.1 z hz) (hi z)
     · exact q
   · rcases List.mem_cons.1 ((h z).2 (by simp[hz])) with rfl|q
     · exact absurd (h2.1 z hz) (hi z)
     · exact q
abbrev Srt (l:List Fc):Prop:=l.Pairwise Fc.lt
theorem Srt.ext {l m:List Fc} (h1:Srt l) (h2:Srt m) (h:∀ x,x∈l↔x∈m):l=m:=lo_ Fc.lt_irr Fc.lt_trans h1 h2 h
theorem Srt.nodup {l:List Fc} (h:Srt l):l.Nodup:=by
  unfold List.Nodup
  refine List.Pairwise.imp ?_ h
  intro a b hab e
  exact Fc.lt_irr b (e▸hab)
def mh_ (p:List Pc) (A:List Str) (m:Nat):Option (List Fc)→Prop
  | some L=>Srt L∧(∀ y,y∈L↔Der p A y)∧L.length≤m
  | none=>∃ M:List Fc,M.Nodup∧(∀ y∈M,Der p A y)∧m<M.length
theorem gU_ {α:Type} [DecidableEq α]:∀ {l m:List α},l.Nodup→(∀ x∈l,x∈m)→l.length≤m.length
  | [],m,_,_=>by simp
  | x::l,m,h,hs=>by
    rw[List.nodup_cons]at h
    have:=gU_ (l:=l) (m:=m.erase x) h.2 fun y hy=>by
      have hne:y≠x:=fun e=>h.1 (e▸hy)
      exact (List.mem_erase_of_ne hne).2 (hs y (by simp[hy]))
    have hx:=hs x (by simp)
    rw[List.length_erase_of_mem hx]at this
    have:0<m.length:=List.length_pos_of_mem hx
    simp only[List.length_cons]
    omega
theorem mh_.uniq {p:List Pc} {A:List Str} {m:Nat} {r r':Option (List Fc)} (h:mh_ p A m r) (h':mh_ p A m r'):r=r':=by
  cases r with
  | none =>
    cases r' with
    | none=>rfl
    | some L =>
      obtain⟨M,h1,h2,h3⟩:=h
      obtain⟨_,g2,g3⟩:=h'
      have:=gU_ h1 fun x hx=>(g2 x).2 (h2 x hx)
      omega
  | some L =>
    cases r' with
    | none =>
      obtain⟨M,h1,h2,h3⟩:=h'
      obtain⟨_,g2,g3⟩:=h
      have:=gU_ h1 fun x hx=>(g2 x).2 (h2 x hx)
      omega
    | some L'=>rw[h.1.ext h'.1 fun x=>by rw[h.2.1,h'.2.1]]
end Go.Vs
namespace Go.Vs
open Go Go.Sx
section
variable {ps:List Pc} {A:List Str} {c:List Fc} {x:Ix} {f:Fc}
theorem Cmpl.up {S Fm kn good good':Fc→Prop} (h:Cmpl ps S Fm kn good f) (hg:∀ y,good y→good' y):Cmpl ps S Fm kn good' f :=
  ⟨fun z a h1 h2 h3=>hg _ (h.c3 z a h1 h2 h3),fun z a h1 h2 h3 h4=>hg _ (h.c4 z a h1 h2 h3 h4),fun z a h1 h2 h3 h4=>hg _ (h.c4' z a h1 h2 h3 h4),fun z a h1 h2 h3=>hg _ (h.c5 z a h1 h2 h3),fun z a b h1 h2 h3=>hg _ (h.c6 z a b h1 h2 h3),
   fun z a b c h1 h2 h3 h4=>hg _ (h.c7 z a b c h1 h2 h3 h4),fun z a b c h1 h2 h3 h4=>hg _ (h.c7' z a b c h1 h2 h3 h4),fun z a b h1 h2 h3 h4=>hg _ (h.c8 z a b h1 h2 h3 h4),fun z a b h1 h2 h3 h4=>hg _ (h.c8' z a b h1 h2 h3 h4),fun a r b h1 h2=>hg _ (h.c9 a r b h1 h2),fun a r b h1 h2=>hg _ (h.c9' a r b h1 h2),
   fun z a h1 h2 h3=>hg _ (h.c11 z a h1 h2 h3),fun y h1 h2 h3 h4 h5 h6 h7=>hg _ (h.c12 y h1 h2 h3 h4 h5 h6 h7),fun y h1 h2 h3 h4 h5 h6 h7=>hg _ (h.c13 y h1 h2 h3 h4 h5 h6 h7),fun z a lo hi h1 h2 h3 h4 h5=>hg _ (h.c14 z a lo hi h1 h2 h3 h4 h5)⟩
end
section
variable {p:List Pc} {A:List Str} {l:List Fc} {f:Fc}
theorem wh_ {α β:Type} {g:α→List β} {n:Nat}:∀ (l:List α),(∀ x∈l,(g x).length≤n)→(l.flatMap g).length≤l.length*n
  | [],_=>by simp
  | x::l,h=>by
    have:=wh_ l fun y hy=>h y (by simp[hy])
    have hx:=h x (by simp)
    simp only[List.flatMap_cons,List.length_append,List.length_cons,Nat.add_mul,Nat.one_mul]
    omega
end
end Go.Vs
