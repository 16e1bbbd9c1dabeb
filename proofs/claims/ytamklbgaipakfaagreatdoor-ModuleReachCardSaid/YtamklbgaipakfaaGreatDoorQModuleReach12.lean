/-
  Part of the proof of the law ModuleReach over this seat: the small logic, the data, the contracts of functions (no condition).
-/
import Derived.Test.YtamklbgaipakfaaGreatDoorQModuleReach11
import Derived.Test.YtamklbgaipakfaaGreatDoorQModuleReach1
import Derived.Scope
import Derived.Lib.AppendZeros
import Derived.Test.YtamklbgaipakfaaGreatDoorQModuleReach2
import Derived.Test.YtamklbgaipakfaaGreatDoorQModuleReach3
import Derived.Maps.RangeRun
import Derived.Test.YtamklbgaipakfaaGreatDoorQModuleReach6
import Derived.Test.YtamklbgaipakfaaGreatDoorQModuleReach9
import Derived.OrdersIn
set_option linter.unusedVariables false
set_option linter.unusedSimpArgs false
set_option linter.unusedSectionVars false
set_option maxHeartbeats 1000000
namespace Go.Vs
open Go Go.Sx
section
variable {ps:List Pc} {A:List Str} {m:Nat} {x:Ix} {S Fm:Fc→Prop} {f:Fc}
end
inductive Fmd (fm:List Fc):Fc→Prop
  | base {y:Fc} (h:y∈fm):Fmd fm y
  | meet {y z:Fc} (hy:Fmd fm y) (hz:Fmd fm z) (ha:z.a=y.a) (hr:z.r=y.r) (hl:max y.lo z.lo≤min y.hi z.hi):Fmd fm (sL_ y z)
theorem Fmd.mono {fm fm':List Fc} (h:∀ y∈fm,y∈fm') {y:Fc} (hy:Fmd fm y):Fmd fm' y:=by
  induction hy with
  | base h1=>exact .base (h _ h1)
  | meet _ _ ha hr hl ih1 ih2=>exact .meet ih1 ih2 ha hr hl
theorem Der.form {p:List Pc} {A:List Str} (hp:∀ x∈p,x.vok) {y:Fc} (h:Der p A y):y.form:=h _ fun _ hz=>One.form hp (fun _ h=>h) hz
section
variable {ps:List Pc} {A:List Str} {m n:Nat} {q fm:List Fc} {x:Ix} {f:Fc}
end
section
variable {ps:List Pc} {A:List Str} {m n:Nat} {q fm:List Fc} {x:Ix} {f:Fc}
end
def Fc.lt (x y:Fc):Prop:=x.kind<y.kind∨x.kind=y.kind∧(x.a<y.a∨x.a=y.a∧(x.b<y.b∨x.b=y.b∧(x.r<y.r∨x.r=y.r∧(x.lo<y.lo∨x.lo=y.lo∧x.hi<y.hi))))
instance (x y:Fc):Decidable (Fc.lt x y):=by unfold Fc.lt;exact inferInstance
theorem rN_ (x:Str):¬ x<x:=List.lt_irrefl x
theorem Fc.lt_irr (x:Fc):¬ x.lt x:=by
  unfold Fc.lt
  simp[rN_]
theorem fR_ {α:Type} {lt:α→α→Prop} (ht:∀ {x y z},lt x y→lt y z→lt x z) {x y z:α} {P Q R:Prop} (hr:x=y→y=z→P→Q→R) (h1:lt x y∨x=y∧P) (h2:lt y z∨y=z∧Q):lt x z∨x=z∧R:=by
 rcases h1 with h1|⟨rfl,h1⟩
 ·rcases h2 with h2|⟨rfl,h2⟩
  ·exact .inl (ht h1 h2)
  exact .inl h1
 rcases h2 with h2|⟨rfl,h2⟩
 ·exact .inl h2
 exact .inr ⟨rfl,hr rfl rfl h1 h2⟩
theorem Fc.lt_trans {x y z:Fc} (h1:x.lt y) (h2:y.lt z):x.lt z :=
  fR_ (lt:=fun a b:Int=>a<b) Int.lt_trans (fun _ _=>fR_ (lt:=fun a b:Str=>a<b) List.lt_trans (fun _ _=>fR_ (lt:=fun a b:Str=>a<b) List.lt_trans (fun _ _=>fR_ (lt:=fun a b:Str=>a<b) List.lt_trans (fun _ _=>fR_ (lt:=fun a b:Int=>a<b) Int.lt_trans fun _ _=>Int.lt_trans)))) h1 h2
theorem jp_ {α:Type} {lt:α→α→Prop} (hi:∀ x,¬ lt x x) (ht:∀ {x y z},lt x y→lt y z→lt x z):∀ {l m:List α},l.Pairwise lt→m.Pairwise lt→(∀ x,x∈l↔x∈m)→l=m
 | [],[],_,_,_=>rfl
 | [],y::m,_,_,h=>by have:=(h y).2 (by simp);simp at this
 | x::l,[],_,_,h=>by have:=(h x).1 (by simp);simp at this
 | x::l,y::m,h1,h2,h=>by
   rw[List.pairwise_cons]at h1 h2
   have e:x=y:=by
     rcases List.mem_cons.1 ((h x).1 (by simp)) with e|hx
     · exact e
     · rcases List.mem_cons.1 ((h y).2 (by simp)) with e|hy
       · exact e.symm
       · exact absurd (ht (h1.1 y hy) (h2.1 x hx)) (hi x)
   subst e
   congr 1
   refine jp_ hi ht h1.2 h2.2 fun z=>⟨fun hz=>?_,fun hz=>?_⟩
   · rcases List.mem_cons.1 ((h z).1 (by simp[hz])) with rfl|q
     · exact absurd (h1.1 z hz) (hi z)
     · exact q
   · rcases List.mem_cons.1 ((h z).2 (by simp[hz])) with rfl|q
     · exact absurd (h2.1 z hz) (hi z)
     · exact q
abbrev Srt (l:List Fc):Prop:=l.Pairwise Fc.lt
theorem Srt.ext {l m:List Fc} (h1:Srt l) (h2:Srt m) (h:∀ x,x∈l↔x∈m):l=m:=jp_ Fc.lt_irr Fc.lt_trans h1 h2 h
theorem Srt.nodup {l:List Fc} (h:Srt l):l.Nodup:=by
  unfold List.Nodup
  refine List.Pairwise.imp ?_ h
  intro a b hab e
  exact Fc.lt_irr b (e▸hab)
def rx_ (p:List Pc) (A:List Str) (m:Nat):Option (List Fc)→Prop
  | some L=>Srt L∧(∀ y,y∈L↔Der p A y)∧L.length≤m
  | none=>∃ M:List Fc,M.Nodup∧(∀ y∈M,Der p A y)∧m<M.length
theorem eU_ {α:Type} [DecidableEq α]:∀ {l m:List α},l.Nodup→(∀ x∈l,x∈m)→l.length≤m.length
  | [],m,_,_=>by simp
  | x::l,m,h,hs=>by
    rw[List.nodup_cons]at h
    have:=eU_ (l:=l) (m:=m.erase x) h.2 fun y hy=>by
      have hne:y≠x:=fun e=>h.1 (e▸hy)
      exact (List.mem_erase_of_ne hne).2 (hs y (by simp[hy]))
    have hx:=hs x (by simp)
    rw[List.length_erase_of_mem hx]at this
    have:0<m.length:=List.length_pos_of_mem hx
    simp only[List.length_cons]
    omega
theorem rx_.uniq {p:List Pc} {A:List Str} {m:Nat} {r r':Option (List Fc)} (h:rx_ p A m r) (h':rx_ p A m r'):r=r':=by
  cases r with
  | none =>
    cases r' with
    | none=>rfl
    | some L =>
      obtain⟨M,h1,h2,h3⟩:=h
      obtain⟨_,g2,g3⟩:=h'
      have:=eU_ h1 fun x hx=>(g2 x).2 (h2 x hx)
      omega
  | some L =>
    cases r' with
    | none =>
      obtain⟨M,h1,h2,h3⟩:=h'
      obtain⟨_,g2,g3⟩:=h
      have:=eU_ h1 fun x hx=>(g2 x).2 (h2 x hx)
      omega
    | some L'=>rw[h.1.ext h'.1 fun x=>by rw[h.2.1,h'.2.1]]
end Go.Vs
namespace Go.Vs
open Go Go.Sx
section
variable {ps:List Pc} {A:List Str} {c:List Fc} {x:Ix} {f:Fc}
theorem Cmpl.up {S Fm kn good good':Fc→Prop} (h:Cmpl ps S Fm kn good f) (hg:∀ y,good y→good' y):Cmpl ps S Fm kn good' f :=
  ⟨fun z a h1 h2 h3=>hg _ (h.c3 z a h1 h2 h3),fun z a h1 h2 h3 h4=>hg _ (h.c4 z a h1 h2 h3 h4),fun z a h1 h2 h3 h4=>hg _ (h.c4' z a h1 h2 h3 h4),fun z a h1 h2 h3=>hg _ (h.c5 z a h1 h2 h3),fun z a b h1 h2 h3=>hg _ (h.c6 z a b h1 h2 h3),
   fun z a b c h1 h2 h3 h4=>hg _ (h.c7 z a b c h1 h2 h3 h4),fun z a b c h1 h2 h3 h4=>hg _ (h.c7' z a b c h1 h2 h3 h4),fun z a b h1 h2 h3 h4=>hg _ (h.c8 z a b h1 h2 h3 h4),fun z a b h1 h2 h3 h4=>hg _ (h.c8' z a b h1 h2 h3 h4),fun a r b h1 h2=>hg _ (h.c9 a r b h1 h2),fun a r b h1 h2=>hg _ (h.c9' a r b h1 h2),
   fun z a h1 h2 h3=>hg _ (h.c11 z a h1 h2 h3),fun y h1 h2 h3 h4 h5 h6 h7=>hg _ (h.c12 y h1 h2 h3 h4 h5 h6 h7),fun y h1 h2 h3 h4 h5 h6 h7=>hg _ (h.c13 y h1 h2 h3 h4 h5 h6 h7),fun z a lo hi h1 h2 h3 h4 h5=>hg _ (h.c14 z a lo hi h1 h2 h3 h4 h5)⟩
end
section
variable {p:List Pc} {A:List Str} {l:List Fc} {f:Fc}
theorem sP_ {α β:Type} {g:α→List β} {n:Nat}:∀ (l:List α),(∀ x∈l,(g x).length≤n)→(l.flatMap g).length≤l.length*n
  | [],_=>by simp
  | x::l,h=>by
    have:=sP_ l fun y hy=>h y (by simp[hy])
    have hx:=h x (by simp)
    simp only[List.flatMap_cons,List.length_append,List.length_cons,Nat.add_mul,Nat.one_mul]
    omega
end
end Go.Vs
namespace Go.Sx
open Go Go.Vs
structure KeyT (P:Program) (kt:TypeId) {K:Type} [DecidableEq K] (kv:K→Value):Prop where
  ok:∀ k,iO_ P kt (kv k)
  nf:∀ (k:K) (es:List MapEntry) (ks:List K),es.map (·.key)=ks.map kv→k ∉ ks→dS_ P kt (kv k) es none
  sf:∀ (k:K) (es:List MapEntry) (ks:List K) (i:Nat) (e:MapEntry),es.map (·.key)=ks.map kv→ks.Nodup→ks[i]? = some k→es[i]? = some e→dS_ P kt (kv k) es (some (i,e.val))
  same:∀ k,Instr.sameBits 10000 (kv k) (kv k)=true
section
variable {P:Program}
theorem bab_eq (a b:List UInt8):((⟨a.toArray⟩:ByteArray)==⟨b.toArray⟩)=decide (a=b):=by
  show (a.toArray==b.toArray)=_
  rw[Bool.eq_iff_iff]
  simp
theorem mT_ {K:Type} [DecidableEq K] {kt:TypeId} {fs:Array Field} {kv:K→Value} (hu:P.underlying kt=some (.struct fs)) (hok:∀ k,iO_ P kt (kv k)) (heq:∀ p q w,(Op.equal kt (kv p) (kv q)).run P w=.ok (decide (p=q)) w) (hsame:∀ k,Instr.sameBits 10000 (kv k) (kv k)=true):KeyT P kt kv where
  ok:=hok
  nf:=fun k es ks h hk=>(gr_ hu heq k ks es h).1 hk
  sf:=fun k es ks i e h hn hi he=>by
    have key:∀ (ks:List K) (es:List MapEntry) (j i:Nat),es.map (·.key)=ks.map kv→ks.Nodup→ks[i]? = some k→es[i]? = some e→∀ w,(Instr.findAsking kt (kv k) es j).run P w=.ok (some (j+i,e.val)) w:=by
      intro ks
      induction ks with
      | nil=>intro es j i _ _ h;simp at h
      | cons q ks ih =>
        intro es j i h hn hi he w
        cases es with
        | nil=>simp at h
        | cons x es =>
          simp only[List.map_cons,List.cons.injEq]at h
          rw[List.nodup_cons]at hn
          cases i with
          | zero =>
            simp only[List.getElem?_cons_zero,Option.some.injEq]at hi he
            subst hi;subst he
            simp only[Instr.findAsking,Sem.run_bind,h.1,heq,Result.andThen_ok,decide_true,if_true,Sem.run_pure,Nat.add_zero]
          | succ i =>
            simp only[List.getElem?_cons_succ]at hi he
            have hne:k≠q:=fun e=>hn.1 (e▸List.mem_of_getElem? hi)
            simp only[Instr.findAsking,Sem.run_bind,h.1,heq,Result.andThen_ok,hne,decide_false,Bool.false_eq_true,if_false]
            rw[ih es (j+1) i h.2 hn.2 hi he w,show j+1+i=j+(i+1) by omega]
    intro w
    have hnow:∀ (x:MapEntry) (r:List MapEntry),Instr.findNow (.struct fs) (kv k) (x::r) 0=none:=fun x r=>by simp[Instr.findNow,Instr.sameNow]
    cases es with
    | nil=>simp at he
    | cons x r =>
      simp only[Instr.findKey,Sem.run_bind,run_underlying hu,Result.andThen_ok,hnow]
      have:=key ks (x::r) 0 i h hn hi he w
      rwa [Nat.zero_add]at this
  same:=hsame
end
theorem mj_ (n:Nat) {k:IntKind} (i:Int):Instr.sameBits n (.int k i) (.int k i)=true:=by
  cases n<;>simp[Instr.sameBits]
theorem qq_ (n:Nat) (s:List UInt8):Instr.sameBits n (str s) (str s)=true:=by
  cases n<;>(show ((⟨s.toArray⟩:ByteArray)==⟨s.toArray⟩)=true;rw[bab_eq,decide_eq_true rfl])
theorem qr_ {n:Nat} {l:List Value} (h:∀ v∈l,Instr.sameBits n v v=true):Instr.sameBits (n+1) (.agg l.toArray) (.agg l.toArray)=true:=by
 simp only[Instr.sameBits,BEq.rfl,Bool.true_and,List.all_eq_true]
 intro p hp
 have:∀ (l:List Value),(∀ v∈l,Instr.sameBits n v v=true)→∀ p∈l.zip l,Instr.sameBits n p.1 p.2=true:=by
   intro l
   induction l with
   | nil=>intro _ p hp;simp at hp
   | cons a l ih =>
     intro h p hp
     simp only[List.zip_cons_cons,List.mem_cons]at hp
     rcases hp with rfl|hp
     · exact h a (by simp)
     · exact ih (fun v hv=>h v (by simp[hv])) p hp
 exact this l h p hp
structure Born (es:Array MapEntry) (c:Nat):Prop where
  lt:∀ x∈es.toList,x.born<c
  nd:(es.toList.map (·.born)).Nodup
theorem Born.nil (c:Nat):Born #[] c:=⟨by simp,by simp⟩
theorem Born.push {es:Array MapEntry} {c:Nat} (h:Born es c) (key val:Value):Born (es.push ⟨key,val,c⟩) (c+1):=by
 refine⟨fun x hx=>?_,?_⟩
 ·rw[Array.toList_push,List.mem_append]at hx
  rcases hx with hx|hx
  ·exact Nat.lt_succ_of_lt (h.lt x hx)
  rw[List.mem_singleton]at hx;rw[hx];exact Nat.lt_succ_self _
 rw[Array.toList_push,List.map_append,List.nodup_append]
 refine⟨h.nd,by simp,fun a ha b hb e=>?_⟩
 obtain⟨x,hx,rfl⟩:=List.mem_map.1 ha
 simp at hb
 have:=h.lt x hx
 omega
theorem Born.modify {es:Array MapEntry} {c:Nat} (h:Born es c) (i:Nat) (f:MapEntry→MapEntry) (hf:∀ e,(f e).born=e.born):Born (es.modify i f) c:=by
 have hb:(es.modify i f).toList.map (·.born)=es.toList.map (·.born):=by
   apply List.ext_getElem?
   intro j
   simp only[List.getElem?_map,Array.getElem?_toList,Array.getElem?_modify]
   split
   · cases es[j]? <;> simp[hf]
   · rfl
 refine⟨fun x hx=>?_,by rw[hb];exact h.nd⟩
 have:x.born∈(es.modify i f).toList.map (·.born):=List.mem_map_of_mem hx
 rw[hb]at this
 obtain⟨y,hy,e⟩:=List.mem_map.1 this
 rw[← e];exact h.lt y hy
theorem Born.find {es:Array MapEntry} {c i:Nat} {x:MapEntry} (h:Born es c) (hx:es[i]? = some x):es.findIdx? (fun e=>(e.born:Int)==(x.born:Int))=some i:=by
  rw[Array.findIdx?_eq_some_iff_getElem]
  obtain⟨hi,rfl⟩:=Array.getElem?_eq_some_iff.1 hx
  refine⟨hi,by simp,fun j hj=>?_⟩
  simp only[beq_eq_false_iff_ne,ne_eq,Bool.not_eq_true]
  intro e
  have hji:j<es.size:=Nat.lt_trans hj hi
  have:=h.nd
  rw[List.nodup_iff_pairwise_ne,List.pairwise_iff_getElem]at this
  have:=this j i (by simpa using hji) (by simpa using hi) hj
  simp at this
  exact this (by exact_mod_cast e)
section
variable {K D:Type} [DecidableEq K] (kv:K→Value) (cells:D→List Value) (e:TypeId) (sz:Nat) (l:List (K×D))
def fY_:List K→List MapEntry→Hp→Prop
  | [],[],H=>H=[]
  | k::ks,x::es,H=>∃ Hk Hr,H=Hk++Hr∧x.key=kv k∧aG_ e sz x.val (lat l k).length ((lat l k).flatMap cells) Hk∧fY_ ks es Hr
  | _,_,_=>False
def gB_ (mb:Nat) (H:Hp):Prop:=∃ ks es c Hr,H=(mb,.map es c)::Hr∧ks.Nodup∧(∀ x∈l,x.1∈ks)∧fY_ kv cells e sz l ks es.toList Hr∧Born es c
end
section
variable {K D:Type} [DecidableEq K] {kv:K→Value} {cells:D→List Value} {e:TypeId} {sz:Nat} {l:List (K×D)}
theorem fY_.keys:∀ {ks:List K} {es:List MapEntry} {H:Hp},fY_ kv cells e sz l ks es H→es.map (·.key)=ks.map kv
  | [],[],_,_=>rfl
  | k::ks,x::es,_,h=>by
    obtain⟨Hk,Hr,_,h1,_,h2⟩:=h
    simp[h1,h2.keys]
  | [],_::_,_,h=>h.elim
  | _::_,[],_,h=>h.elim
theorem fY_.congr {l':List (K×D)}:∀ {ks:List K} {es:List MapEntry} {H:Hp},(∀ k∈ks,lat l' k=lat l k)→fY_ kv cells e sz l ks es H→fY_ kv cells e sz l' ks es H
  | [],[],_,_,h=>h
  | k::ks,x::es,_,hl,h=>by
    obtain⟨Hk,Hr,h0,h1,h2,h3⟩:=h
    exact⟨Hk,Hr,h0,h1,by rw[hl k (by simp)];exact h2,h3.congr fun q hq=>hl q (by simp[hq])⟩
  | [],_::_,_,_,h=>h.elim
  | _::_,[],_,_,h=>h.elim
theorem fY_.get : ∀ {ks : List K} {es : List MapEntry} {H : Hp} {i : Nat} {k : K}, fY_ kv cells e sz l ks es H → ks.Nodup → ks[i]? = some k → ∃ x Hk Hr, es[i]? = some x ∧ H.Perm (Hk ++ Hr) ∧ x.key = kv k ∧ aG_ e sz x.val (lat l k).length ((lat l k).flatMap cells) Hk ∧
      ∀ (l':List (K×D)) (y:MapEntry) (Hk':Hp),y.key=kv k→(∀ q,q≠k→lat l' q=lat l q)→aG_ e sz y.val (lat l' k).length ((lat l' k).flatMap cells) Hk'→∃ H',fY_ kv cells e sz l' ks (es.set i y) H'∧H'.Perm (Hk'++Hr)
  | [],_,_,_,_,_,_,h=>by simp at h
  | _::_,[],_,_,_,h,_,_=>h.elim
  | q::ks,x::es,H,0,k,h,hn,hi=>by
    simp only[List.getElem?_cons_zero,Option.some.injEq]at hi
    subst hi
    rw[List.nodup_cons]at hn
    obtain⟨Hk,Hr,h0,h1,h2,h3⟩:=h
    exact⟨x,Hk,Hr,rfl,h0▸.refl _,h1,h2,fun l' y Hk' g1 g2 g3=>⟨Hk'++Hr,⟨Hk',Hr,rfl,g1,g3,h3.congr fun z hz=>g2 z (fun e=>hn.1 (e▸hz))⟩,.refl _⟩⟩
  | q::ks,x::es,H,i+1,k,h,hn,hi=>by
    simp only[List.getElem?_cons_succ]at hi
    rw[List.nodup_cons]at hn
    obtain⟨Hq,Ho,h0,h1,h2,h3⟩:=h
    obtain⟨y,Hk,Hr,i1,i2,i3,i4,i5⟩:=h3.get hn.2 hi
    have hne:q≠k:=fun e=>hn.1 (e▸List.mem_of_getElem? hi)
    refine⟨y,Hk,Hq++Hr,i1,?_,i3,i4,fun l' z Hk' g1 g2 g3=>?_⟩
    · rw[h0]
      refine (List.Perm.append_left Hq i2).trans ?_
      rw[← List.append_assoc,← List.append_assoc]
      exact List.perm_append_comm.append_right _
    · obtain⟨H',j1,j2⟩:=i5 l' z Hk' g1 g2 g3
      refine⟨Hq++H',⟨Hq,H',rfl,h1,by rw[g2 q hne];exact h2,j1⟩,(List.Perm.append_left Hq j2).trans ?_⟩
      rw[← List.append_assoc,← List.append_assoc]
      exact List.perm_append_comm.append_right _
theorem fY_.push:∀ {ks:List K} {es:List MapEntry} {H:Hp} {k:K} {x:MapEntry} {Hk:Hp},fY_ kv cells e sz l ks es H→x.key=kv k→aG_ e sz x.val (lat l k).length ((lat l k).flatMap cells) Hk→fY_ kv cells e sz l (ks++[k]) (es++[x]) (H++Hk)
  | [],[],_,k,x,Hk,h,h1,h2=>by subst h;exact⟨Hk,[],by simp,h1,h2,rfl⟩
  | q::ks,y::es,_,k,x,Hk,h,h1,h2=>by
    obtain⟨Hq,Hr,rfl,g1,g2,g3⟩:=h
    exact⟨Hq,Hr++Hk,by simp,g1,g2,g3.push h1 h2⟩
  | [],_::_,_,_,_,_,h,_,_=>h.elim
  | _::_,[],_,_,_,_,h,_,_=>h.elim
theorem hh_ {k q:K} {d:D} (h:q≠k):lat (l++[(k,d)]) q=lat l q:=by
  rw[hC_];simp[lat,Ne.symm h]
theorem qR_ {k:K} {d:D}:lat (l++[(k,d)]) k=lat l k++[d]:=by
  rw[hC_];simp[lat]
theorem gB_.open {P:Program} {kt:TypeId} (hK:KeyT P kt kv) {mb:Nat} {H:Hp} (h:gB_ kv cells e sz l mb H) (k:K) :
    ∃ es c sv Hk Hr,H.Perm ((mb,.map es c)::(Hk++Hr))∧aG_ e sz sv (lat l k).length ((lat l k).flatMap cells) Hk ∧
      ((dS_ P kt (kv k) es.toList none∧sv=.slice none 0 0∧∀ d sv' Hk',aG_ e sz sv' (lat (l++[(k,d)]) k).length ((lat (l++[(k,d)]) k).flatMap cells) Hk'→∃ H',gB_ kv cells e sz (l++[(k,d)]) mb H'∧H'.Perm ((mb,.map (es.push ⟨kv k,sv',c⟩) (c+1))::(Hk'++Hr))) ∨
       (∃ i x,dS_ P kt (kv k) es.toList (some (i,sv))∧es[i]? = some x∧x.key=kv k∧x.val=sv∧∀ d sv' Hk',aG_ e sz sv' (lat (l++[(k,d)]) k).length ((lat (l++[(k,d)]) k).flatMap cells) Hk'→∃ H',gB_ kv cells e sz (l++[(k,d)]) mb H'∧H'.Perm ((mb,.map (es.modify i fun y=>{ y with key:=kv k,val:=sv' }) c)::(Hk'++Hr)))):=by
  obtain⟨ks,es,c,Ho,rfl,hn,hl,hm,hbn⟩:=h
  by_cases hk:k∈ks
  · obtain⟨i,hi⟩:=List.getElem?_of_mem hk
    obtain⟨x,Hk,Hr,g1,g2,g3,g4,g5⟩:=hm.get hn hi
    have hx:es[i]? = some x:=by rw[← Array.getElem?_toList];exact g1
    refine⟨es,c,x.val,Hk,Hr,.cons _ g2,g4,.inr ⟨i,x,hK.sf k es.toList ks i x hm.keys hn hi g1,hx,g3,rfl,fun d sv' Hk' hs=>?_⟩⟩
    obtain⟨H',j1,j2⟩:=g5 (l++[(k,d)]) { x with key:=kv k,val:=sv' } Hk' rfl (fun q hq=>hh_ hq) hs
    refine⟨(mb,.map (es.modify i fun y=>{ y with key:=kv k,val:=sv' }) c)::H',⟨ks,_,c,H',rfl,hn,fun y hy=>?_,?_,hbn.modify i _ fun _=>rfl⟩,.cons _ j2⟩
    · rcases List.mem_append.1 hy with hy|hy
      · exact hl y hy
      · simp at hy;rw[hy];exact hk
    · have e1:(es.modify i fun y=>{ y with key:=kv k,val:=sv' }).toList=es.toList.set i { x with key:=kv k,val:=sv' }:=by
        apply List.ext_getElem?
        intro j
        rw[Array.getElem?_toList,Array.getElem?_modify,List.getElem?_set,Array.getElem?_toList]
        by_cases hij:i=j
        · subst hij
          have hlt:i<es.toList.length:=(List.getElem?_eq_some_iff.1 g1).1
          simp only[if_true,hx,Option.map_some,if_pos hlt]
        · simp[hij]
      rw[e1];exact j1
  · have hlat:lat l k=[]:=by
      apply List.eq_nil_iff_forall_not_mem.2
      intro d hd
      exact hk (hl _ (lv_.1 hd))
    refine⟨es,c,.slice none 0 0,[],Ho,.refl _,by rw[hlat];exact aG_.nil _ _,.inl ⟨hK.nf k es.toList ks hm.keys hk,rfl,fun d sv' Hk' hs=>?_⟩⟩
    refine⟨(mb,.map (es.push ⟨kv k,sv',c⟩) (c+1))::(Ho++Hk'),⟨ks++[k],_,_,_,rfl,?_,fun y hy=>?_,?_,hbn.push _ _⟩,.cons _ List.perm_append_comm⟩
    · rw[List.nodup_append];exact⟨hn,by simp,fun a ha b hb e=>by simp at hb;subst hb;subst e;exact hk ha⟩
    · rcases List.mem_append.1 hy with hy|hy
      · exact List.mem_append_left _ (hl y hy)
      · simp at hy;simp[hy]
    · rw[Array.toList_push]
      exact (hm.congr fun q hq=>hh_ (fun (e:q=k)=>hk (e▸hq))).push rfl hs
structure MOpn (kv:K→Value) (cells:D→List Value) (e:TypeId) (sz:Nat) (l:List (K×D)) (mb:Nat) (k:K) (es:Array MapEntry) (c i:Nat) (st:Int) (Hr:Hp):Prop where
  find:es.findIdx? (fun x=>(x.born:Int)==st)=some i
  close:∀ d sv' Hk',aG_ e sz sv' (lat (l++[(k,d)]) k).length ((lat (l++[(k,d)]) k).flatMap cells) Hk'→∃ H',gB_ kv cells e sz (l++[(k,d)]) mb H'∧H'.Perm ((mb,.map (es.modify i fun y=>{ y with val:=sv' }) c)::(Hk'++Hr))
theorem nP_ {es:Array MapEntry} {i:Nat} {x:MapEntry} {key:Value} (hx:es[i]? = some x) (hk:x.key=key):(es.modify i fun y=>{ y with key:=key })=es:=by
 apply Array.ext_getElem?
 intro j
 rw[Array.getElem?_modify]
 by_cases hij:i=j
 ·subst hij;rw[if_pos rfl,hx];simp only[Option.map_some];rw[← hk]
 rw[if_neg hij]
theorem gB_.entry {P:Program} {kt:TypeId} (hK:KeyT P kt kv) {mb:Nat} {H:Hp} (h:gB_ kv cells e sz l mb H) (k:K) :
    ∃ es c es' c' i st sv Hk Hr,H.Perm ((mb,.map es c)::(Hk++Hr))∧aG_ e sz sv (lat l k).length ((lat l k).flatMap cells) Hk∧MOpn kv cells e sz l mb k es' c' i st Hr ∧
      ((dS_ P kt (kv k) es.toList none∧sv=.slice none 0 0∧es'=es.push ⟨kv k,.slice none 0 0,c⟩∧c'=c+1∧st=(c:Int))∨(∃ j x,dS_ P kt (kv k) es.toList (some (j,sv))∧es[j]? = some x∧x.key=kv k∧es'=es∧c'=c∧st=(x.born:Int))):=by
  have h0:=h
  obtain⟨ks,es,c,Ho,rfl,hn,hl,hm,hbn⟩:=h0
  by_cases hk:k∈ks
  · obtain⟨i,hi⟩:=List.getElem?_of_mem hk
    obtain⟨x,Hk,Hr,g1,g2,g3,g4,g5⟩:=hm.get hn hi
    have hx:es[i]? = some x:=by rw[← Array.getElem?_toList];exact g1
    refine⟨es,c,es,c,i,x.born,x.val,Hk,Hr,.cons _ g2,g4,⟨hbn.find hx,fun d sv' Hk' hs=>?_⟩,.inr ⟨i,x,hK.sf k es.toList ks i x hm.keys hn hi g1,hx,g3,rfl,rfl,rfl⟩⟩
    obtain⟨H',j1,j2⟩:=g5 (l++[(k,d)]) { x with key:=kv k,val:=sv' } Hk' rfl (fun q hq=>hh_ hq) hs
    refine⟨(mb,.map (es.modify i fun y=>{ y with val:=sv' }) c)::H',⟨ks,_,c,H',rfl,hn,fun y hy=>?_,?_,hbn.modify i _ fun _=>rfl⟩,.cons _ j2⟩
    · rcases List.mem_append.1 hy with hy|hy
      · exact hl y hy
      · simp at hy;rw[hy];exact hk
    · have e1:(es.modify i fun y=>{ y with val:=sv' }).toList=es.toList.set i { x with key:=kv k,val:=sv' }:=by
        apply List.ext_getElem?
        intro j
        rw[Array.getElem?_toList,Array.getElem?_modify,List.getElem?_set,Array.getElem?_toList]
        by_cases hij:i=j
        · subst hij
          have hlt:i<es.toList.length:=(List.getElem?_eq_some_iff.1 g1).1
          simp only[if_true,hx,Option.map_some,if_pos hlt]
          rw[← g3]
        · simp[hij]
      rw[e1];exact j1
  · have hlat:lat l k=[]:=by
      apply List.eq_nil_iff_forall_not_mem.2
      intro d hd
      exact hk (hl _ (lv_.1 hd))
    have hb2:=hbn.push (kv k) (.slice none 0 0)
    have hget:(es.push ⟨kv k,.slice none 0 0,c⟩)[es.size]? = some ⟨kv k,.slice none 0 0,c⟩:=by simp
    refine⟨es,c,es.push ⟨kv k,.slice none 0 0,c⟩,c+1,es.size,(c:Int),.slice none 0 0,[],Ho,.refl _,by rw[hlat];exact aG_.nil _ _,⟨hb2.find hget,fun d sv' Hk' hs=>?_⟩,.inl ⟨hK.nf k es.toList ks hm.keys hk,rfl,rfl,rfl,rfl⟩⟩
    have e2:((es.push ⟨kv k,.slice none 0 0,c⟩).modify es.size fun y=>{ y with val:=sv' })=es.push ⟨kv k,sv',c⟩:=by
      apply Array.ext_getElem?
      intro j
      rw[Array.getElem?_modify,Array.getElem?_push,Array.getElem?_push]
      by_cases hj:j=es.size
      · subst hj;simp
      · rw[if_neg (fun q=>hj q.symm),if_neg hj,if_neg hj]
    rw[e2]
    refine⟨(mb,.map (es.push ⟨kv k,sv',c⟩) (c+1))::(Ho++Hk'),⟨ks++[k],_,_,_,rfl,?_,fun y hy=>?_,?_,hbn.push _ _⟩,.cons _ List.perm_append_comm⟩
    · rw[List.nodup_append];exact⟨hn,by simp,fun a ha b hb e=>by simp at hb;subst hb;subst e;exact hk ha⟩
    · rcases List.mem_append.1 hy with hy|hy
      · exact List.mem_append_left _ (hl y hy)
      · simp at hy;simp[hy]
    · rw[Array.toList_push]
      exact (hm.congr fun q hq=>hh_ (fun (e:q=k)=>hk (e▸hq))).push rfl hs
theorem gB_.nil (mb:Nat) (c:Nat):gB_ kv cells e sz ([]:List (K×D)) mb [(mb,.map #[] c)]:=⟨[],#[],c,[],rfl,List.nodup_nil,by simp,rfl,Born.nil c⟩
def mlF (P:Program) (kt:TypeId) (kv:K→Value) (cells:D→List Value) (mb:Nat) (l:List (K×D)) (adr:K→Option Addr×Nat):Fct where
  p:=fun v=>v.im mb∧∃ es c,v.w.heap[mb]? = some (.map es c)∧∀ k,bN_ v (adr k).1 ((lat l k).flatMap cells) ∧
    ((dS_ P kt (kv k) es.toList none∧Value.slice (adr k).1 (lat l k).length (adr k).2=.slice none 0 0)∨∃ i,dS_ P kt (kv k) es.toList (some (i,.slice (adr k).1 (lat l k).length (adr k).2)))
  mono:=fun v v' h ⟨h1,es,c,h2,h3⟩=>⟨h.imUp mb h1,es,c,by rw[h.block mb h1];exact h2,fun k=>⟨(aw_ _ _).mono v v' h (h3 k).1,(h3 k).2⟩⟩
theorem oL_ {P:Program} {kt:TypeId} {mb:Nat} {adr:K→Option Addr×Nat} {v:Vw} (h:(mlF P kt kv cells mb l adr).p v) (k:K):bN_ v (adr k).1 ((lat l k).flatMap cells):=by
  obtain⟨_,_,_,_,h⟩:=h
  exact (h k).1
theorem pg_ {sv:Value} {n:Nat} {xs:List Value} {Hr:Hp} {v:Vw} (h:aG_ e sz sv n xs Hr) (hv:∀ p∈Hr,v.im p.1∧v.w.heap[p.1]? = some p.2):∃ ad cap,sv=.slice ad n cap∧n≤cap∧cap≤maxLen∧(n≠0→∃ b,ad=some ⟨b,0,none⟩)∧bN_ v ad xs:=by
 rcases h.2 with⟨rfl,rfl,rfl⟩|⟨g,cap,cur,rfl,rfl,h3,h4,h5,h6⟩
 ·have:xs=[]:=List.eq_nil_of_length_eq_zero (by simpa using h.1)
  exact⟨none,0,rfl,Nat.le_refl _,by simp[maxLen],fun h=>absurd rfl h,.inl this⟩
 obtain⟨g1,g2⟩:=hv _ (List.mem_singleton.2 rfl)
 refine⟨some ⟨g,0,none⟩,cap,rfl,h3,h4,fun _=>⟨g,rfl⟩,.inr ⟨g,0,cur,e,(0,0),rfl,g1,g2,fun j x hj=>?_⟩⟩
 rw[← h6,List.getElem?_take]at hj
 split at hj
 ·rw[Nat.zero_add,← Array.getElem?_toList];exact hj
 cases hj
theorem gB_.lent {P:Program} {kt:TypeId} (hK:KeyT P kt kv) {mb:Nat} {H:Hp} (h:gB_ kv cells e sz l mb H):∃ adr,∀ v:Vw,(∀ p∈H,v.im p.1∧v.w.heap[p.1]? = some p.2)→(mlF P kt kv cells mb l adr).p v:=by
 have h0:=h
 obtain⟨ks,es,c,Ho,rfl,hn,hl,hm,_⟩:=h0
 have key:∀ k,∃ q:Option Addr×Nat,∀ v:Vw,(∀ p∈(mb,Obj.map es c)::Ho,v.im p.1∧v.w.heap[p.1]? = some p.2)→bN_ v q.1 ((lat l k).flatMap cells)∧((dS_ P kt (kv k) es.toList none∧Value.slice q.1 (lat l k).length q.2=.slice none 0 0)∨∃ i,dS_ P kt (kv k) es.toList (some (i,.slice q.1 (lat l k).length q.2))):=fun k=>by
   by_cases hk:k∈ks
   · obtain⟨i,hi⟩:=List.getElem?_of_mem hk
     obtain⟨x,Hk,Hr,g1,g2,g3,g4,_⟩:=hm.get hn hi
     have hf:=hK.sf k es.toList ks i x hm.keys hn hi g1
     have hsl:∃ ad cap,x.val=.slice ad (lat l k).length cap:=by
       rcases g4.2 with⟨q1,q2,_⟩|⟨g,cap,cur,q1,_⟩
       · exact⟨none,0,by rw[q1,q2]⟩
       · exact⟨_,cap,q1⟩
     obtain⟨ad,cap,hx⟩:=hsl
     refine⟨(ad,cap),fun v hv=>⟨?_,.inr ⟨i,by rw[← hx];exact hf⟩⟩⟩
     obtain⟨ad',cap',e1,_,_,_,hr⟩:=pg_ g4 fun p hp=>hv p (List.mem_cons_of_mem _ (g2.mem_iff.2 (List.mem_append_left _ hp)))
     rw[hx]at e1
     simp only[Value.slice.injEq]at e1
     rw[e1.1];exact hr
   · have hlat:lat l k=[]:=by
       apply List.eq_nil_iff_forall_not_mem.2
       intro d hd
       exact hk (hl _ (lv_.1 hd))
     exact⟨(none,0),fun v hv=>⟨.inl (by rw[hlat];rfl),.inl ⟨hK.nf k es.toList ks hm.keys hk,by rw[hlat];rfl⟩⟩⟩
 refine⟨fun k=>(key k).choose,fun v hv=>?_⟩
 obtain⟨g1,g2⟩:=hv _ List.mem_cons_self
 exact⟨g1,es,c,g2,fun k=>(key k).choose_spec v hv⟩
end
section
variable {P:Program} {K:Type} [DecidableEq K] {kv:K→Value} {kt:TypeId}
structure SetE (kv:K→Value) (es:Array MapEntry) (q:List K):Prop where
  keys:es.toList.map (·.key)=q.map kv
  vals:∀ x∈es.toList,x.val=.bool true
  nd:q.Nodup
theorem SetE.nil:SetE kv #[] ([]:List K):=⟨rfl,by simp,List.nodup_nil⟩
theorem SetE.size {es:Array MapEntry} {q:List K} (h:SetE kv es q):es.size=q.length:=by
  have:=congrArg List.length h.keys
  simpa using this
theorem SetE.yes (hK:KeyT P kt kv) {es:Array MapEntry} {q:List K} (h:SetE kv es q) {k:K} (hk:k∈q):∃ i x,q[i]? = some k∧es[i]? = some x∧x.key=kv k∧x.val=.bool true∧dS_ P kt (kv k) es.toList (some (i,.bool true)):=by
  obtain⟨i,hi⟩:=List.getElem?_of_mem hk
  have hlt:i<es.toList.length:=by
    have:=(List.getElem?_eq_some_iff.1 hi).1
    have e:=congrArg List.length h.keys
    simp at e this ⊢;omega
  have hx:=List.getElem?_eq_getElem hlt
  have hv:=h.vals _ (List.getElem_mem hlt)
  have hkey:es.toList[i].key=kv k:=by
    have:=congrArg (fun l=>l[i]?) h.keys
    simp only[List.getElem?_map,hx,hi,Option.map_some,Option.some.injEq]at this
    exact this
  refine⟨i,es.toList[i],hi,by rw[← Array.getElem?_toList];exact hx,hkey,hv,?_⟩
  have:=hK.sf k es.toList q i _ h.keys h.nd hi hx
  rwa [hv]at this
theorem SetE.no (hK:KeyT P kt kv) {es:Array MapEntry} {q:List K} (h:SetE kv es q) {k:K} (hk:k ∉ q):dS_ P kt (kv k) es.toList none:=hK.nf k es.toList q h.keys hk
theorem SetE.push {es:Array MapEntry} {q:List K} (h:SetE kv es q) {k:K} (hk:k ∉ q) (c:Nat):SetE kv (es.push ⟨kv k,.bool true,c⟩) (q++[k]):=by
 refine⟨by simp[h.keys],fun x hx=>?_,?_⟩
 ·rw[Array.toList_push,List.mem_append]at hx
  rcases hx with hx|hx
  ·exact h.vals x hx
  simp at hx;rw[hx]
 rw[List.nodup_append];exact⟨h.nd,by simp,fun a ha b hb e=>by simp at hb;subst hb;subst e;exact hk ha⟩
end
section ops
variable {P:Program} {N:Nf} {v0:Vw} {H0:Hp} {R:Exit→Act→World→Prop} {Kk:List Kt} {fr:Fr} {H:Hp} {Γ:List Fct}
variable {ops:Array Oper} {lo:List Oper} {d:Nat} {ty:TypeId} {ps:String} {af:Array Edge}
variable {K D:Type} [DecidableEq K] {kv:K→Value} {cells:D→List Value}
theorem oZ_ {t kt et:TypeId} {x y:Operand} {mb:Nat} {l:List (K×D)} {adr:K→Option Addr×Nat} {k:K} (hK:KeyT P kt kv) (hu:∀ w,(underlying t).run P w=.ok (.map kt et) w) (hz:∀ w,(zeroValue et).run P w=.ok (.slice none 0 0) w) (hx:Fr.ev fr x=some (.map (some mb))) (hy:Fr.ev fr y=some (kv k))
    (hm:∀ v,v.sat H→az_ Γ v→(mlF P kt kv cells mb l adr).p v):Yld P N fr H Γ (.lookup t x y false) ty (.slice (adr k).1 (lat l k).length (adr k).2) :=
  fun a v h1 h2 h4 _ _ _=>by
    obtain⟨_,es,c,g1,g2⟩:=hm v h2 h4
    have hb:=MapKept.run_getObj_map (P:=P) g1
    rcases (g2 k).2 with⟨q5,q6⟩|⟨i,q5⟩
    · rw[q6];simp[execOp,h1.ev hx,h1.ev hy,Instr.lookup,hu,hb,hK.ok _ _ _,q5 _,hz]
    · simp[execOp,h1.ev hx,h1.ev hy,Instr.lookup,hu,hb,hK.ok _ _ _,q5 _]
theorem gF_ {t kt et:TypeId} {x y:Operand} {mb c:Nat} {es:Array MapEntry} {q:List K} {k:K} (hK:KeyT P kt kv) (hu:∀ w,(underlying t).run P w=.ok (.map kt et) w) (hz:∀ w,(zeroValue et).run P w=.ok (.bool false) w) (hx:Fr.ev fr x=some (.map (some mb))) (hy:Fr.ev fr y=some (kv k))
    (hq:SetE kv es q) (hm:∀ v,v.sat H→az_ Γ v→v.w.heap[mb]? = some (.map es c)):Yld P N fr H Γ (.lookup t x y false) ty (.bool (decide (k∈q))):=by
  by_cases hk:k∈q
  · obtain⟨i,_,_,_,_,_,hf⟩:=hq.yes hK hk
    rw[decide_eq_true hk]
    exact ga_ hu hx hy hm (hK.ok k) hf
  · rw[decide_eq_false hk]
    exact hI_ hu hz hx hy hm (hK.ok k) (hq.no hK hk)
theorem hA_ {o:Op} {t kt et:TypeId} {x y z:Operand} {b c i:Nat} (n:Nat) {es:Array MapEntry} {e:MapEntry} {k:K} {u u':Value} (hK:KeyT P kt kv) (ho:o=.insert t x y z∨o=.mapUpdate t x y z) (hu:∀ w,(underlying t).run P w=.ok (.map kt et) w)
    (hx:Fr.ev fr x=some (.map (some b))) (hy:Fr.ev fr y=some (kv k)) (hz:Fr.ev fr z=some u) (hi:H[n]? = some (b,.map es c)) (hf:dS_ P kt (kv k) es.toList (some (i,u'))) (he:es[i]? = some e) (hek:e.key=kv k)
    (hkk:Ops P R N v0 H0 ops lo Kk fr (H.set n (b,.map (es.modify i fun y=>{ y with key:=kv k,val:=u }) c)) Γ):Ops P R N v0 H0 ops (⟨none,o,ty,ps,af,none⟩::lo) Kk fr H Γ :=
  dp_ rfl fun a v h1 h2 h3 h4=>by
    have hb:=(h2.own _ (List.mem_of_getElem? hi)).1
    have hg:=MapKept.run_getObj_map (P:=P) hb
    have hs:=MapKept.run_setObj_map (P:=P) (.map (es.modify i fun y=>{ y with key:=kv k,val:=u }) c) hb
    have he:(execOp a.eval ⟨none,o,ty,ps,af,none⟩).run P v.w=.ok .skip { v.w with heap:=v.w.heap.setIfInBounds b (.map (es.modify i fun y=>{ y with key:=kv k,val:=u }) c) }:=by
      rcases ho with rfl|rfl<;>simp[execOp,h1.ev hx,h1.ev hy,h1.ev hz,Instr.mapUpdate,hu,hg,hK.ok _ _ _,hf _,hs,Instr.keyThatStays,he,hek,hK.same]
    unfold Oper.wp
    rw[he]
    have hh:=MapKept.heap_set (o':=.map (es.modify i fun y=>{ y with key:=kv k,val:=u }) c) hb
    obtain⟨g1,g2⟩:=fx_ (w':={ v.w with heap:=v.w.heap.setIfInBounds b (.map (es.modify i fun y=>{ y with key:=kv k,val:=u }) c) }) h2 hi rfl rfl rfl (Nat.le_refl _) (by simp) hh.1 (fun k hk=>hh.2 k hk)
    exact hkk a _ h1 g1 (h3.trans g2) (aX_ (g2.le h2) h4)
theorem iH_ {es:Array MapEntry} {i:Nat} {e:MapEntry} {key val:Value} (he:es[i]? = some e) (hk:e.key=key) (hv:e.val=val):(es.modify i fun y=>{ y with key:=key,val:=val })=es:=by
 apply Array.ext_getElem?
 intro j
 rw[Array.getElem?_modify]
 by_cases hij:i=j
 ·subst hij;rw[if_pos rfl,he];simp only[Option.map_some];rw[← hk,← hv]
 rw[if_neg hij]
theorem qJ_ {o:Op} {t kt et:TypeId} {x y z:Operand} {b c:Nat} (n:Nat) {es:Array MapEntry} {q:List K} {k:K} (hK:KeyT P kt kv) (ho:o=.insert t x y z∨o=.mapUpdate t x y z) (hu:∀ w,(underlying t).run P w=.ok (.map kt et) w)
    (hx:Fr.ev fr x=some (.map (some b))) (hy:Fr.ev fr y=some (kv k)) (hz:Fr.ev fr z=some (.bool true)) (hi:H[n]? = some (b,.map es c)) (hq:SetE kv es q)
    (hkk:∀ es' c',SetE kv es' (if k∈q then q else q++[k])→Ops P R N v0 H0 ops lo Kk fr (H.set n (b,.map es' c')) Γ):Ops P R N v0 H0 ops (⟨none,o,ty,ps,af,none⟩::lo) Kk fr H Γ:=by
  by_cases hk:k∈q
  · obtain⟨i,e,g1,g2,g3,g4,g5⟩:=hq.yes hK hk
    refine hA_ n hK ho hu hx hy hz hi g5 g2 g3 ?_
    rw[iH_ g2 g3 g4]
    exact hkk es c (by rw[if_pos hk];exact hq)
  · exact bI_ n ho hu hx hy hz hi (hK.ok k) (hq.no hK hk) (hkk _ _ (by rw[if_neg hk];exact hq.push hk c))
theorem pz_ {t kt et:TypeId} {x y:Operand} {mb:Nat} {e:TypeId} {sz:Nat} {l:List (K×D)} {k:K} {Hm F:Hp} (hK:KeyT P kt kv) (hm:gB_ kv cells e sz l mb Hm) (hu:∀ w,(underlying t).run P w=.ok (.map kt et) w) (hz:∀ w,(zeroValue et).run P w=.ok (.slice none 0 0) w)
    (hx:Fr.ev fr x=some (.map (some mb))) (hy:Fr.ev fr y=some (kv k)) (hH:H.Perm (Hm++F)) (hN:Nat.blt d N.n=true)
    (hk:∀ es c i st sv Hk Hr,MOpn kv cells e sz l mb k es c i st Hr→aG_ e sz sv (lat l k).length ((lat l k).flatMap cells) Hk→Ops P R N v0 H0 ops lo Kk ((d,.tuple #[sv,.int .i64 st])::fr) ((mb,.map es c)::(Hk++(Hr++F))) Γ) :
    Ops P R N v0 H0 ops (⟨some d,.mapEntry t x y,ty,ps,af,none⟩::lo) Kk fr H Γ:=by
  obtain⟨es,c,es',c',i,st,sv,Hk,Hr,p1,p2,p3,p4⟩:=hm.entry hK k
  refine dp_ rfl fun a v h1 h2 h3 h4=>?_
  have hp:H.Perm ((mb,.map es c)::(Hk++(Hr++F))):=hH.trans (by
    have:=p1.append_right F
    simpa [List.append_assoc] using this)
  have h2':=h2.perm hp
  have hb:=(h2'.own _ List.mem_cons_self).1
  have hg:=MapKept.run_getObj_map (P:=P) hb
  have he:(execOp a.eval ⟨some d,.mapEntry t x y,ty,ps,af,none⟩).run P v.w=.ok (.value (.tuple #[sv,.int .i64 st])) { v.w with heap:=v.w.heap.setIfInBounds mb (.map es' c') }:=by
    rcases p4 with⟨q1,rfl,rfl,rfl,rfl⟩|⟨j,z,q1,q2,q3,rfl,rfl,rfl⟩
    · have hs:=MapKept.run_setObj_map (P:=P) (.map (es.push ⟨kv k,.slice none 0 0,c⟩) (c+1)) hb
      simp[execOp,h1.ev hx,h1.ev hy,Instr.mapEntry,hu,hg,hK.ok _ _ _,q1 _,hz,hs,goInt]
    · have hs:=MapKept.run_setObj_map (P:=P) (.map es' c') hb
      simp[execOp,h1.ev hx,h1.ev hy,Instr.mapEntry,hu,hg,hK.ok _ _ _,q1 _,Instr.keyThatStays,q2,q3,hK.same,nP_ q2 q3,hs,goInt]
  unfold Oper.wp
  rw[he]
  have hh:=MapKept.heap_set (o':=.map es' c') hb
  obtain⟨g1,g2⟩:=fx_ (i:=0) (o':=.map es' c') (w':={ v.w with heap:=v.w.heap.setIfInBounds mb (.map es' c') }) h2' rfl rfl rfl rfl (Nat.le_refl _) (by simp) hh.1 (fun k hk=>hh.2 k hk)
  simp only[List.set_cons_zero]at g1 g2
  exact hk es' c' i st sv Hk Hr p3 p2 _ _ (h1.put hN) g1 (h3.trans (g2.permL hp.symm)) (aX_ (g2.le h2') h4)
theorem jE_ {t:TypeId} {x y z:Operand} {mb c i:Nat} {e:TypeId} {sz:Nat} {l:List (K×D)} {k:K} {dd:D} {es:Array MapEntry} {st:Int} {sv:Value} {Hk Hr F:Hp} (ho:MOpn kv cells e sz l mb k es c i st Hr) (hr:aG_ e sz sv (lat (l++[(k,dd)]) k).length ((lat (l++[(k,dd)]) k).flatMap cells) Hk)
    (hx:Fr.ev fr x=some (.map (some mb))) (hy:Fr.ev fr y=some (.int .i64 st)) (hz:Fr.ev fr z=some sv) (hH:H.Perm ((mb,.map es c)::(Hk++(Hr++F))))
    (hk:∀ H',gB_ kv cells e sz (l++[(k,dd)]) mb H'→Ops P R N v0 H0 ops lo Kk fr (H'++F) Γ):Ops P R N v0 H0 ops (⟨none,.entryStore t x y z,ty,ps,af,none⟩::lo) Kk fr H Γ:=by
  obtain⟨H',q1,q2⟩:=ho.close dd sv Hk hr
  refine dp_ rfl fun a v h1 h2 h3 h4=>?_
  have h2':=h2.perm hH
  have hb:=(h2'.own _ List.mem_cons_self).1
  have hg:=MapKept.run_getObj_map (P:=P) hb
  have hs:=MapKept.run_setObj_map (P:=P) (.map (es.modify i fun y=>{ y with val:=sv }) c) hb
  have he:(execOp a.eval ⟨none,.entryStore t x y z,ty,ps,af,none⟩).run P v.w=.ok .skip { v.w with heap:=v.w.heap.setIfInBounds mb (.map (es.modify i fun y=>{ y with val:=sv }) c) }:=by
    have hf:=ho.find
    simp[execOp,h1.ev hx,h1.ev hy,h1.ev hz,Instr.entryStore,hg,hs,asInt,asIntOf,hf]
  unfold Oper.wp
  rw[he]
  have hh:=MapKept.heap_set (o':=.map (es.modify i fun y=>{ y with val:=sv }) c) hb
  obtain⟨g1,g2⟩:=fx_ (i:=0) (o':=.map (es.modify i fun y=>{ y with val:=sv }) c) (w':={ v.w with heap:=v.w.heap.setIfInBounds mb (.map (es.modify i fun y=>{ y with val:=sv }) c) }) h2' rfl rfl rfl rfl (Nat.le_refl _) (by simp) hh.1 (fun k hk=>hh.2 k hk)
  simp only[List.set_cons_zero]at g1 g2
  have pp:((mb,Obj.map (es.modify i fun y=>{ y with val:=sv }) c)::(Hk++(Hr++F))).Perm (H'++F):=by
    have:=(q2.append_right F).symm
    simpa [List.append_assoc] using this
  exact hk H' q1 _ _ h1 (g1.perm pp) (h3.trans ((g2.permL hH.symm).subR fun b hb=>((pp.map Prod.fst).mem_iff).2 hb)) (aX_ (g2.le h2') h4)
theorem qF_ {b:Nat×Obj} {O Q F:Hp} (h:H.Perm ((b::(O++Q))++F)):H.Perm (b::(O++(Q++F))):=by simpa [List.append_assoc] using h
theorem ds_ {b:Nat×Obj} {F:Hp} (h:H.Perm ([b]++F)):H.Perm (b::F):=h
theorem cT_ {b:Nat×Obj} {F F':Hp} (h:H.Perm ([b]++F)) (h2:F.Perm F'):H.Perm (b::F'):=List.Perm.trans h (h2.cons b)
end ops
end Go.Sx
namespace Go.Sx
open Go Go.Vs
structure IntE {K:Type} (kv:K→Value) (es:Array MapEntry) (ks:List K) (vs:List Int):Prop where
  keys:es.toList.map (·.key)=ks.map kv
  vals:es.toList.map (·.val)=vs.map fun n=>Value.int .i64 n
  nd:ks.Nodup
section
variable {P:Program} {K:Type} [DecidableEq K] {kv:K→Value} {kt:TypeId} {es:Array MapEntry} {ks:List K} {vs:List Int}
theorem IntE.nil:IntE kv #[] ([]:List K) []:=⟨rfl,rfl,List.nodup_nil⟩
theorem IntE.len (h:IntE kv es ks vs):vs.length=ks.length:=by
  have h1:=congrArg List.length h.keys
  have h2:=congrArg List.length h.vals
  simp only[List.length_map]at h1 h2
  omega
theorem IntE.yes (hK:KeyT P kt kv) (h:IntE kv es ks vs) {k:K} (hk:k∈ks):∃ (i:Nat) (n:Int),ks[i]? = some k∧vs[i]? = some n∧dS_ P kt (kv k) es.toList (some (i,.int .i64 n)):=by
  obtain⟨i,hi⟩:=List.getElem?_of_mem hk
  have hlt:i<es.toList.length:=by
    have:=(List.getElem?_eq_some_iff.1 hi).1
    have e:=congrArg List.length h.keys
    simp only[List.length_map]at e
    omega
  have hx:=List.getElem?_eq_getElem hlt
  have hv:=congrArg (fun l=>l[i]?) h.vals
  simp only[List.getElem?_map,hx,Option.map_some]at hv
  cases hn:vs[i]? with
  | none=>rw[hn]at hv;simp at hv
  | some n =>
    rw[hn]at hv
    simp only[Option.map_some,Option.some.injEq]at hv
    refine⟨i,n,hi,hn,?_⟩
    have:=hK.sf k es.toList ks i _ h.keys h.nd hi hx
    rwa [hv]at this
theorem IntE.no (hK:KeyT P kt kv) (h:IntE kv es ks vs) {k:K} (hk:k ∉ ks):dS_ P kt (kv k) es.toList none:=hK.nf k es.toList ks h.keys hk
theorem IntE.push (h:IntE kv es ks vs) {k:K} (hk:k ∉ ks) (n:Int) (c:Nat):IntE kv (es.push ⟨kv k,.int .i64 n,c⟩) (ks++[k]) (vs++[n]):=by
  refine⟨by simp[h.keys],by simp[h.vals],?_⟩
  rw[List.nodup_append];exact⟨h.nd,by simp,fun a ha b hb e=>by simp at hb;subst hb;subst e;exact hk ha⟩
end
section ops
variable {P:Program} {N:Nf} {v0:Vw} {H0:Hp} {R:Exit→Act→World→Prop} {Kk:List Kt} {fr:Fr} {H:Hp} {Γ:List Fct}
variable {ops:Array Oper} {lo:List Oper} {d:Nat} {ty:TypeId} {ps:String} {af:Array Edge}
variable {K:Type} [DecidableEq K] {kv:K→Value}
theorem nJ_ {o:Op} {t kt et:TypeId} {x y z:Operand} {mb c:Nat} (j:Nat) {es:Array MapEntry} {ks:List K} {vs:List Int} {k:K} {n:Int} (hK:KeyT P kt kv) (ho:o=.insert t x y z∨o=.mapUpdate t x y z) (hu:∀ w,(underlying t).run P w=.ok (.map kt et) w)
    (hx:Fr.ev fr x=some (.map (some mb))) (hy:Fr.ev fr y=some (kv k)) (hz:Fr.ev fr z=some (.int .i64 n)) (hi:H[j]? = some (mb,.map es c)) (hE:IntE kv es ks vs) (hk:k ∉ ks)
    (hkk:∀ es' c',IntE kv es' (ks++[k]) (vs++[n])→Ops P R N v0 H0 ops lo Kk fr (H.set j (mb,.map es' c')) Γ):Ops P R N v0 H0 ops (⟨none,o,ty,ps,af,none⟩::lo) Kk fr H Γ :=
  bI_ j ho hu hx hy hz hi (hK.ok k) (hE.no hK hk) (hkk _ _ (hE.push hk n c))
end ops
def iot (n:Nat):List Int:=(List.range n).map Int.ofNat
theorem sm_ {n i:Nat} {m:Int} (h:(iot n)[i]? = some m):m=i:=by
  unfold iot at h
  rw[List.getElem?_map]at h
  cases hq:(List.range n)[i]? with
  | none=>rw[hq]at h;simp at h
  | some j =>
    rw[hq]at h
    obtain⟨h1,h2⟩:=List.getElem?_eq_some_iff.1 hq
    simp at h2 h
    omega
theorem ie_ (n:Nat):iot (n+1)=iot n++[(n:Int)]:=by simp[iot,List.range_succ]
theorem sl_ (n:Nat):(iot n).length=n:=by simp[iot]
end Go.Sx
namespace Go.Sx
open Go
section
variable {P:Program} {N:Nf} {v0:Vw} {H0:Hp} {R:Exit→Act→World→Prop} {K:List Kt} {fr:Fr} {H F:Hp} {Γ:List Fct} {ops:Array Oper} {l:List Oper} {d:Nat} {ty:TypeId} {ps:String} {af:Array Edge} {e:TypeId} {sz n:Nat} {sv:Value} {xs:List Value} {Hr:Hp}
theorem mJ_ {x y:Operand} {t tn:TypeId} {by':Nat} {k kn:IntKind} (he:Elt P t e sz by') (htn:P.underlying tn=some (.int kn)) (hx:Fr.ev fr x=some (.slice none 0 0)) (hy:Fr.ev fr y=some (.int k (n:Int))) (h0:0<n) (hb:n*by'≤140737488355328) (h63:n≤maxLen) (hN:Nat.blt d N.n=true)
    (hk:∀ (y:Nat×Array Value) (b:Nat),(n≤y.1∧y.1≤maxLen∧y.2.size=y.1*sz)→Ops P R N v0 H0 ops l K ((d,.slice (some ⟨b,0,none⟩) n y.1)::fr) ((b,.cells y.2 e (0,0))::H) Γ) :
    Ops P R N v0 H0 ops (⟨some d,.call ⟨.builtin .append,#[x,y],#[t,tn]⟩,ty,ps,af,none⟩::l) K fr H Γ :=
  jD_ (β:=Nat×Array Value) (x:=fun y b=>.slice (some ⟨b,0,none⟩) n y.1) (o:=fun y=>.cells y.2 e (0,0)) (fun y=>n≤y.1∧y.1≤maxLen∧y.2.size=y.1*sz) hN
    (fun a v h1 h2 h4=>by
      obtain⟨i,z,hi,hz,es,eb,ez⟩:=he.info
      subst es eb
      have hr:=Lib.run_append_nil_zeros (P:=P) v.w t tn ty e i z k kn he.und htn hi hz n h0 he.pos (by simp only[maxLen]at h63;omega) (by omega)
      have h1':=grownCap_ge v.w n 0 e
      have h2':=grownCap_le_maxLen v.w n 0 e h63
      refine⟨(grownCap v.w n 0 e,Builtin.zeroCells z.cells n++Builtin.zeroCells z.cells (grownCap v.w n 0 e - n)),v.w.drew.alloc (.cells (Builtin.zeroCells z.cells n++Builtin.zeroCells z.cells (grownCap v.w n 0 e - n)) e),⟨h1',h2',?_⟩,?_,rfl,rfl,rfl,rfl,by simp⟩
      · simp only[Array.size_append,size_zeroCells,ez,← Nat.add_mul]
        congr 1
        omega
      · simp only[execOp,resolve,invoke,builtin,Sem.run_bind,Sem.run_pure,Result.andThen_ok,List.map_toArray,List.map_cons,List.map_nil,h1.ev hx,h1.ev hy,hr])
    hk
theorem lZ_ {x:Operand} {t:TypeId} {ad:Option Addr} {len cap:Nat} (hu:∀ w,(underlying t).run P w=.ok (.slice e) w) (hx:Fr.ev fr x=some (.slice ad len cap)) :
    Yld P N fr H Γ (.call ⟨.builtin .cap,#[x],#[t]⟩) ty (.int .i64 (cap:Int)) :=
  fun a v h1 _ _ _ _ _=>by simp[execOp,resolve,invoke,builtin,Builtin.cap_,hu,h1.ev hx,goInt]
theorem pf_ {b cap:Nat} {cur:Array Value} (h1:cap≤maxLen) (h2:cur.size=cap*sz):aG_ e sz (.slice (some ⟨b,0,none⟩) 0 cap) 0 [] [(b,.cells cur e (0,0))] :=
  ⟨by simp,.inr ⟨b,cap,cur,rfl,rfl,Nat.zero_le _,h1,h2,by simp⟩⟩
end
end Go.Sx
namespace Go.Sx
open Go
theorem qT_ {P:Program} {kt:TypeId} {kd:IntKind} (hu:P.underlying kt=some (.int kd)):KeyT P kt (fun n:Int=>.int kd n) where
  ok:=fun k=>ca_ hu
  nf:=fun k es ks h hk=>bz_ hu (by
    have:∀ (ks:List Int) (es:List MapEntry) (i:Nat),es.map (·.key)=ks.map (fun n:Int=>Value.int kd n)→k ∉ ks→Instr.findNow (.int kd) (.int kd k) es i=some none:=by
      intro ks
      induction ks with
      | nil => intro es i h _; have : es = [] := by simpa using h
               subst this;rfl
      | cons q ks ih =>
        intro es i h hk
        cases es with
        | nil=>simp at h
        | cons e es =>
          simp only[List.map_cons,List.cons.injEq]at h
          simp only[List.mem_cons,not_or]at hk
          have hs:Instr.sameNow (.int kd) (.int kd k) e.key=some false:=by
            rw[h.1];simp[Instr.sameNow,hk.1]
          simp only[Instr.findNow,hs]
          exact ih es (i+1) h.2 hk.2
    exact this ks es 0 h hk)
  sf:=fun k es ks i e h hn hi he=>bz_ hu (by
    have:∀ (ks:List Int) (es:List MapEntry) (j i:Nat),es.map (·.key)=ks.map (fun n:Int=>Value.int kd n)→ks.Nodup→ks[i]? = some k→es[i]? = some e→Instr.findNow (.int kd) (.int kd k) es j=some (some (j+i,e.val)):=by
      intro ks
      induction ks with
      | nil=>intro es j i _ _ h;simp at h
      | cons q ks ih =>
        intro es j i h hn hi he
        cases es with
        | nil=>simp at h
        | cons x es =>
          simp only[List.map_cons,List.cons.injEq]at h
          rw[List.nodup_cons]at hn
          cases i with
          | zero =>
            simp only[List.getElem?_cons_zero,Option.some.injEq]at hi he
            subst hi;subst he
            have hs:Instr.sameNow (.int kd) (.int kd q) x.key=some true:=by
              rw[h.1];simp[Instr.sameNow]
            simp only[Instr.findNow,hs,Nat.add_zero]
          | succ i =>
            simp only[List.getElem?_cons_succ]at hi he
            have hne:k≠q:=fun e=>hn.1 (e▸List.mem_of_getElem? hi)
            have hs:Instr.sameNow (.int kd) (.int kd k) x.key=some false:=by
              rw[h.1];simp[Instr.sameNow,hne]
            simp only[Instr.findNow,hs]
            rw[ih es (j+1) i h.2 hn.2 hi he,show j+1+i=j+(i+1) by omega]
    have:=this ks es 0 i h hn hi he
    rwa [Nat.zero_add]at this)
  same:=fun k=>mj_ 10000 k
end Go.Sx
namespace Go.Sx
open Go
section
variable {P:Program} {N:Nat} {v0:Vw} {H0:Hp} {R:Exit→Act→World→Prop} {Kk:List Kt} {fr:Fr} {H:Hp} {Γ:List Fct}
variable {ops:Array Oper} {lo:List Oper} {d:Nat} {ty:TypeId} {ps:String} {af:Array Edge}
variable {K:Type} [DecidableEq K] {kv:K→Value}
theorem py_ {o:Op} {t kt et:TypeId} {x y z:Operand} {b c:Nat} (n:Nat) {es:Array MapEntry} {q:List K} {k:K} (hK:KeyT P kt kv) (ho:o=.insert t x y z∨o=.mapUpdate t x y z) (hu:∀ w,(underlying t).run P w=.ok (.map kt et) w)
    (hx:Fr.ev fr x=some (.map (some b))) (hy:Fr.ev fr y=some (kv k)) (hz:Fr.ev fr z=some (.bool true)) (hi:H[n]? = some (b,.map es c)) (hq:SetE kv es q)
    (hkk:∀ es' c',SetE kv es' (if k∈q then q else q++[k])→(Born es c→Born es' c')→Ops P R N v0 H0 ops lo Kk fr (H.set n (b,.map es' c')) Γ):Ops P R N v0 H0 ops (⟨none,o,ty,ps,af,none⟩::lo) Kk fr H Γ:=by
  by_cases hk:k∈q
  · obtain⟨i,e,g1,g2,g3,g4,g5⟩:=hq.yes hK hk
    refine hA_ n hK ho hu hx hy hz hi g5 g2 g3 ?_
    rw[iH_ g2 g3 g4]
    exact hkk es c (by rw[if_pos hk];exact hq) id
  · exact bI_ n ho hu hx hy hz hi (hK.ok k) (hq.no hK hk) (hkk _ _ (by rw[if_neg hk];exact hq.push hk c) (fun hB=>hB.push _ _))
theorem kI_ {t kt et:TypeId} {x:Operand} {b c:Nat} (n:Nat) {es:Array MapEntry} (hu:P.underlying t=some (.map kt et)) (hx:Fr.ev fr x=some (.map (some b))) (hi:H[n]? = some (b,.map es c)) (hN:Nat.blt d N=true)
    (hk:∀ r,Ops P R N v0 H0 ops lo Kk ((d,.pointer (some ⟨r,0,none⟩))::fr) ((r,.mapIter (some b) c #[] c)::H) Γ):Ops P R N v0 H0 ops (⟨some d,.range t x,ty,ps,af,none⟩::lo) Kk fr H Γ :=
  gl_ (x:=fun b=>.pointer (some ⟨b,0,none⟩)) hN (fun a v h1 h2 _=>by
    have hb:=(h2.own _ (List.mem_of_getElem? hi)).1
    simp[execOp,h1.ev hx,run_range_map v.w t kt et b es c hu hb]) hk
theorem mH_ {it:Operand} {b r c since c0:Nat} {es:Array MapEntry} {seen:Array Nat} (n m:Nat) (hit:Fr.ev fr it=some (.pointer (some ⟨r,0,none⟩))) (hr:H[n]? = some (r,.mapIter (some b) since seen c0)) (hb:H[m]? = some (b,.map es c)) (hold:∀ x∈es.toList,x.born<since) (hsc:since≤c0) (hN:Nat.blt d N=true)
    (h0:(leftOf es seen).size=0→Ops P R N v0 H0 ops lo Kk ((d,.tuple #[.bool false])::fr) H Γ)
    (hk:∀ e,e∈(leftOf es seen).toList→Ops P R N v0 H0 ops lo Kk ((d,.tuple #[.bool true,e.key,e.val])::fr) (H.set n (r,.mapIter (some b) since (seen.push e.born) c)) Γ):Ops P R N v0 H0 ops (⟨some d,.next it false,ty,ps,af,none⟩::lo) Kk fr H Γ :=
  dp_ rfl fun a v h1 h2 h3 h4=>by
    have hrr:=(h2.own _ (List.mem_of_getElem? hr)).1
    have hbb:=(h2.own _ (List.mem_of_getElem? hb)).1
    unfold Oper.wp
    rcases run_next_at (P:=P) v.w ty r b since c0 seen es c hrr hbb hold hsc with⟨e0,hrun⟩|⟨e,he,w1,hal,hrun⟩
    · have hx:(execOp a.eval ⟨some d,.next it false,ty,ps,af,none⟩).run P v.w=.ok (.value (.tuple #[.bool false])) v.w:=by simp[execOp,h1.ev hit,hrun]
      rw[hx]
      exact h0 e0 _ v (h1.put hN) h2 h3 h4
    · have hx:(execOp a.eval ⟨some d,.next it false,ty,ps,af,none⟩).run P v.w=.ok (.value (.tuple #[.bool true,e.key,e.val])) (ChangeMaps.setBlock w1 r (.mapIter (some b) since (seen.push e.born) c)):=by simp[execOp,h1.ev hit,hrun]
      rw[hx]
      have hr1:w1.heap[r]? = some (.mapIter (some b) since seen c0):=by rcases hal with rfl|rfl<;>exact hrr
      have hlt:r<w1.heap.size:=(Array.getElem?_eq_some_iff.1 hr1).1
      have hw:w1.heap=v.w.heap:=by rcases hal with rfl|rfl<;>rfl
      have hdr:v.w.drawn≤w1.drawn:=by
        rcases hal with rfl|rfl
        · exact Nat.le_refl _
        · exact Nat.le_succ _
      obtain⟨g1,g2⟩:=fx_ (w':=ChangeMaps.setBlock w1 r (.mapIter (some b) since (seen.push e.born) c)) h2 hr (by rcases hal with rfl|rfl<;>rfl) (by rcases hal with rfl|rfl<;>rfl) (by rcases hal with rfl|rfl<;>rfl) hdr (by simp[ChangeMaps.setBlock,hw])
        (by simp only[ChangeMaps.setBlock];rw[Array.getElem?_setIfInBounds_self_of_lt hlt]) (fun k hk=>by simp only[ChangeMaps.setBlock];rw[Array.getElem?_setIfInBounds_ne (Ne.symm hk),hw])
      exact hk e he _ ⟨v.im,_,v.sl⟩ (h1.put hN) g1 (h3.trans g2) (aX_ (g2.le h2) h4)
theorem kk_ {it:Operand} {b r c since:Nat} {es:Array MapEntry} {seen:Array Nat} {e:MapEntry} (n m:Nat) (hit:Fr.ev fr it=some (.pointer (some ⟨r,0,none⟩))) (hr:H[n]? = some (r,.mapIter (some b) since (seen.push e.born) c)) (hb:H[m]? = some (b,.map es c)) (he:e∈es.toList) (hB:Born es c) :
    Yld P N fr H Γ (.entry it) ty (.tuple #[e.key,e.val]) :=
  fun a v h1 h2 _ _ _ _=>by
    have:=run_entry_at (P:=P) v.w r b since seen es c e (h2.own _ (List.mem_of_getElem? hr)).1 (h2.own _ (List.mem_of_getElem? hb)).1 he hB.nd
    simp[execOp,h1.ev hit,this]
structure ItS (kv:K→Value) (es:Array MapEntry) (seen:Array Nat) (done:List K):Prop where
  nd:done.Nodup
  mem:∀ e∈es.toList,seen.contains e.born=true↔∃ k∈done,e.key=kv k
  sub:∀ k∈done,∃ e∈es.toList,e.key=kv k
theorem ItS.nil {es:Array MapEntry}:ItS kv es #[] []:=⟨List.nodup_nil,fun e _=>by simp,fun k hk=>by simp at hk⟩
theorem SetE.entry {es:Array MapEntry} {q:List K} (hE:SetE kv es q) (hi:∀ x y,kv x=kv y→x=y) {x e:MapEntry} (hx:x∈es.toList) (he:e∈es.toList) (h:x.key=e.key):x=e:=by
 obtain⟨i,hi1,hi2⟩:=List.getElem_of_mem hx
 obtain⟨j,hj1,hj2⟩:=List.getElem_of_mem he
 have hl:=congrArg List.length hE.keys
 simp only[List.length_map]at hl
 have key:∀ (k:Nat) (hk:k<es.toList.length),es.toList[k].key=kv (q[k]'(by omega)):=fun k hk=>by
   have:=congrArg (fun l=>l[k]?) hE.keys
   simp only[List.getElem?_map]at this
   rw[List.getElem?_eq_getElem hk,List.getElem?_eq_getElem (by omega)]at this
   simpa using this
 have e1:=key i hi1
 have e2:=key j hj1
 rw[hi2]at e1
 rw[hj2]at e2
 have e3:=hi _ _ (e1.symm.trans (h.trans e2))
 have hij:i=j:=by
   rcases Nat.lt_trichotomy i j with h1|h1|h1
   · exact absurd e3 (List.pairwise_iff_getElem.1 hE.nd i j (by omega) (by omega) h1)
   · exact h1
   · exact absurd e3.symm (List.pairwise_iff_getElem.1 hE.nd j i (by omega) (by omega) h1)
 subst hij
 rw[← hi2,← hj2]
theorem SetE.ofKey {es:Array MapEntry} {q:List K} (hE:SetE kv es q) {e:MapEntry} (he:e∈es.toList):∃ k∈q,e.key=kv k:=by
  have:e.key∈es.toList.map (·.key):=List.mem_map_of_mem he
  rw[hE.keys]at this
  obtain⟨k,hk,h⟩:=List.mem_map.1 this
  exact⟨k,hk,h.symm⟩
theorem ItS.step {es:Array MapEntry} {q:List K} {c:Nat} {seen:Array Nat} {done:List K} {e:MapEntry} (hi:∀ x y,kv x=kv y→x=y) (hE:SetE kv es q) (hB:Born es c) (h:ItS kv es seen done) (he:e∈(leftOf es seen).toList) :
    ∃ k,k∈q∧k ∉ done∧e.key=kv k∧e∈es.toList∧ItS kv es (seen.push e.born) (done++[k]):=by
  unfold leftOf at he
  rw[Array.toList_filter,List.mem_filter]at he
  obtain⟨h1,h2⟩:=he
  obtain⟨k,hk,hkv⟩:=hE.ofKey h1
  have hnd:k ∉ done:=fun hm=>by
    have:=(h.mem e h1).2 ⟨k,hm,hkv⟩
    rw[this]at h2
    simp at h2
  refine⟨k,hk,hnd,hkv,h1,⟨?_,fun x hx=>?_,fun y hy=>?_⟩⟩
  · rw[List.nodup_append];exact⟨h.nd,by simp,fun a ha b hb e=>by simp at hb;subst hb;subst e;exact hnd ha⟩
  · rw[Array.contains_push,Bool.or_eq_true,h.mem x hx,beq_iff_eq]
    constructor
    · rintro (⟨y,hy,hyv⟩|h3)
      · exact⟨y,by simp[hy],hyv⟩
      · have:x=e:=by
          have hn:=hB.nd
          obtain⟨i,hi1,hi2⟩:=List.getElem_of_mem hx
          obtain⟨j,hj1,hj2⟩:=List.getElem_of_mem h1
          have hij:i=j:=by
            rcases Nat.lt_trichotomy i j with g|g|g
            · exact ((List.pairwise_iff_getElem.1 hn i j (by simpa using hi1) (by simpa using hj1) g) (by simp only[List.getElem_map,hi2,hj2,h3])).elim
            · exact g
            · exact ((List.pairwise_iff_getElem.1 hn j i (by simpa using hj1) (by simpa using hi1) g) (by simp only[List.getElem_map,hi2,hj2,h3])).elim
          subst hij
          rw[← hi2,← hj2]
        exact⟨k,by simp,this▸hkv⟩
    · rintro ⟨y,hy,hyv⟩
      rcases List.mem_append.1 hy with hy|hy
      · exact .inl ⟨y,hy,hyv⟩
      · rw[List.mem_singleton]at hy
        subst hy
        exact .inr (congrArg MapEntry.born (hE.entry hi hx h1 (hyv.trans hkv.symm)))
  · rcases List.mem_append.1 hy with hy|hy
    · exact h.sub y hy
    · rw[List.mem_singleton]at hy
      subst hy
      exact⟨e,h1,hkv⟩
theorem ItS.end {es:Array MapEntry} {q:List K} {seen:Array Nat} {done:List K} (hi:∀ x y,kv x=kv y→x=y) (hE:SetE kv es q) (h:ItS kv es seen done) (h0:(leftOf es seen).size=0):done.Perm q:=by
 refine (List.perm_ext_iff_of_nodup h.nd hE.nd).2 fun k=>⟨fun hk=>?_,fun hk=>?_⟩
 ·obtain⟨e,he,hkv⟩:=h.sub k hk
  obtain⟨k',hk',hkv'⟩:=hE.ofKey he
  exact hi _ _ (hkv.symm.trans hkv')▸hk'
 have:kv k∈es.toList.map (·.key):=by rw[hE.keys];exact List.mem_map_of_mem hk
 obtain⟨e,he,hkv⟩:=List.mem_map.1 this
 have hs:seen.contains e.born=true:=by
   cases hc:seen.contains e.born
   · exfalso
     have:e∈(leftOf es seen).toList:=by unfold leftOf;rw[Array.toList_filter,List.mem_filter];exact⟨he,by simp only[hc];rfl⟩
     have h1:=List.length_pos_of_mem this
     simp only[Array.length_toList]at h1
     omega
   · rfl
 obtain⟨k',hk',hkv'⟩:=(h.mem e he).1 hs
 exact hi _ _ (hkv.symm.trans hkv')▸hk'
end
section
variable {P:Program} {N:Nat} {v0:Vw} {H0:Hp} {R:Exit→Act→World→Prop} {K:List Kt} {fr:Fr} {H F:Hp} {Γ:List Fct}
def lT_ {σ:Type} (v0:Vw) (H0:Hp) (Hj:σ→Hp) (ok:σ→Prop) (HL:Hp):Exit→Act→World→Prop
  | .normal,_,w=>∃ s' v,ok s'∧v.w=w∧v.sat (Hj s'++HL)∧v0.to H0 v (Hj s'++HL)
  | _,_,_=>False
theorem gE_ {σ ι:Type} {l D:Nat} {rec:Loop} {pm:Nat} {x:Value} {Hj:σ→Hp} {s:σ} {ok:σ→Prop} (frA:ι→Fr) (HA:ι→Hp)
    (hp:rec.params=#[pm]) (hst:rec.state=.ready) (hpe:rec.pending=none) (ht:Fr.sat N fr ⟨rec.tmps,[]⟩) (hpm:Nat.blt pm N=true)
    (hassign:∀ n v0 H0 HL,gA_ (Fence.wide.inRound l) n P (Mid N v0 H0 frA (fun i=>HA i++HL) (fun _=>Γ)) N [] v0 H0 rec.assign [] ((pm,x)::fr) (Hj s++HL) Γ)
    (hbody:∀ n v0 H0 HL i,gA_ (Fence.wide.inRound l) n P (lT_ v0 H0 Hj ok HL) N [] v0 H0 rec.body [] (frA i) (HA i++HL) Γ) :
    im_ P l x (Hj s++HLp l D rec) Γ (fun _:{s':σ // ok s'}=>.bool true) (fun s'=>Hj s'.1++HLp l D rec) (fun _=>[]):=by
  intro v hs hΓ
  have hpl:∀ (X:Hp) r,(X++HLp l D r).Perm ((l,.loop r)::(X++[(D,.deferred (some []))])):=fun X r=>by
    unfold HLp
    exact List.perm_middle
  have hl:v.w.heap[l]? = some (.loop rec):=((hs.perm (hpl _ _)).own _ List.mem_cons_self).1
  refine⟨rec.fn,_,rec.assign,rec.body,run_yield hl (by simp[hp]),fun n=>roundIn_of_wpIn trivial ?_⟩
  have htm:(rec.params.zip #[x]).foldl (fun tmps (t,a)=>tmps.setIfInBounds t a) rec.tmps=rec.tmps.setIfInBounds pm x:=by simp[hp]
  rw[htm]
  have hsat:Fr.sat N ((pm,x)::fr) ⟨rec.tmps.setIfInBounds pm x,[]⟩:=ht.put hpm
  refine wpIn_mono (dk_.1 (hassign n v (Hj s++HLp l D rec) (HLp l D rec)) ⟨rec.tmps.setIfInBounds pm x,[]⟩ v hsat hs (Vw.to.refl _ _) hΓ) ?_
  rintro e a1 w1 ⟨rfl,i,v1,rfl,k1,k2,k3,k4⟩
  have k2':=k2.perm (hpl _ _)
  have hl1:=(k2'.own _ List.mem_cons_self).1
  obtain⟨m1,m2⟩:=ff_ (o':=.loop { rec with state:=.busy }) k2'
  refine⟨_,run_beginRound hl1 hst,?_⟩
  have m3:=m1.perm (hpl (HA i) { rec with state:=.busy }).symm
  have m4:v.to (Hj s++HLp l D rec) ⟨v1.im,v1.w.putObj l (.loop { rec with state:=.busy }),v1.sl⟩ (HA i++HLp l D { rec with state:=.busy }) :=
    (k3.trans ((m2.permL (hpl _ _).symm).subR fun b hb=>((hpl (HA i) { rec with state:=.busy }).map Prod.fst).mem_iff.1 hb))
  have k4':=aX_ (m2.le k2') k4
  refine wpIn_mono (dk_.1 (hbody n v (Hj s++HLp l D rec) (HLp l D { rec with state:=.busy }) i) a1 ⟨v1.im,_,v1.sl⟩ k1 m3 m4 k4') ?_
  intro e2 a2 w2 hq
  cases e2 with
  | normal =>
    obtain⟨s',v2,hok,rfl,q1,q2⟩:=hq
    have q1':=q1.perm (hpl _ _)
    have hl2:=(q1'.own _ List.mem_cons_self).1
    obtain⟨z1,z2⟩:=ff_ (o':=.loop rec) q1'
    have er:({ rec with state:=.ready,pending:=none }:Loop)=rec:=by cases rec;simp_all
    refine⟨_,_,run_endRound none hl2,⟨s',hok⟩,⟨v2.im,v2.w.putObj l (.loop rec),v2.sl⟩,rfl,?_,z1.perm (hpl _ _).symm,trivial,q2.trans ((z2.permL (hpl _ _).symm).subR fun b hb=>((hpl (Hj s') rec).map Prod.fst).mem_iff.1 hb)⟩
    simp[er]
  | ret=>exact hq.elim
  | exit id=>exact hq.elim
  | goto t=>exact hq.elim
  | panic c=>exact hq.elim
  | outgrown=>exact hq.elim
theorem gh_ {σ:Type} {Hj:σ→Hp} {HL G:Hp} {ok:σ→Prop} (s':σ) (hr:ok s') (hH:H.Perm (Hj s'++HL++G)):OkD N [] v0 H0 (lT_ v0 H0 Hj ok HL .normal) fr H Γ :=
  hZ_ (Γ':=[]) hH (fun _ _ _=>trivial) fun a v h1 h2 h3 _=>⟨s',v,hr,rfl,h2,h3⟩
theorem gI_ {σ α:Type} {g:Operand} {pm:Nat} {assign body:Code} {gf:FuncId} {caps:List Value} {Hj:σ→Hp} {Hc:Hp} {Γi:List Fct} (Γx:List Fct) {xv:α→Value} {good:σ→α→Prop} {nx:α→σ→σ→Prop} {Rc:σ→Prop}
    (s0:σ) (hg:Fr.ev fr g=some (.func (.func gf) #[] caps.toArray)) (hH:H.Perm (Hc++Hj s0)) (hΓi:∀ v,v.sat H→az_ Γ v→az_ Γi v)
    (hround:∀ l D (rec:Loop),rec.params=#[pm]→rec.state=.ready→rec.pending=none→Fr.sat N fr ⟨rec.tmps,[]⟩→rec.assign=assign→rec.body=body→∀ s x,good s x →
      im_ P l (xv x) (Hj s++HLp l D rec) Γx (fun _:{s':σ // nx x s s'}=>.bool true) (fun s'=>Hj s'.1++HLp l D rec) (fun _=>[]))
    (hit:∀ l (Gj:σ→Hp),(∀ s x,good s x→im_ P l (xv x) (Gj s) Γx (fun _:{s':σ // nx x s s'}=>.bool true) (fun s'=>Gj s'.1) (fun _=>[])) →
      Tri P gf (.func (.yield l) #[] #[]::caps).toArray (Hc++Gj s0) Γi (fun _:{s':σ // Rc s'}=>.tuple #[]) (fun s'=>Hc++Gj s'.1) (fun _=>[]))
    (hnext:∀ s',Rc s'→∀ D l r,ok_ Fence.wide 0 P R N (nS_ D) v0 H0 K fr (Hc++Hj s'++HLp l D r) Γ) :
    Run P R N v0 H0 (.rangeFunc g #[pm] assign body) K fr H Γ:=by
  intro a v h1 h2 h3 h4
  refine wpIn_wide (n:=0) |>.1 (wpIn_mono (Q:=eu_ Fence.wide 0 P R K) (wpIn_rangeFunc fun fn _=>?_) fun e a w hq=>bH_ K e a w hq)
  obtain⟨a1,a2⟩:=gg_ (w':=v.w.alloc (.deferred (some []))) (o:=.deferred (some [])) h2 rfl rfl rfl rfl (Nat.le_refl _)
  obtain⟨rec,hrec⟩:∃ rec:Loop,rec={ state:=.ready,pending:=none,fn,tmps:=a.tmps,params:=#[pm],assign,body,defers:=v.w.heap.size }:=⟨_,rfl⟩
  obtain⟨b1,b2⟩:=gg_ (w':=(v.w.alloc (.deferred (some []))).alloc (.loop rec)) (o:=.loop rec) a1 rfl rfl rfl rfl (Nat.le_refl _)
  have hsz:(v.w.alloc (Obj.deferred (some []))).heap.size=v.w.heap.size+1:=by simp
  have b1':(⟨v.im,(v.w.alloc (.deferred (some []))).alloc (.loop rec),v.sl⟩:Vw).sat ((v.w.heap.size+1,.loop rec)::(v.w.heap.size,.deferred (some []))::H):=hsz▸b1
  have b2':v.to H ⟨v.im,(v.w.alloc (.deferred (some []))).alloc (.loop rec),v.sl⟩ ((v.w.heap.size+1,.loop rec)::(v.w.heap.size,.deferred (some []))::H):=a2.trans (hsz▸b2)
  have hperm:((v.w.heap.size+1,Obj.loop rec)::(v.w.heap.size,.deferred (some []))::H).Perm (Hc++(Hj s0++HLp (v.w.heap.size+1) v.w.heap.size rec)):=by
    rw[← List.append_assoc]
    exact (List.perm_append_comm (l₁:=HLp (v.w.heap.size+1) v.w.heap.size rec) (l₂:=H)).trans (hH.append_right _)
  have hT:=hit (v.w.heap.size+1) (fun s=>Hj s++HLp (v.w.heap.size+1) v.w.heap.size rec)
    (hround _ _ rec (by rw[hrec]) (by rw[hrec]) (by rw[hrec]) (by rw[hrec];exact⟨h1.size,rfl,h1.val⟩) (by rw[hrec]) (by rw[hrec]))
  have hΓ2:=aX_ (b2'.le h2) (hΓi v h2 h4)
  have hΓ3:=aX_ (b2'.le h2) h4
  have he:=h1.ev hg
  refine⟨v.w.heap.size+1,nS_ v.w.heap.size,(v.w.alloc (.deferred (some []))).alloc (.loop rec),⟨.fn (.func gf) caps.toArray,#[.func (.yield (v.w.heap.size+1)) #[] #[]]⟩,(v.w.alloc (.deferred (some []))).alloc (.loop rec),gf,(.func (.yield (v.w.heap.size+1)) #[] #[]::caps).toArray,_,?_,?_,fun _ _=>trivial,?_,fun h=>(by cases h),callsIn_wide.2 ((hT.run ⟨v.im,_,v.sl⟩ (b1'.perm hperm) hΓ2).mono ?_)⟩
  · rw[hrec];exact run_enterLoop_outer _ _ _ _ _
  · simp only[resolve,rangeCall,List.map_toArray,List.map_cons,List.map_nil,he,Deferred.ofValue]
    rfl
  · have:=hT.callable (.func (.yield (v.w.heap.size+1)) #[] #[]::caps).toArray ((v.w.alloc (.deferred (some []))).alloc (.loop rec))
    simpa [invoke] using this
  · rintro e w' ⟨⟨s',hRc⟩,v',rfl,rfl,g1,g2,g3⟩
    have g3':=b2'.trans (g3.permL hperm.symm)
    have hΓ4:=aX_ (g3'.le h2) h4
    have hsd:∀ D',SatD N D' fr { a with defers:=D'++a.defers }:=fun D'=>⟨⟨h1.size,rfl,h1.val⟩,by show D'++a.defers=D';rw[h1.defers];simp⟩
    have hpl:∀ (X Y:Hp) r,(Y++(X++HLp (v.w.heap.size+1) v.w.heap.size r)).Perm ((v.w.heap.size+1,.loop r)::(Y++X++[(v.w.heap.size,.deferred (some []))])):=fun X Y r=>by
      unfold HLp
      rw[← List.append_assoc]
      exact List.perm_middle
    have q:=g1.perm (hpl (Hj s') Hc rec)
    have hl:=(q.own _ List.mem_cons_self).1
    obtain⟨z1,z2⟩:=ff_ (o':=.loop { rec with state:=.exhausted }) q
    have zp:((v.w.heap.size+1,Obj.loop { rec with state:=.exhausted })::(Hc++Hj s'++[(v.w.heap.size,.deferred (some []))])).Perm (Hc++Hj s'++HLp (v.w.heap.size+1) v.w.heap.size { rec with state:=.exhausted }):=by
      have:=(hpl (Hj s') Hc { rec with state:=.exhausted }).symm
      rw[← List.append_assoc]at this
      exact this
    refine⟨rec.pending,_,run_endLoop hl (by rw[hrec];simp),?_⟩
    have hpn:rec.pending=none:=by rw[hrec]
    split
    case h_2=>rename_i c hc;rw[hpn]at hc;cases hc
    exact hnext s' hRc _ _ _ _ ⟨v'.im,_,v'.sl⟩ (hsd _) (z1.perm zp) (h3.trans (g3'.trans ((z2.permL (hpl _ _ _).symm).subR fun b hb=>(zp.map Prod.fst).mem_iff.2 hb))) (aX_ (z2.le q) hΓ4)
theorem nt_ {σ α:Type} {g:Operand} {pm:Nat} {assign body:Code} {gf:FuncId} {caps:List Value} {Hj:σ→Hp} {Hc:Hp} {Γi:List Fct} {xv:α→Value} {good:σ→α→Prop} {nx:α→σ→σ→Prop} {Rc:σ→Prop}
    (s0:σ) (hg:Fr.ev fr g=some (.func (.func gf) #[] caps.toArray)) (hH:H.Perm (Hc++Hj s0)) (hΓi:∀ v,v.sat H→az_ Γ v→az_ Γi v)
    (hround:∀ l D (rec:Loop),rec.params=#[pm]→rec.state=.ready→rec.pending=none→Fr.sat N fr ⟨rec.tmps,[]⟩→rec.assign=assign→rec.body=body→∀ s x,good s x →
      im_ P l (xv x) (Hj s++HLp l D rec) [] (fun _:{s':σ // nx x s s'}=>.bool true) (fun s'=>Hj s'.1++HLp l D rec) (fun _=>[]))
    (hit:∀ l (Gj:σ→Hp),(∀ s x,good s x→im_ P l (xv x) (Gj s) [] (fun _:{s':σ // nx x s s'}=>.bool true) (fun s'=>Gj s'.1) (fun _=>[])) →
      Tri P gf (.func (.yield l) #[] #[]::caps).toArray (Hc++Gj s0) Γi (fun _:{s':σ // Rc s'}=>.tuple #[]) (fun s'=>Hc++Gj s'.1) (fun _=>[]))
    (hnext:∀ s',Rc s'→∀ D l r,ok_ Fence.wide 0 P R N (nS_ D) v0 H0 K fr (Hc++Hj s'++HLp l D r) Γ) :
    Run P R N v0 H0 (.rangeFunc g #[pm] assign body) K fr H Γ:=
  gI_ [] s0 hg hH hΓi hround hit hnext
end
section
variable {Fc:Fence} {n:Nat} {P:Program} {N:Nat} {D:List Deferred} {v0:Vw} {H0:Hp} {R:Exit→Act→World→Prop} {K:List Kt} {fr:Fr} {H:Hp} {Γ:List Fct}
variable {ops:Array Oper} {l:List Oper} {d:Nat} {ty:TypeId} {ps:String} {af:Array Edge}
theorem kL_ {t e:TypeId} {len sz:Nat} {parts:List (Nat×Operand)} {vs:List (Nat×Value)} {zv:Value} {cs:List Value} (hF:Opn Fc) (hu:∀ w,(underlying t).run P w=.ok (.slice e) w) (hs:∀ w,(sizeOf e).run P w=.ok sz w) (hz:∀ w,(zeroValue e).run P w=.ok zv w)
    (hzl:zv.cells.toList.length=sz) (hp:Nat.blt 0 (len*sz)=true) (hle:Nat.ble (len*sz) 16777216=true) (hx:Fr.evp fr parts=some vs) (hf:jQ_ (fun i=>some (i*sz,sz)) (hj_ zv.cells.toList len) vs=some cs) (hN:Nat.blt d N=true)
    (hk:∀ b,eI_ Fc n P R N D v0 H0 ops l K ((d,.slice (some ⟨b,0,none⟩) len len)::fr) ((b,.cells cs.toArray e (0,0))::H) Γ):eI_ Fc n P R N D v0 H0 ops (⟨some d,.buildSlice t len parts.toArray,ty,ps,af,none⟩::l) K fr H Γ :=
  ej_ rfl fun a v h1 h2 h3 h4=>by
    refine⟨fun f _=>hF.fn f,?_⟩
    rw[semAt_eq rfl]
    have he:(execOp a.eval ⟨some d,.buildSlice t len parts.toArray,ty,ps,af,none⟩).run P v.w=.ok (.value (.slice (some ⟨v.w.heap.size,0,none⟩) len len)) (v.w.alloc (.cells cs.toArray e (0,0))):=by
      have hx':=h1.sat.evp hx
      have hf':=ig_ _ _ _ _ hf
      have hpos:0<len*sz:=by simpa [Nat.blt_eq] using hp
      have hszp:0<sz:=Nat.pos_of_mul_pos_left hpos
      have hle':len*sz≤16777216:=Nat.le_of_ble_eq_true hle
      have hr:=hw_ zv.cells.toList (by omega) len
      rw[hzl]at hr
      simp only[Array.toArray_toList]at hr
      rw[← hr]at hf'
      have hx2:(parts.map fun (i,x)=>(i,a.eval x))=vs:=hx'
      simp only[execOp,Instr.buildSlice,Sem.run_bind,hu,Result.andThen_ok,hs,List.map_toArray,hx2]
      rw[if_neg (by omega),if_neg (by omega)]
      simp only[Sem.run_bind,Sem.run_pure,hz,Result.andThen_ok,hf']
      rfl
    rw[he]
    obtain⟨g1,g2⟩:=gg_ (w':=v.w.alloc (.cells cs.toArray e (0,0))) (o:=.cells cs.toArray e (0,0)) h2 rfl rfl rfl rfl (Nat.le_refl _)
    exact hk v.w.heap.size _ ⟨v.im,_,v.sl⟩ (h1.put hN) g1 (h3.trans g2) (aX_ (g2.le h2) h4)
theorem mN_ {k:Act→World→Prop} {H':Hp} (hH:H.Perm H') (h:OkD N D v0 H0 k fr H' Γ):OkD N D v0 H0 k fr H Γ :=
  fun a v h1 h2 h3 h4=>h a v h1 (h2.perm hH) (h3.subR fun b hb=>(hH.map Prod.fst).mem_iff.2 hb) h4
theorem ho_ {t e:TypeId} {x y:Operand} {b off sz m:Nat} {sv:Value} {xs:List Value} {Hr:Hp} (hF:Opn Fc) (i:Nat) {cur:Array Value} {T:TypeId} (hrow:aG_ e sz sv m xs Hr) (hs:∀ w,(sizeOf t).run P w=.ok 1 w)
    (hx:Fr.ev fr x=some (.pointer (some ⟨b,off,none⟩))) (hy:Fr.ev fr y=some sv) (hi:H[i]? = some (b,.cells cur T (0,0))) (hf:Nat.ble (off+1) cur.size=true)
    (hk:eI_ Fc n P R N D v0 H0 ops l K fr (H.set i (b,.cells (cur.toList.take off++[sv]++cur.toList.drop (off+1)).toArray T (0,0))) Γ):eI_ Fc n P R N D v0 H0 ops (⟨none,.store t x y,ty,ps,af,none⟩::l) K fr H Γ :=
  ei_ hF i hs hx hy hi (by rw[(dL_ hrow).1];rfl) hf (by rw[(dL_ hrow).1];simp[(dL_ hrow).2]) (by rw[(dL_ hrow).1];exact hk)
theorem iF_ {x y:Operand} {t e:TypeId} {sz by' m k c:Nat} {sv:Value} {xs news:List Value} {Hr F:Hp} {ad:Addr} (hF:Opn Fc) (he:Elt P t e sz by') (hrow:aG_ e sz sv m xs Hr)
    (hx:Fr.ev fr x=some sv) (hy:Fr.ev fr y=some (.slice (some ad) k c)) (hH:H.Perm (Hr++F)) (hl:news.length=k*sz) (hnews:∀ v,v.sat H→az_ Γ v→∀ j u,news[j]? = some u→v.w.cell? (ad.add j)=some u) (h1c:∀ u∈news,u.oneCell'=true)
    (h63:m+k≤maxLen) (hb:(m+k)*by'≤140737488355328) (hN:Nat.blt d N=true)
    (hk:∀ sv' Hr',aG_ e sz sv' (m+k) (xs++news) Hr'→eI_ Fc n P R N D v0 H0 ops l K ((d,sv')::fr) (Hr'++F) Γ) :
    eI_ Fc n P R N D v0 H0 ops (⟨some d,.call ⟨.builtin .append,#[x,y],#[t,t]⟩,ty,ps,af,none⟩::l) K fr H Γ :=
  ej_ rfl fun a v h1 h2 h3 h4=>by
    refine⟨fun f _=>hF.fn f,?_⟩
    rw[semAt_eq rfl]
    obtain⟨i,z,hi,hz,es,eb,ez⟩:=he.info
    have g:=h2.perm hH
    have hn:=hnews v h2 h4
    have ho:=hrow.owns g
    obtain⟨v',w',hr,q1,q2,_⟩:=run_append_own (P:=P) v.w 0 t ty e i z sz by' he.und hi hz es eb ez he.pos sv m xs ho ad k c news hl hn h1c h63 hb (Nat.zero_le _)
    obtain⟨a1,a2⟩:=ik_ v.w he.und hi hz es ho hl hn h1c h63 (by rw[eb];exact hb) hr
    obtain⟨Hr',k1,k2,k3⟩:=kS_ hrow g q1 q2 a1 a2
    have e1:a.eval x=sv:=h1.sat.ev hx
    have e2:a.eval y=.slice (some ad) k c:=h1.sat.ev hy
    have hxx:(execOp a.eval ⟨some d,.call ⟨.builtin .append,#[x,y],#[t,t]⟩,ty,ps,af,none⟩).run P v.w=.ok (.value v') w':=by
      simp only[execOp,resolve,invoke,builtin,Sem.run_bind,Sem.run_pure,Result.andThen_ok,List.map_toArray,List.map_cons,List.map_nil,e1,e2,hr]
    rw[hxx]
    exact hk v' Hr' k1 _ ⟨v.im,w',v.sl⟩ (h1.put hN) k2 (h3.trans (k3.permL hH.symm)) (aX_ ((k3.permL hH.symm).le h2) h4)
end
end Go.Sx
namespace Go.Sx
open Go
section
variable {P:Program} {N:Nf} {v0:Vw} {H0:Hp} {R:Exit→Act→World→Prop} {K:List Kt} {fr:Fr} {H F:Hp} {Γ:List Fct} {ops:Array Oper} {l:List Oper} {d:Nat} {ty:TypeId} {ps:String} {af:Array Edge} {e:TypeId} {sz n:Nat} {sv:Value} {xs:List Value} {Hr:Hp}
theorem qN_ (z:List Value) (hz:0<z.length) (n:Nat):madeCells z.toArray (n*z.length)=(hj_ z n).toArray:=hw_ z hz n
theorem mI_ {t:TypeId} {x y:Operand} {by':Nat} {z:Value} (ht:P.underlying t=some (.slice e)) (hi:(P.info? e).map (fun i=>(i.zero,i.size,i.bytes))=some (some z,sz,by')) (hzs:z.cells.toList.length=sz) (hsz:0<sz) (hx:Fr.ev fr x=some (.int .i64 (n:Int))) (hy:Fr.ev fr y=some (.int .i64 (n:Int)))
    (hb:by'*n≤281474976710656) (h63:n≤maxLen) (hN:Nat.blt d N.n=true)
    (hk:∀ sv Hr,aG_ e sz sv n (hj_ z.cells.toList n) Hr→Ops P R N v0 H0 ops l K ((d,sv)::fr) (Hr++H) Γ):Ops P R N v0 H0 ops (⟨some d,.makeSlice t x y,ty,ps,af,none⟩::l) K fr H Γ:=by
  refine gl_ (x:=fun b=>.slice (some ⟨b,0,none⟩) n n) (o:=.cells (hj_ z.cells.toList n).toArray e (0,0)) hN (fun a v h1 _ _=>?_) (fun b=>hk _ [(b,.cells (hj_ z.cells.toList n).toArray e (0,0))] ⟨?_,.inr ⟨b,n,(hj_ z.cells.toList n).toArray,rfl,rfl,Nat.le_refl _,h63,?_,?_⟩⟩)
  · cases h:P.info? e with
    | none=>rw[h]at hi;cases hi
    | some i =>
      rw[h]at hi
      simp only[Option.map_some,Option.some.injEq,Prod.mk.injEq]at hi
      have hb':(i.bytes:Int)*(n:Int)≤281474976710656:=by
        rw[hi.2.2]
        have h:((by'*n:Nat):Int)≤281474976710656:=by omega
        rwa [Int.natCast_mul]at h
      have hr:=run_make (P:=P) v.w t e i z ht h hi.1 .i64 .i64 (n:Int) (n:Int) (by omega) (Int.le_refl _) hb' (by simp only[maxLen]at h63;omega)
      have hm:=qN_ z.cells.toList (by omega) n
      rw[hzs,Array.toArray_toList]at hm
      rw[hi.2.1,Int.toNat_natCast,hm]at hr
      simp only[execOp,h1.ev hx,h1.ev hy]
      simp[hr]
  · rw[gC_,hzs]
  · simp only[List.size_toArray];rw[gC_,hzs]
  · rw[List.toList_toArray,List.take_of_length_le (by rw[gC_,hzs];exact Nat.le_refl _)]
theorem lV_ {α:Type} (f:α→List Value) (z:α):∀ n,hj_ (f z) n=(List.replicate n z).flatMap f
  | 0=>rfl
  | n+1=>by rw[hj_,List.replicate_succ,List.flatMap_cons,lV_ f z n]
end
end Go.Sx
namespace Go.Vs
open Go Go.Sx
def Ky.cells (k:Ky):List Value:=[.int .i64 k.kind,str k.role,str k.atom]
theorem Ky.cells_len (k:Ky):k.cells.length=3:=rfl
def Ky.val (k:Ky):Value:=.agg k.cells.toArray
def Ky.eqb (p q:Ky):Bool:=(p.kind==q.kind)&&((p.role==q.role)&&((p.atom==q.atom)&&true))
theorem Ky.eqb_eq (p q:Ky):p.eqb q=decide (p=q):=by
  rw[Bool.eq_iff_iff];cases p;cases q;simp[Ky.eqb]
theorem Fc.cells_one (p:Fc):p.cells.all Value.oneCell'=true:=rfl
end Go.Vs
namespace Go.Sx
open Go Go.Vs
structure Emt (P:Program) (tF:TypeId) where
  stp:Fc→List Fc→List Fc
  kof:List Fc→List Fc
  St:List Fc→List Fc→Hp→Prop
  fn:FuncId
  caps:List Value
  ef:Fct
  kb:Nat
  fb:Nat
  grows:Grows stp kof
  emit:∀ f nw fm H,St nw fm H→Tri P fn (f.val::caps).toArray H [ef] (fun _:{H':Hp // St (stp f nw) fm H'}=>.tuple #[]) (fun y=>y.1) (fun _=>[])
  known:∀ {nw fm H},St nw fm H→∃ es c,(kb,Obj.map es c)∈H∧SetE Fc.val es (kof nw)
  firm:∀ {nw fm H},St nw fm H→∃ es c q,(fb,Obj.map es c)∈H∧SetE Fc.val es q∧∀ f,f∈q↔f∈fm
  setf:∀ {nw fm H} (f:Fc),St nw fm H→∃ es c q Hr,H.Perm ((fb,Obj.map es c)::Hr)∧SetE Fc.val es q∧(∀ f,f∈q↔f∈fm)∧∀ es' c',SetE Fc.val es' (if f∈q then q else q++[f])→∃ H',St nw (f::fm) H'∧H'.Perm ((fb,Obj.map es' c')::Hr)
section
variable {P:Program} {N:Nf} {v0:Vw} {H0:Hp} {R:Exit→Act→World→Prop} {K:List Kt} {fr:Fr} {H:Hp} {Γ:List Fct}
variable {ops:Array Oper} {l:List Oper} {d:Nat} {ty:TypeId} {ps:String} {af:Array Edge} {tF:TypeId} {E:Emt P tF} {nw fm:List Fc} {Hs F:Hp}
end
structure EngB where
  g:Nat
  pb:Nat
  ab:Nat
  ub:Nat
  ob:Nat
  ib:Nat
  rb:Nat
  sb:Nat
  lad:Option Addr
  lcap:Nat
  lps:List Str
def EngB.cells (B:EngB) {P:Program} {tF:TypeId} (E:Emt P tF):List Value :=
  [.map (some B.pb),.slice B.lad B.lps.length B.lcap,.map (some E.kb),.func (.func E.fn) #[] E.caps.toArray,.map (some B.ab),.map (some B.ub),.map (some B.ob),.map (some B.ib),.map (some B.rb),.map (some B.sb),.map (some E.fb)]
end Go.Sx
namespace Go.Proofs.YtamklbgaipakfaaGreatDoor
open Go Go.Sx Go.Proofs
attribute [local irreducible] Code.wp wpList wpAnyH
open Go.Vs
theorem ri_:Elt Tryz.prog 54 58 10 128:=gU_ Tryz.underlying54 (z:=.agg #[.int .i64 0,str [],str [],str [],str [],str [],str [],.int .i64 0,.int .i64 0,.int .i64 0]) (by kernel_rfl) rfl (by decide)
theorem oS_:Elt Tryz.prog 23 9 1 16:=gU_ Tryz.underlying23 (z:=.string ⟨#[]⟩) (by kernel_rfl) rfl (by decide)
theorem mi_ (s:Str):(aH_ s).all Value.oneCell'=true:=rfl
theorem eV_ (s:Int):(da_ s).all Value.oneCell'=true:=rfl
def gF (B:EngB) (E:Emt Tryz.prog 67):Fct:=bJ_ B.g (.cells (B.cells E).toArray 125 (0,0))
end Go.Proofs.YtamklbgaipakfaaGreatDoor
namespace Go.Proofs.YtamklbgaipakfaaGreatDoor
open Go Go.Sx Go.Proofs
attribute [local irreducible] Code.wp wpList wpAnyH
open Go.Vs
structure NewE where
  g:Nat
  pb:Nat
  kb:Nat
  ab:Nat
  ub:Nat
  ob:Nat
  ib:Nat
  rb:Nat
  sb:Nat
  fb:Nat
  lv:Value
  hm:Hp
  hl:Hp
def NewE.ok (ps:List Pc) (y:NewE):Prop:=gB_ Ky.val Pc.cells 58 10 (pmOf ps) y.pb y.hm∧zR 9 1 aH_ y.lv (sg_ ps) y.hl
def NewE.own (y:NewE):Hp:=(y.g,.cells #[.map (some y.pb),y.lv,.map (some y.kb),.nilFunc,.map (some y.ab),.map (some y.ub),.map (some y.ob),.map (some y.ib),.map (some y.rb),.map (some y.sb),.map (some y.fb)] 125 (0,0))::(y.kb,.map #[] 0)::(y.ab,.map #[] 0)::(y.ub,.map #[] 0)::(y.ob,.map #[] 0)::(y.ib,.map #[] 0)::(y.rb,.map #[] 0)::(y.sb,.map #[] 0)::(y.fb,.map #[] 0)::(y.hm++y.hl)
end Go.Proofs.YtamklbgaipakfaaGreatDoor
namespace Go.Proofs.YtamklbgaipakfaaGreatDoor
open Go Go.Sx Go.Proofs
attribute [local irreducible] Code.wp wpList wpAnyH
open Go.Vs
section
variable {N:Nf} {v0:Vw} {H0:Hp} {fr:Fr}
theorem mL_ {k:Act→World→Prop} {F:Hp}:∀ (B:Hp) {H:Hp} {Γ:List Fct},H.Perm (B++F)→Ok N v0 H0 k fr F (B.reverse.map (fun p=>bJ_ p.1 p.2)++Γ)→Ok N v0 H0 k fr H Γ
  | [],H,Γ,hH,h=>W_ hH h
  | (b,o)::B,H,Γ,hH,h=>by
    refine eL_ (bJ_ b o) (F:=B++F) hH (fun _ h1 h2 _=>⟨h1,h2⟩) ?_
    refine mL_ B (.refl _) ?_
    simpa using h
end
end Go.Proofs.YtamklbgaipakfaaGreatDoor
namespace Go.Proofs.YtamklbgaipakfaaGreatDoor
open Go Go.Sx Go.Proofs
attribute [local irreducible] Code.wp wpList wpAnyH
open Go.Vs
theorem pM_ {P:Program} (w:World) (d:Nat) (t e:TypeId) (a:Option Addr) (l c:Nat) (h:P.underlying t=some (.slice e)):(Op.equalIn (d+1) t (.slice a l c) (.slice none 0 0)).run P w=.ok a.isNone w:=by
  cases a<;>simp[Op.equalIn,run_underlying h]
theorem su_ {P:Program} (w:World) (t e:TypeId) (a:Option Addr) (l c:Nat) (h:P.underlying t=some (.slice e)):(Op.equal t (.slice a l c) (.slice none 0 0)).run P w=.ok a.isNone w:=pM_ w 9999 t e a l c h
theorem qa_ {P:Program} {N:Nf} {fr:Fr} {H:Hp} {Γ:List Fct} {ty t t' e:TypeId} {x y:Operand} {ad:Option Addr} {m c:Nat} (hu:P.underlying t=some (.slice e)) (hx:Fr.ev fr x=some (.slice ad m c)) (hy:Fr.ev fr y=some (.slice none 0 0)):Yld P N fr H Γ (.binOp .eql t x y t') ty (.bool (decide (ad=none))) :=
  fun a v h1 _ _ _ _ _=>by
    have he:decide (ad=none)=ad.isNone:=by cases ad<;>simp
    simp[execOp,h1.ev hx,h1.ev hy,eqGuard,binOp,su_ v.w t e ad m c hu,he]
end Go.Proofs.YtamklbgaipakfaaGreatDoor
namespace Go.Vs
open Go Go.Sx
def hG_ {α:Type} (l:List α) (i:Nat) (Q:Nat→α→Prop):Prop:=∀ j,j<i→∀ a,l[j]? = some a→Q j a
theorem hG_.zero {α:Type} {l:List α} {Q:Nat→α→Prop}:hG_ l 0 Q:=fun j hj=>by omega
theorem hG_.step {α:Type} {l:List α} {i:Nat} {Q:Nat→α→Prop} {a:α} (h:hG_ l i Q) (hr:l[i]? = some a) (hq:Q i a):hG_ l (i+1) Q:=fun j hj b hb=>by
 by_cases e:j=i
 ·subst e;rw[hr]at hb;cases hb;exact hq
 exact h j (by omega) b hb
theorem hG_.done {α:Type} {l:List α} {i:Nat} {Q:Nat→α→Prop} (h:hG_ l i Q) (hi:¬ (i:Int)<(l.length:Int)):∀ j a,l[j]? = some a→Q j a:=fun j a hj =>
  h j (by have:=(List.getElem?_eq_some_iff.1 hj).1;omega) a hj
theorem hG_.all {α:Type} {l:List α} {i:Nat} {Q:α→Prop} (h:hG_ l i fun _ a=>Q a) (hi:¬ (i:Int)<(l.length:Int)):∀ a∈l,Q a:=fun a ha=>by
  obtain⟨j,hj⟩:=List.getElem?_of_mem ha
  exact h.done hi j a hj
end Go.Vs
namespace Go.Vs
open Go Go.Sx
def gW_ (b:Bool):List Value:=[.bool b]
theorem ld_ (b:Bool):(gW_ b).length=1:=rfl
end Go.Vs
namespace Go.Sx
open Go
section
variable {K:Type} [DecidableEq K] {kv:K→Value}
structure KeyE (kv:K→Value) (es:Array MapEntry) (q:List K):Prop where
  keys:es.toList.map (·.key)=q.map kv
  nd:q.Nodup
theorem KeyE.nil:KeyE kv #[] ([]:List K):=⟨rfl,List.nodup_nil⟩
theorem KeyE.ofKey {es:Array MapEntry} {q:List K} (hE:KeyE kv es q) {e:MapEntry} (he:e∈es.toList):∃ k∈q,e.key=kv k:=by
  have:e.key∈es.toList.map (·.key):=List.mem_map_of_mem he
  rw[hE.keys]at this
  obtain⟨k,hk,h⟩:=List.mem_map.1 this
  exact⟨k,hk,h.symm⟩
theorem KeyE.entry {es:Array MapEntry} {q:List K} (hE:KeyE kv es q) (hi:∀ x y,kv x=kv y→x=y) {x e:MapEntry} (hx:x∈es.toList) (he:e∈es.toList) (h:x.key=e.key):x=e:=by
 obtain⟨i,hi1,hi2⟩:=List.getElem_of_mem hx
 obtain⟨j,hj1,hj2⟩:=List.getElem_of_mem he
 have hnd:(es.toList.map (·.key)).Nodup:=by
   rw[hE.keys]
   unfold List.Nodup
   rw[List.pairwise_map]
   exact List.Pairwise.imp (fun {a b} hab e=>hab (hi _ _ e)) hE.nd
 have hij:i=j:=by
   rcases Nat.lt_trichotomy i j with g|g|g
   · exact ((List.pairwise_iff_getElem.1 hnd i j (by simpa using hi1) (by simpa using hj1) g) (by simp only[List.getElem_map,hi2,hj2,h])).elim
   · exact g
   · exact ((List.pairwise_iff_getElem.1 hnd j i (by simpa using hj1) (by simpa using hi1) g) (by simp only[List.getElem_map,hi2,hj2,h])).elim
 subst hij
 rw[← hi2,← hj2]
theorem ItS.stepK {es:Array MapEntry} {q:List K} {c:Nat} {seen:Array Nat} {done:List K} {e:MapEntry} (hi:∀ x y,kv x=kv y→x=y) (hE:KeyE kv es q) (hB:Born es c) (h:ItS kv es seen done) (he:e∈(leftOf es seen).toList) :
    ∃ k,k∈q∧k ∉ done∧e.key=kv k∧e∈es.toList∧ItS kv es (seen.push e.born) (done++[k]):=by
  unfold leftOf at he
  rw[Array.toList_filter,List.mem_filter]at he
  obtain⟨h1,h2⟩:=he
  obtain⟨k,hk,hkv⟩:=hE.ofKey h1
  have hnd:k ∉ done:=fun hm=>by
    have:=(h.mem e h1).2 ⟨k,hm,hkv⟩
    rw[this]at h2
    simp at h2
  have same:∀ x∈es.toList,x.born=e.born→x=e:=fun x hx hb=>by
    have hn:=hB.nd
    obtain⟨i,hi1,hi2⟩:=List.getElem_of_mem hx
    obtain⟨j,hj1,hj2⟩:=List.getElem_of_mem h1
    have hij:i=j:=by
      rcases Nat.lt_trichotomy i j with g|g|g
      · exact ((List.pairwise_iff_getElem.1 hn i j (by simpa using hi1) (by simpa using hj1) g) (by simp only[List.getElem_map,hi2,hj2,hb])).elim
      · exact g
      · exact ((List.pairwise_iff_getElem.1 hn j i (by simpa using hj1) (by simpa using hi1) g) (by simp only[List.getElem_map,hi2,hj2,hb])).elim
    subst hij
    rw[← hi2,← hj2]
  refine⟨k,hk,hnd,hkv,h1,⟨?_,fun x hx=>?_,fun y hy=>?_⟩⟩
  · rw[List.nodup_append];exact⟨h.nd,by simp,fun a ha b hb e=>by simp at hb;subst hb;subst e;exact hnd ha⟩
  · rw[Array.contains_push,Bool.or_eq_true,h.mem x hx,beq_iff_eq]
    constructor
    · rintro (⟨y,hy,hyv⟩|h3)
      · exact⟨y,by simp[hy],hyv⟩
      · have:=same x hx h3
        exact⟨k,by simp,this▸hkv⟩
    · rintro ⟨y,hy,hyv⟩
      rcases List.mem_append.1 hy with hy|hy
      · exact .inl ⟨y,hy,hyv⟩
      · rw[List.mem_singleton]at hy
        subst hy
        exact .inr (congrArg MapEntry.born (hE.entry hi hx h1 (hyv.trans hkv.symm)))
  · rcases List.mem_append.1 hy with hy|hy
    · exact h.sub y hy
    · rw[List.mem_singleton]at hy
      subst hy
      exact⟨e,h1,hkv⟩
theorem ItS.endK {es:Array MapEntry} {q:List K} {seen:Array Nat} {done:List K} (hi:∀ x y,kv x=kv y→x=y) (hE:KeyE kv es q) (h:ItS kv es seen done) (h0:(leftOf es seen).size=0):done.Perm q:=by
 refine (List.perm_ext_iff_of_nodup h.nd hE.nd).2 fun k=>⟨fun hk=>?_,fun hk=>?_⟩
 ·obtain⟨e,he,hkv⟩:=h.sub k hk
  obtain⟨k',hk',hkv'⟩:=hE.ofKey he
  exact hi _ _ (hkv.symm.trans hkv')▸hk'
 have:kv k∈es.toList.map (·.key):=by rw[hE.keys];exact List.mem_map_of_mem hk
 obtain⟨e,he,hkv⟩:=List.mem_map.1 this
 have hs:seen.contains e.born=true:=by
   cases hc:seen.contains e.born
   · exfalso
     have:e∈(leftOf es seen).toList:=by unfold leftOf;rw[Array.toList_filter,List.mem_filter];exact⟨he,by simp only[hc];rfl⟩
     have h1:=List.length_pos_of_mem this
     simp only[Array.length_toList]at h1
     omega
   · rfl
 obtain⟨k',hk',hkv'⟩:=(h.mem e he).1 hs
 exact hi _ _ (hkv.symm.trans hkv')▸hk'
end
end Go.Sx
namespace Go.Sx
open Go
section
variable {P:Program} {ops:Array Oper} {Q:Exit→Act→World→Prop}
theorem nn_ {r n:Nat} {o:Oper} {a:Act} {w:World} {next:Act→World→Prop} (hnd:fr_ o.op=true) (h:o.wp P a w next Q):o.wpIn (Fence.wide.inRound r) n P a w next Q:=by
  refine⟨fun _ _=>trivial,?_⟩
  rw[semAt_eq hnd]
  unfold Oper.wp at h
  generalize (execOp a.eval o).run P w=z at h ⊢
  cases z with
  | ok x w' =>
    cases x with
    | value u=>exact h
    | skip=>exact h
    | defer d=>exact h
    | enter f args=>exact⟨fun q=>(by cases q),(ii_ (F:=Fence.wide) h r).mono fun e w'' q=>by cases e<;>exact q⟩
    | row row args =>
      refine⟨fun q=>(by cases q),fun c cs _=>?_⟩
      obtain⟨u,w'',h1,h2⟩:=h c cs
      exact⟨u,w'',h1,stepsIn_wide.2 h2⟩
    | _=>exact h.elim
  | halt x w'=>cases x<;>first|exact h|exact h.elim
theorem gd_ {r n:Nat} (hnd:(ops.toList.all fun o=>fr_ o.op)=true) (hQ:¬ LetsOut Q):∀ (l:List Nat) (a:Act) (w:World),wpOps P ops Q l a w→wpOpsIn (Fence.wide.inRound r) n P ops Q l a w
 | [],_,_,h=>h
 | i::l,a,w,h=>by
   unfold wpOps at h
   unfold wpOpsIn
   cases ho:ops[i]? with
   | none=>rw[ho]at h;exact gd_ hnd hQ l a w h
   | some o =>
     rw[ho]at h
     simp only at h ⊢
     have hd:fr_ o.op=true:=by
       rw[List.all_eq_true]at hnd
       exact hnd o (by rw[Array.mem_toList_iff];exact Array.mem_of_getElem? ho)
     split
     · rename_i hw
       rw[if_pos hw]at h
       rcases h with h|h
       · exact nn_ hd (Oper.wp_mono (fun a w q=>gd_ hnd hQ l a w q) h)
       · exact absurd h.2 hQ
     · rename_i hw
       rw[if_neg hw]at h
       exact⟨fun _ _=>trivial,gd_ hnd hQ l _ w h⟩
end
section
variable {n:Nat} {P:Program} {N:Nat} {v0:Vw} {H0:Hp} {R:Exit→Act→World→Prop} {K:List Kt} {fr:Fr} {H:Hp} {Γ:List Fct} {ops:Array Oper}
theorem nu_ {r id:Nat} (Hs:Hp) (hm:P.follows .mixedOrders=true) (hnd:(ops.toList.all fun o=>fr_ o.op)=true) (hK:fa_ K=true) (hn:∀ e a w,R e a w→e=.normal)
    (h:Any P R N v0 H0 ops Hs Γ ops.size (Array.replicate ops.size false) [] fr H Γ):gA_ (Fence.wide.inRound r) n P R N [] v0 H0 (.region id ops true) K fr H Γ:=by
  refine dk_.2 fun a v h1 h2 h3 h4=>?_
  refine wpIn_mono (Q:=R) (wpIn_region_draw fun t=>?_) fun e a w q=>by
    obtain rfl:=hn e a w q
    exact it_ hK q
  have hle:v.le ⟨v.im,{ v.w with drawn:=v.w.drawn+1 },v.sl⟩:=⟨fun _ h=>h,fun _ _=>rfl,rfl⟩
  have q:=h a ⟨v.im,{ v.w with drawn:=v.w.drawn+1 },v.sl⟩ h1 ⟨h2.own,h2.nodup,h2.lt⟩ ⟨h3.os,h3.tape,h3.output,h3.size,h3.block,h3.imUp,h3.imNew,h3.hNew,h3.sl,h3.dr.imp (fun h=>h) fun h=>Nat.le_succ_of_le h⟩ (aX_ hle h4)
  refine gd_ hnd (fun⟨a,w,q⟩=>by cases hn _ _ _ q) _ _ _ ?_
  simp only[Region.schedule,hm,Bool.true_or,if_true]
  exact wpAny_sound ops.size t _ a _ (wpAny_of_held _ _ _ _ q)
theorem kb_ {σ:Type} {Hj:σ→Hp} {ok:σ→Prop} {HL:Hp}:∀ e a w,lT_ v0 H0 Hj ok HL e a w→e=.normal
  | .normal,_,_,_=>rfl
instance {σ:Type} {Hj:σ→Hp} {ok:σ→Prop} {HL:Hp}:NoPan (lT_ v0 H0 Hj ok HL):=⟨fun _ _ _ _ _ h=>h⟩
end
end Go.Sx
namespace Go.Vs
open Go Go.Sx
structure Thg where
  kind:Int
  name:Str
deriving DecidableEq
def Thg.cells (t:Thg):List Value:=[.int .i64 t.kind,str t.name]
theorem Thg.cells_len (t:Thg):t.cells.length=2:=rfl
def Thg.val (t:Thg):Value:=.agg t.cells.toArray
def aq_ (x:Pc):List Thg :=
  if x.kind=1∨x.kind=3∨x.kind=8 then [⟨1,x.a⟩]
  else if x.kind=2 then [⟨1,x.a⟩,⟨1,x.b⟩]
  else if x.kind=4 then [⟨2,x.r⟩,⟨1,x.a⟩]
  else if x.kind=5 then [⟨2,x.r⟩]
  else if x.kind=6 then [⟨2,x.r⟩,⟨2,x.s⟩]
  else if x.kind=9 then [⟨3,x.r⟩] else []
def an_ (x:Pc):List Thg :=
  if x.kind=1∨x.kind=2∨x.kind=4∨x.kind=9 then [⟨1,x.c⟩]
  else if x.kind=3 then [⟨2,x.r⟩,⟨1,x.c⟩]
  else if x.kind=5∨x.kind=6 then [⟨2,x.t⟩]
  else if x.kind=7 then [⟨2,x.r⟩]
  else if x.kind=8 then [⟨3,x.r⟩] else []
def dr_ (S:List Str):List Thg:=[⟨1,[42]⟩,⟨1,[33]⟩]++S.map (fun s=>⟨1,s⟩)
inductive Rch (p:List Pc) (S:List Str):Thg→Prop
  | base {t:Thg} (h:t∈dr_ S):Rch p S t
  | give {x:Pc} {t:Thg} (hx:x∈p) (hn:∀ u∈aq_ x,Rch p S u) (ht:t∈an_ x):Rch p S t
def Usb (p:List Pc) (S:List Str) (x:Pc):Prop:=∀ u∈aq_ x,Rch p S u
def bF_ (K:List Thg):List Thg→List Thg
  | []=>[]
  | t::l=>if t∈K then bF_ K l else t::bF_ (K++[t]) l
theorem fu_:∀ (l K:List Thg) (t:Thg),t∈K++bF_ K l↔t∈K∨t∈l
 | [],K,t=>by simp[bF_]
 | u::l,K,t=>by
   rw[bF_]
   by_cases h:u∈K
   · rw[if_pos h,fu_ l K t]
     constructor
     · rintro (q|q)
       · exact .inl q
       · exact .inr (List.mem_cons_of_mem _ q)
     · rintro (q|q)
       · exact .inl q
       · rcases List.mem_cons.1 q with rfl|q
         · exact .inl h
         · exact .inr q
   · rw[if_neg h,show K++u::bF_ (K++[u]) l=(K++[u])++bF_ (K++[u]) l by simp,fu_ l (K++[u]) t]
     simp only[List.mem_append,List.mem_cons,List.not_mem_nil,or_false,or_assoc]
theorem ft_:∀ (l K:List Thg),K.Nodup→(K++bF_ K l).Nodup
 | [],K,h=>by simpa [bF_] using h
 | u::l,K,h=>by
   rw[bF_]
   by_cases hu:u∈K
   · rw[if_pos hu];exact ft_ l K h
   · rw[if_neg hu,show K++u::bF_ (K++[u]) l=(K++[u])++bF_ (K++[u]) l by simp]
     refine ft_ l (K++[u]) ?_
     rw[List.nodup_append]
     exact⟨h,by simp,fun a ha b hb e=>by simp at hb;subst hb;subst e;exact hu ha⟩
theorem nc_ {K l:List Thg} (h:K.Nodup) {t:Thg} (ht:t∈bF_ K l):t ∉ K:=fun hk=>by
  have:=ft_ l K h
  rw[List.nodup_append]at this
  exact this.2.2 t hk t ht rfl
def pnd (K W:List Thg) (t:Thg):Bool:=decide (t ∉ K)||decide (t∈W)
theorem rZ_ {K W l:List Thg} (h:K.Nodup) (t:Thg):pnd (K++bF_ K l) (W++bF_ K l) t=pnd K W t:=by
 unfold pnd
 rw[Bool.eq_iff_iff]
 simp only[Bool.or_eq_true,decide_eq_true_eq,List.mem_append]
 constructor
 ·rintro (q|q|q)
  ·exact .inl fun z=>q (.inl z)
  ·exact .inr q
  exact .inl (nc_ h q)
 rintro (q|q)
 ·by_cases z:t∈bF_ K l
  ·exact .inr (.inr z)
  exact .inl fun w=>w.elim q z
 exact .inr (.inl q)
def dU_ (K W:List Thg) (x:Pc):Nat:=(aq_ x).countP (pnd K W)
theorem iy_ {K W l:List Thg} (h:K.Nodup) (x:Pc):dU_ (K++bF_ K l) (W++bF_ K l) x=dU_ K W x:=by
  unfold dU_
  congr 1
  funext t
  exact rZ_ h t
structure KW (p:List Pc) (S:List Str) (K W:List Thg):Prop where
  snd:∀ t∈K,Rch p S t
  kn:K.Nodup
  sub:∀ t∈W,t∈K
  wn:W.Nodup
theorem KW.ext {p:List Pc} {S:List Str} {K W l:List Thg} (h:KW p S K W) (hl:∀ t∈l,Rch p S t):KW p S (K++bF_ K l) (W++bF_ K l) where
  snd t ht:=((fu_ l K t).1 ht).elim (h.snd t) (hl t)
  kn:=ft_ l K h.kn
  sub t ht:=(List.mem_append.1 ht).elim (fun q=>List.mem_append_left _ (h.sub t q)) (fun q=>List.mem_append_right _ q)
  wn:=by
    have h2:=ft_ l K h.kn
    rw[List.nodup_append]at h2 ⊢
    exact⟨h.wn,h2.2.1,fun a ha b hb=>h2.2.2 a (h.sub a ha) b hb⟩
structure RK (p:List Pc) (S:List Str) (i:Nat) (K:List Thg) (U:List Bool):Prop where
  kw:KW p S K K
  bas:∀ t∈dr_ S,t∈K
  ul:U.length=p.length
  use:∀ (j:Nat) x,p[j]? = some x→U[j]? = some (decide (j<i)&&decide (aq_ x=[]))
  giv:∀ (j:Nat) x,p[j]? = some x→j<i→aq_ x=[]→∀ t∈an_ x,t∈K
structure RI (p:List Pc) (S:List Str) (K W:List Thg) (U:List Bool) (wl:List Int):Prop where
  kw:KW p S K W
  bas:∀ t∈dr_ S,t∈K
  ul:U.length=p.length
  wll:wl.length=p.length
  cnt:∀ (i:Nat) x,p[i]? = some x→wl[i]? = some (dU_ K W x:Int)
  use:∀ (i:Nat) x,p[i]? = some x→U[i]? = some (decide (dU_ K W x=0))
  giv:∀ (i:Nat) x,p[i]? = some x→dU_ K W x=0→∀ t∈an_ x,t∈K
theorem iz_ (K:List Thg) (x:Pc):dU_ K K x=(aq_ x).length:=by
  unfold dU_
  rw[List.countP_eq_length]
  intro t _
  unfold pnd
  by_cases h:t∈K<;>simp[h]
theorem RK.init {p:List Pc} {S:List Str} {K:List Thg} (hK:KW p S K K) (hb:∀ t∈dr_ S,t∈K):RK p S 0 K (List.replicate p.length false) where
  kw:=hK
  bas:=hb
  ul:=by simp
  use j x hj:=by
    have:=(List.getElem?_eq_some_iff.1 hj).1
    rw[List.getElem?_replicate,if_pos this]
    simp
  giv j x _ h:=absurd h (Nat.not_lt_zero _)
theorem RK.skip {p:List Pc} {S:List Str} {i:Nat} {K:List Thg} {U:List Bool} {x:Pc} (h:RK p S i K U) (hx:p[i]? = some x) (hn:aq_ x≠[]):RK p S (i+1) K U where
 kw:=h.kw
 bas:=h.bas
 ul:=h.ul
 use j y hj:=by
   rw[h.use j y hj]
   by_cases e:j=i
   · subst e
     rw[hx,Option.some.injEq]at hj
     subst hj
     simp[hn]
   · congr 2
     rw[decide_eq_decide]
     omega
 giv j y hj hlt he:=by
   by_cases e:j=i
   · subst e
     rw[hx,Option.some.injEq]at hj
     subst hj
     exact absurd he hn
   · exact h.giv j y hj (by omega) he
theorem iW_ {α:Type} {l:List α} {i:Nat} {v:α} (h:i<l.length) (j:Nat):(l.set i v)[j]? = if j=i then some v else l[j]? := by
 rw[List.getElem?_set]
 by_cases e:i=j
 ·subst e;rw[if_pos rfl,if_pos rfl,if_pos h]
 rw[if_neg e,if_neg (fun q=>e q.symm)]
theorem RK.take {p:List Pc} {S:List Str} {i:Nat} {K:List Thg} {U:List Bool} {x:Pc} (h:RK p S i K U) (hx:p[i]? = some x) (hn:aq_ x=[]):RK p S (i+1) (K++bF_ K (an_ x)) (U.set i true) where
 kw:=h.kw.ext fun t ht=>.give (List.mem_of_getElem? hx) (by rw[hn];simp) ht
 bas t ht:=List.mem_append_left _ (h.bas t ht)
 ul:=by rw[List.length_set];exact h.ul
 use j y hj:=by
   have hlt:=(List.getElem?_eq_some_iff.1 hx).1
   rw[iW_ (by rw[h.ul];exact hlt)]
   by_cases e:j=i
   · subst e
     rw[hx,Option.some.injEq]at hj
     subst hj
     simp[hn]
   · rw[if_neg e,h.use j y hj]
     congr 2
     rw[decide_eq_decide]
     omega
 giv j y hj hlt he t ht:=by
   by_cases e:j=i
   · subst e
     rw[hx,Option.some.injEq]at hj
     subst hj
     exact (fu_ _ _ _).2 (.inr ht)
   · exact List.mem_append_left _ (h.giv j y hj (by omega) he t ht)
theorem RK.done {p:List Pc} {S:List Str} {K:List Thg} {U:List Bool} (h:RK p S p.length K U):RI p S K K U (p.map fun x=>((aq_ x).length:Int)) where
  kw:=h.kw
  bas:=h.bas
  ul:=h.ul
  wll:=by simp
  cnt i x hx:=by rw[List.getElem?_map,hx,iz_];rfl
  use i x hx:=by
    have:=(List.getElem?_eq_some_iff.1 hx).1
    rw[h.use i x hx,iz_,decide_eq_true this,Bool.true_and]
    congr 1
    rw[decide_eq_decide,List.length_eq_zero_iff]
  giv i x hx h0:=by
    rw[iz_,List.length_eq_zero_iff]at h0
    exact h.giv i x hx (List.getElem?_eq_some_iff.1 hx).1 h0
structure RJ (p:List Pc) (S:List Str) (t:Thg) (us:List Int) (j:Nat) (K W:List Thg) (U:List Bool) (wl:List Int):Prop where
  kw:KW p S K W
  bas:∀ t∈dr_ S,t∈K
  ul:U.length=p.length
  wll:wl.length=p.length
  tk:t∈K
  tw:t ∉ W
  cnt:∀ (i:Nat) x,p[i]? = some x→wl[i]? = some ((dU_ K W x:Int)+((aq_ x).count t:Int) - ((us.take j).count (i:Int):Int))
  use:∀ (i:Nat) x,p[i]? = some x→U[i]? = some (decide ((dU_ K W x:Int)+((aq_ x).count t:Int) - ((us.take j).count (i:Int):Int)=0))
  giv:∀ (i:Nat) x,p[i]? = some x→(dU_ K W x:Int)+((aq_ x).count t:Int) - ((us.take j).count (i:Int):Int)=0→∀ u∈an_ x,u∈K
theorem ix_ {p:List Pc} {S:List Str} {K W:List Thg} {t:Thg} (h:KW p S K (W++[t])) (x:Pc):dU_ K (W++[t]) x=dU_ K W x+(aq_ x).count t:=by
 have ht:t∈K:=h.sub t (by simp)
 have hw:t ∉ W:=fun q=>by
   have:=h.wn
   rw[List.nodup_append]at this
   exact this.2.2 t q t (by simp) rfl
 unfold dU_
 induction aq_ x with
 | nil=>rfl
 | cons u l ih =>
   rw[List.countP_cons,List.countP_cons,List.count_cons,ih]
   by_cases e:u=t
   · subst e
     have h1:pnd K (W++[u]) u=true:=by simp[pnd]
     have h2:pnd K W u=false:=by simp[pnd,ht,hw]
     rw[h1,h2]
     simp
     omega
   · have h1:pnd K (W++[t]) u=pnd K W u:=by simp[pnd,e]
     rw[h1,beq_eq_false_iff_ne.2 e]
     simp
     omega
theorem RI.pop {p:List Pc} {S:List Str} {K W:List Thg} {U:List Bool} {wl:List Int} {t:Thg} (h:RI p S K (W++[t]) U wl) (us:List Int):RJ p S t us 0 K W U wl where
  kw:=⟨h.kw.snd,h.kw.kn,fun u hu=>h.kw.sub u (List.mem_append_left _ hu),(List.nodup_append.1 h.kw.wn).1⟩
  bas:=h.bas
  ul:=h.ul
  wll:=h.wll
  tk:=h.kw.sub t (by simp)
  tw:=fun q=>(List.nodup_append.1 h.kw.wn).2.2 t q t (by simp) rfl
  cnt i x hx:=by rw[h.cnt i x hx,ix_ h.kw];simp
  use i x hx:=by
    rw[h.use i x hx,ix_ h.kw]
    congr 1
    rw[decide_eq_decide]
    simp
    omega
  giv i x hx h0:=h.giv i x hx (by rw[ix_ h.kw];simp at h0;omega)
def je_ (p:List Pc) (us:List Int) (t:Thg):Prop:=(∀ m∈us,0≤m∧m<p.length)∧∀ (i:Nat) x,p[i]? = some x→us.count (i:Int)=(aq_ x).count t
theorem hp_ (us:List Int) (j:Nat) (m:Int):(us.take j).count m≤us.count m:=(List.take_sublist j us).count_le m
theorem cn_ {us:List Int} {j:Nat} {m:Int} (hm:us[j]? = some m) (k:Int):(us.take (j+1)).count k=(us.take j).count k+if k=m then 1 else 0:=by
 rw[List.take_add_one,hm,List.count_append]
 simp only[Option.toList_some,List.count_cons,List.count_nil,Nat.zero_add]
 by_cases e:k=m
 ·subst e;simp
 rw[if_neg e,if_neg (by rw[beq_iff_eq];exact fun q=>e q.symm)]
section
variable {p:List Pc} {S:List Str} {t:Thg} {us:List Int} {j:Nat} {K W:List Thg} {U:List Bool} {wl:List Int} {i:Nat} {x:Pc} {n:Int}
theorem RJ.pos (h:RJ p S t us j K W U wl) (hu:je_ p us t) (hm:us[j]? = some (i:Int)) (hx:p[i]? = some x):∃ n:Int,wl[i]? = some n∧1≤n∧n≤(aq_ x).length+(aq_ x).length∧n=(dU_ K W x:Int)+((aq_ x).count t:Int) - ((us.take j).count (i:Int):Int):=by
  have h1:=hp_ us (j+1) i
  rw[cn_ hm,if_pos rfl,hu.2 i x hx]at h1
  have h2:dU_ K W x≤(aq_ x).length:=List.countP_le_length
  have h3:(aq_ x).count t≤(aq_ x).length:=List.count_le_length
  exact⟨_,h.cnt i x hx,by omega,by omega,rfl⟩
theorem RJ.skip (h:RJ p S t us j K W U wl) (hu:je_ p us t) (hm:us[j]? = some (i:Int)) (hx:p[i]? = some x) (hn:wl[i]? = some n) (h1:n - 1≠0):RJ p S t us (j+1) K W U (wl.set i (n - 1)) where
 kw:=h.kw
 bas:=h.bas
 ul:=h.ul
 wll:=by rw[List.length_set];exact h.wll
 tk:=h.tk
 tw:=h.tw
 cnt k y hy:=by
   have hlt:=(List.getElem?_eq_some_iff.1 hx).1
   rw[iW_ (by rw[h.wll];exact hlt),cn_ hm]
   by_cases e:k=i
   · subst e
     rw[hx,Option.some.injEq]at hy
     subst hy
     rw[h.cnt k x hx,Option.some.injEq]at hn
     rw[if_pos rfl,if_pos rfl,← hn]
     congr 1
     omega
   · rw[if_neg e,if_neg (by omega),h.cnt k y hy]
     congr 1
 use k y hy:=by
   rw[h.use k y hy,cn_ hm]
   by_cases e:k=i
   · subst e
     obtain⟨m,q1,q2,q3,q4⟩:=h.pos hu hm hy
     rw[hx,Option.some.injEq]at hy
     subst hy
     rw[hn,Option.some.injEq]at q1
     congr 1
     rw[decide_eq_decide,if_pos rfl]
     omega
   · rw[if_neg (by omega)]
     rfl
 giv k y hy h0:=by
   rw[cn_ hm]at h0
   by_cases e:k=i
   · subst e
     rw[hx,Option.some.injEq]at hy
     subst hy
     rw[h.cnt k x hx,Option.some.injEq]at hn
     rw[if_pos rfl]at h0
     omega
   · rw[if_neg (by omega)]at h0
     exact h.giv k y hy h0
theorem nU_ {K W:List Thg} {x:Pc} (h:dU_ K W x=0) {u:Thg} (hu:u∈aq_ x):u∈K:=by
 unfold dU_ at h
 rw[List.countP_eq_zero]at h
 have:=h u hu
 by_cases q:u∈K
 ·exact q
 simp[pnd,q]at this
theorem RJ.take (h:RJ p S t us j K W U wl) (hu:je_ p us t) (hm:us[j]? = some (i:Int)) (hx:p[i]? = some x) (hn:wl[i]? = some n) (h1:n - 1=0):RJ p S t us (j+1) (K++bF_ K (an_ x)) (W++bF_ K (an_ x)) (U.set i true) (wl.set i (n - 1)) where
 kw:=h.kw.ext fun u hg=>.give (List.mem_of_getElem? hx) (fun v hv=>h.kw.snd v (by
   have h9:=hp_ us (j+1) i
   rw[cn_ hm,if_pos rfl,hu.2 i x hx]at h9
   rw[h.cnt i x hx,Option.some.injEq]at hn
   exact nU_ (W:=W) (by omega) hv)) hg
 bas u hb:=List.mem_append_left _ (h.bas u hb)
 ul:=by rw[List.length_set];exact h.ul
 wll:=by rw[List.length_set];exact h.wll
 tk:=List.mem_append_left _ h.tk
 tw:=fun q=>(List.mem_append.1 q).elim h.tw fun q=>nc_ h.kw.kn q h.tk
 cnt k y hy:=by
   have hlt:=(List.getElem?_eq_some_iff.1 hx).1
   rw[iW_ (by rw[h.wll];exact hlt),cn_ hm,iy_ h.kw.kn]
   by_cases e:k=i
   · subst e
     rw[hx,Option.some.injEq]at hy
     subst hy
     rw[h.cnt k x hx,Option.some.injEq]at hn
     rw[if_pos rfl,if_pos rfl,← hn]
     congr 1
     omega
   · rw[if_neg e,if_neg (by omega),h.cnt k y hy]
     congr 1
 use k y hy:=by
   have hlt:=(List.getElem?_eq_some_iff.1 hx).1
   rw[iW_ (by rw[h.ul];exact hlt),cn_ hm,iy_ h.kw.kn]
   by_cases e:k=i
   · subst e
     rw[hx,Option.some.injEq]at hy
     subst hy
     rw[h.cnt k x hx,Option.some.injEq]at hn
     rw[if_pos rfl,if_pos rfl]
     congr 1
     symm
     rw[decide_eq_true_eq]
     omega
   · rw[if_neg e,if_neg (by omega),h.use k y hy]
     rfl
 giv k y hy h0 u hg:=by
   rw[cn_ hm,iy_ h.kw.kn]at h0
   by_cases e:k=i
   · subst e
     rw[hx,Option.some.injEq]at hy
     subst hy
     exact (fu_ _ _ _).2 (.inr hg)
   · rw[if_neg (by omega)]at h0
     exact List.mem_append_left _ (h.giv k y hy h0 u hg)
theorem RJ.done (h:RJ p S t us us.length K W U wl) (hu:je_ p us t):RI p S K W U wl:=by
  have key:∀ (i:Nat) x,p[i]? = some x→(dU_ K W x:Int)+((aq_ x).count t:Int) - ((us.take us.length).count (i:Int):Int)=(dU_ K W x:Int):=fun i x hx=>by
    rw[List.take_length,hu.2 i x hx]
    omega
  refine⟨h.kw,h.bas,h.ul,h.wll,fun i x hx=>by rw[h.cnt i x hx,key i x hx],fun i x hx=>?_,fun i x hx h0=>h.giv i x hx (by rw[key i x hx,h0];rfl)⟩
  rw[h.use i x hx,key i x hx]
  congr 1
  rw[decide_eq_decide]
  omega
end
structure ReachR (p:List Pc) (S:List Str) (K:List Thg) (U:List Bool):Prop where
  known:∀ t,t∈K↔Rch p S t
  kn:K.Nodup
  ul:U.length=p.length
  use:∀ (i:Nat) x,p[i]? = some x→∃ b,U[i]? = some b∧(b=true↔Usb p S x)
theorem RI.end {p:List Pc} {S:List Str} {K:List Thg} {U:List Bool} {wl:List Int} (h:RI p S K [] U wl):ReachR p S K U:=by
  have hz:∀ x,dU_ K [] x=0↔∀ u∈aq_ x,u∈K:=fun x=>by
    unfold dU_
    rw[List.countP_eq_zero]
    simp[pnd]
  have hall:∀ t,Rch p S t→t∈K:=fun t ht=>by
    induction ht with
    | base hb=>exact h.bas _ hb
    | give hx hn hg ih =>
      obtain⟨i,hi⟩:=List.getElem?_of_mem hx
      exact h.giv i _ hi ((hz _).2 ih) _ hg
  refine⟨fun t=>⟨h.kw.snd t,hall t⟩,h.kw.kn,h.ul,fun i x hx=>⟨_,h.use i x hx,?_⟩⟩
  rw[decide_eq_true_eq,hz]
  exact⟨fun q u hu=>h.kw.snd u (q u hu),fun q u hu=>hall u (q u hu)⟩
def hN_ (p:List Pc) (S:List Str):List Thg:=dr_ S++p.flatMap an_
theorem Rch.univ {p:List Pc} {S:List Str} {t:Thg} (h:Rch p S t):t∈hN_ p S:=by
  unfold hN_
  cases h with
  | base h=>exact List.mem_append_left _ h
  | give hx _ ht=>exact List.mem_append_right _ (List.mem_flatMap.2 ⟨_,hx,ht⟩)
theorem dE_ {α:Type} [DecidableEq α]:∀ (l m:List α),l.Nodup→(∀ x∈l,x∈m)→l.length≤m.length
  | [],m,_,_=>Nat.zero_le _
  | a::l,m,h,hs=>by
    have ha:=hs a List.mem_cons_self
    have h2:=List.nodup_cons.1 h
    have:=dE_ l (m.erase a) h2.2 fun x hx=>(List.mem_erase_of_ne (by rintro rfl;exact h2.1 hx)).2 (hs x (List.mem_cons_of_mem _ hx))
    rw[List.length_erase_of_mem ha]at this
    have:=List.length_pos_of_mem ha
    simp only[List.length_cons]
    omega
theorem KW.len {p:List Pc} {S:List Str} {K W:List Thg} (h:KW p S K W):K.length≤(hN_ p S).length:=dE_ K _ h.kn fun t ht=>(h.snd t ht).univ
theorem jN_ (x:Pc):(an_ x).length≤2:=by
  unfold an_
  repeat (first|(split;· simp)|simp)
theorem gm_ (x:Pc):(aq_ x).length≤2:=by
  unfold aq_
  repeat (first|(split;· simp)|simp)
theorem eE_ (p:List Pc) (S:List Str):(hN_ p S).length≤2*p.length+S.length+2:=by
  have:∀ q:List Pc,(q.flatMap an_).length≤2*q.length:=fun q=>by
    induction q with
    | nil=>simp
    | cons x q ih=>have:=jN_ x;rw[List.flatMap_cons,List.length_append,List.length_cons];omega
  have:=this p
  simp only[hN_,dr_,List.length_append,List.length_cons,List.length_nil,List.length_map]
  omega
end Go.Vs
