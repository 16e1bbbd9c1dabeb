/-
  Part of the proof of the law ModuleExact over this seat: the small logic, the data, the contracts of functions (no condition).
-/
import Derived.Test.YtamklbgaipakfaaGreatDoorQModuleExact8
import Derived.Test.YtamklbgaipakfaaGreatDoorQModuleExact1
import Derived.Scope
import Derived.Lib.AppendZeros
import Derived.Test.YtamklbgaipakfaaGreatDoorQModuleExact2
import Derived.Test.YtamklbgaipakfaaGreatDoorQModuleExact3
import Derived.Maps.RangeRun
import Derived.Test.YtamklbgaipakfaaGreatDoorQModuleExact7
import Derived.Test.YtamklbgaipakfaaGreatDoorQModuleExact5
set_option linter.unusedVariables false
set_option linter.unusedSimpArgs false
set_option linter.unusedSectionVars false
set_option maxHeartbeats 1000000
namespace Go.Sx
open Go Go.Vs
theorem oH_ {P:Program} {f:FuncId} {args:Array Value} {H:Hp} {Γ Γ0:List Fct} {ι:Type} {ret:ι→Value} {H':ι→Hp} (B:Hp) (hT:Tri P f args H Γ ret H' (fun _=>[]))
    (hΓ:∀ v:Vw,(∀ p∈B,v.im p.1∧v.w.heap[p.1]? = some p.2)→au_ Γ0 v→au_ Γ v):Tri P f args (B++H) Γ0 ret (fun x=>B++H' x) (fun _=>[]):=by
  refine⟨hT.callable,fun v hs hv=>?_⟩
  have hnd:=hs.nodup
  rw[List.map_append,List.nodup_append]at hnd
  have hlt:∀ p∈B,p.1<v.w.heap.size:=fun p hp=>(Array.getElem?_eq_some_iff.1 (hs.own p (List.mem_append_left _ hp)).1).1
  have h1:(⟨fun b=>v.im b∨b∈B.map Prod.fst,v.w,v.sl⟩:Vw).sat H:=by
    refine⟨fun p hp=>⟨(hs.own p (List.mem_append_right _ hp)).1,fun hi=>?_⟩,hnd.2.1,fun b hb=>?_⟩
    · rcases hi with hi|hi
      · exact (hs.own p (List.mem_append_right _ hp)).2 hi
      · exact hnd.2.2 _ hi _ (List.mem_map_of_mem hp) rfl
    · rcases hb with hb|hb
      · exact hs.lt b hb
      · obtain⟨p,hp,rfl⟩:=List.mem_map.1 hb
        exact hlt p hp
  have hle:v.le ⟨fun b=>v.im b∨b∈B.map Prod.fst,v.w,v.sl⟩:=⟨fun b h=>.inl h,fun _ _=>rfl,rfl⟩
  have h2:=hΓ ⟨fun b=>v.im b∨b∈B.map Prod.fst,v.w,v.sl⟩ (fun p hp=>⟨.inr (List.mem_map_of_mem hp),(hs.own p (List.mem_append_left _ hp)).1⟩) (aR_ hle hv)
  refine (hT.run _ h1 h2).mono ?_
  rintro e w' ⟨x,v',rfl,rfl,g1,_,g3⟩
  have hB:∀ b,b∈B.map Prod.fst→v'.im b:=fun b hb=>g3.imUp b (.inr hb)
  refine⟨x,⟨fun b=>v'.im b∧b ∉ B.map Prod.fst,v'.w,v'.sl⟩,rfl,rfl,⟨fun p hp=>?_,?_,fun b hb=>g1.lt b hb.1⟩,trivial,?_⟩
  · rcases List.mem_append.1 hp with hp|hp
    · refine⟨?_,fun h=>h.2 (List.mem_map_of_mem hp)⟩
      have:=(g3.le h1).block p.1 (.inr (List.mem_map_of_mem hp))
      exact this.trans (hs.own p (List.mem_append_left _ hp)).1
    · exact⟨(g1.own p hp).1,fun h=>(g1.own p hp).2 h.1⟩
  · rw[List.map_append,List.nodup_append]
    refine⟨hnd.1,g1.nodup,fun a ha b hb e=>?_⟩
    subst e
    obtain⟨p,hp,rfl⟩:=List.mem_map.1 hb
    exact (g1.own p hp).2 (hB _ ha)
  · refine⟨g3.os,g3.tape,g3.output,g3.size,fun b hb hn=>g3.block b hb (fun hm=>hn ?_),fun b hb=>⟨g3.imUp b (.inl hb),fun hm=>?_⟩,fun b hb=>?_,fun b hb=>?_,g3.sl,g3.dr⟩
    · rw[List.map_append];exact List.mem_append_right _ hm
    · obtain⟨p,hp,rfl⟩:=List.mem_map.1 hm
      exact (hs.own p (List.mem_append_left _ hp)).2 hb
    · rcases g3.imNew b hb.1 with (h|h)|h|h
      · exact .inl h
      · exact absurd h hb.2
      · exact .inr (.inl (by rw[List.map_append];exact List.mem_append_right _ h))
      · exact .inr (.inr h)
    · rw[List.map_append]at hb ⊢
      rcases List.mem_append.1 hb with h|h
      · exact .inl (List.mem_append_left _ h)
      · exact (g3.hNew b h).imp (List.mem_append_right _) id
structure KeyT (P:Program) (kt:TypeId) {K:Type} [DecidableEq K] (kv:K→Value):Prop where
  ok:∀ k,if_ P kt (kv k)
  nf:∀ (k:K) (es:List MapEntry) (ks:List K),es.map (·.key)=ks.map kv→k ∉ ks→ek_ P kt (kv k) es none
  sf:∀ (k:K) (es:List MapEntry) (ks:List K) (i:Nat) (e:MapEntry),es.map (·.key)=ks.map kv→ks.Nodup→ks[i]? = some k→es[i]? = some e→ek_ P kt (kv k) es (some (i,e.val))
  same:∀ k,Instr.sameBits 10000 (kv k) (kv k)=true
section
variable {P:Program}
theorem mb_ (a b:List UInt8):((⟨a.toArray⟩:ByteArray)==⟨b.toArray⟩)=decide (a=b):=by
  show (a.toArray==b.toArray)=_
  rw[Bool.eq_iff_iff]
  simp
theorem ud_ {kt:TypeId} (hu:P.underlying kt=some .string):KeyT P kt str where
  ok:=fun k e w=>by
    have key:∀ m,(Instr.checkKey e (m+1) kt (str k)).run P w=.ok () w:=fun m=>by simp[Instr.checkKey,run_underlying hu,str]
    exact key 9999
  nf:=fun k es ks h hk=>bk_ hu (by
    have:∀ (ks:List Str) (es:List MapEntry) (i:Nat),es.map (·.key)=ks.map str→k ∉ ks→Instr.findNow .string (str k) es i=some none:=by
      intro ks
      induction ks with
      | nil => intro es i h _; have : es = [] := by simpa using h
               subst this;rfl
      | cons q ks ih =>
        intro es i h hk
        cases es with
        | nil=>simp at h
        | cons e es =>
          simp only[List.map_cons,List.cons.injEq]at h
          simp only[List.mem_cons,not_or]at hk
          have hs:Instr.sameNow .string (str k) e.key=some false:=by
            rw[h.1]
            show some ((⟨k.toArray⟩:ByteArray)==⟨q.toArray⟩)=some false
            rw[mb_,decide_eq_false hk.1]
          simp only[Instr.findNow,hs]
          exact ih es (i+1) h.2 hk.2
    exact this ks es 0 h hk)
  sf:=fun k es ks i e h hn hi he=>bk_ hu (by
    have:∀ (ks:List Str) (es:List MapEntry) (j i:Nat),es.map (·.key)=ks.map str→ks.Nodup→ks[i]? = some k→es[i]? = some e→Instr.findNow .string (str k) es j=some (some (j+i,e.val)):=by
      intro ks
      induction ks with
      | nil=>intro es j i _ _ h;simp at h
      | cons q ks ih =>
        intro es j i h hn hi he
        cases es with
        | nil=>simp at h
        | cons x es =>
          simp only[List.map_cons,List.cons.injEq]at h
          rw[List.nodup_cons]at hn
          cases i with
          | zero =>
            simp only[List.getElem?_cons_zero,Option.some.injEq]at hi he
            subst hi;subst he
            have hs:Instr.sameNow .string (str q) x.key=some true:=by
              rw[h.1]
              show some ((⟨q.toArray⟩:ByteArray)==⟨q.toArray⟩)=some true
              rw[mb_,decide_eq_true rfl]
            simp only[Instr.findNow,hs,Nat.add_zero]
          | succ i =>
            simp only[List.getElem?_cons_succ]at hi he
            have hne:k≠q:=fun e=>hn.1 (e▸List.mem_of_getElem? hi)
            have hs:Instr.sameNow .string (str k) x.key=some false:=by
              rw[h.1]
              show some ((⟨k.toArray⟩:ByteArray)==⟨q.toArray⟩)=some false
              rw[mb_,decide_eq_false hne]
            simp only[Instr.findNow,hs]
            rw[ih es (j+1) i h.2 hn.2 hi he,show j+1+i=j+(i+1) by omega]
    have:=this ks es 0 i h hn hi he
    rwa [Nat.zero_add]at this)
  same:=fun k=>by
    have key:∀ m,Instr.sameBits m (str k) (str k)=true:=fun m=>by
      cases m<;>(show ((⟨k.toArray⟩:ByteArray)==⟨k.toArray⟩)=true;rw[mb_,decide_eq_true rfl])
    exact key 10000
theorem fG_ {K:Type} [DecidableEq K] {kt:TypeId} {fs:Array Field} {kv:K→Value} (hu:P.underlying kt=some (.struct fs)) (hok:∀ k,if_ P kt (kv k)) (heq:∀ p q w,(Op.equal kt (kv p) (kv q)).run P w=.ok (decide (p=q)) w) (hsame:∀ k,Instr.sameBits 10000 (kv k) (kv k)=true):KeyT P kt kv where
  ok:=hok
  nf:=fun k es ks h hk=>(hv_ hu heq k ks es h).1 hk
  sf:=fun k es ks i e h hn hi he=>by
    have key:∀ (ks:List K) (es:List MapEntry) (j i:Nat),es.map (·.key)=ks.map kv→ks.Nodup→ks[i]? = some k→es[i]? = some e→∀ w,(Instr.findAsking kt (kv k) es j).run P w=.ok (some (j+i,e.val)) w:=by
      intro ks
      induction ks with
      | nil=>intro es j i _ _ h;simp at h
      | cons q ks ih =>
        intro es j i h hn hi he w
        cases es with
        | nil=>simp at h
        | cons x es =>
          simp only[List.map_cons,List.cons.injEq]at h
          rw[List.nodup_cons]at hn
          cases i with
          | zero =>
            simp only[List.getElem?_cons_zero,Option.some.injEq]at hi he
            subst hi;subst he
            simp only[Instr.findAsking,Sem.run_bind,h.1,heq,Result.andThen_ok,decide_true,if_true,Sem.run_pure,Nat.add_zero]
          | succ i =>
            simp only[List.getElem?_cons_succ]at hi he
            have hne:k≠q:=fun e=>hn.1 (e▸List.mem_of_getElem? hi)
            simp only[Instr.findAsking,Sem.run_bind,h.1,heq,Result.andThen_ok,hne,decide_false,Bool.false_eq_true,if_false]
            rw[ih es (j+1) i h.2 hn.2 hi he w,show j+1+i=j+(i+1) by omega]
    intro w
    have hnow:∀ (x:MapEntry) (r:List MapEntry),Instr.findNow (.struct fs) (kv k) (x::r) 0=none:=fun x r=>by simp[Instr.findNow,Instr.sameNow]
    cases es with
    | nil=>simp at he
    | cons x r =>
      simp only[Instr.findKey,Sem.run_bind,run_underlying hu,Result.andThen_ok,hnow]
      have:=key ks (x::r) 0 i h hn hi he w
      rwa [Nat.zero_add]at this
  same:=hsame
end
theorem eF_ (n:Nat) {k:IntKind} (i:Int):Instr.sameBits n (.int k i) (.int k i)=true:=by
  cases n<;>simp[Instr.sameBits]
theorem dF_ (n:Nat) (s:List UInt8):Instr.sameBits n (str s) (str s)=true:=by
  cases n<;>(show ((⟨s.toArray⟩:ByteArray)==⟨s.toArray⟩)=true;rw[mb_,decide_eq_true rfl])
theorem hN_ {n:Nat} {l:List Value} (h:∀ v∈l,Instr.sameBits n v v=true):Instr.sameBits (n+1) (.agg l.toArray) (.agg l.toArray)=true:=by
 simp only[Instr.sameBits,BEq.rfl,Bool.true_and,List.all_eq_true]
 intro p hp
 have:∀ (l:List Value),(∀ v∈l,Instr.sameBits n v v=true)→∀ p∈l.zip l,Instr.sameBits n p.1 p.2=true:=by
   intro l
   induction l with
   | nil=>intro _ p hp;simp at hp
   | cons a l ih =>
     intro h p hp
     simp only[List.zip_cons_cons,List.mem_cons]at hp
     rcases hp with rfl|hp
     · exact h a (by simp)
     · exact ih (fun v hv=>h v (by simp[hv])) p hp
 exact this l h p hp
structure Born (es:Array MapEntry) (c:Nat):Prop where
  lt:∀ x∈es.toList,x.born<c
  nd:(es.toList.map (·.born)).Nodup
theorem Born.nil (c:Nat):Born #[] c:=⟨by simp,by simp⟩
theorem Born.push {es:Array MapEntry} {c:Nat} (h:Born es c) (key val:Value):Born (es.push ⟨key,val,c⟩) (c+1):=by
 refine⟨fun x hx=>?_,?_⟩
 ·rw[Array.toList_push,List.mem_append]at hx
  rcases hx with hx|hx
  ·exact Nat.lt_succ_of_lt (h.lt x hx)
  rw[List.mem_singleton]at hx;rw[hx];exact Nat.lt_succ_self _
 rw[Array.toList_push,List.map_append,List.nodup_append]
 refine⟨h.nd,by simp,fun a ha b hb e=>?_⟩
 obtain⟨x,hx,rfl⟩:=List.mem_map.1 ha
 simp at hb
 have:=h.lt x hx
 omega
theorem Born.modify {es:Array MapEntry} {c:Nat} (h:Born es c) (i:Nat) (f:MapEntry→MapEntry) (hf:∀ e,(f e).born=e.born):Born (es.modify i f) c:=by
 have hb:(es.modify i f).toList.map (·.born)=es.toList.map (·.born):=by
   apply List.ext_getElem?
   intro j
   simp only[List.getElem?_map,Array.getElem?_toList,Array.getElem?_modify]
   split
   · cases es[j]? <;> simp[hf]
   · rfl
 refine⟨fun x hx=>?_,by rw[hb];exact h.nd⟩
 have:x.born∈(es.modify i f).toList.map (·.born):=List.mem_map_of_mem hx
 rw[hb]at this
 obtain⟨y,hy,e⟩:=List.mem_map.1 this
 rw[← e];exact h.lt y hy
theorem Born.find {es:Array MapEntry} {c i:Nat} {x:MapEntry} (h:Born es c) (hx:es[i]? = some x):es.findIdx? (fun e=>(e.born:Int)==(x.born:Int))=some i:=by
  rw[Array.findIdx?_eq_some_iff_getElem]
  obtain⟨hi,rfl⟩:=Array.getElem?_eq_some_iff.1 hx
  refine⟨hi,by simp,fun j hj=>?_⟩
  simp only[beq_eq_false_iff_ne,ne_eq,Bool.not_eq_true]
  intro e
  have hji:j<es.size:=Nat.lt_trans hj hi
  have:=h.nd
  rw[List.nodup_iff_pairwise_ne,List.pairwise_iff_getElem]at this
  have:=this j i (by simpa using hji) (by simpa using hi) hj
  simp at this
  exact this (by exact_mod_cast e)
section
variable {K D:Type} [DecidableEq K] (kv:K→Value) (cells:D→List Value) (e:TypeId) (sz:Nat) (l:List (K×D))
def hd_:List K→List MapEntry→Hp→Prop
  | [],[],H=>H=[]
  | k::ks,x::es,H=>∃ Hk Hr,H=Hk++Hr∧x.key=kv k∧aL_ e sz x.val (lat l k).length ((lat l k).flatMap cells) Hk∧hd_ ks es Hr
  | _,_,_=>False
def dZ_ (mb:Nat) (H:Hp):Prop:=∃ ks es c Hr,H=(mb,.map es c)::Hr∧ks.Nodup∧(∀ x∈l,x.1∈ks)∧hd_ kv cells e sz l ks es.toList Hr∧Born es c
end
section
variable {K D:Type} [DecidableEq K] {kv:K→Value} {cells:D→List Value} {e:TypeId} {sz:Nat} {l:List (K×D)}
theorem hd_.keys:∀ {ks:List K} {es:List MapEntry} {H:Hp},hd_ kv cells e sz l ks es H→es.map (·.key)=ks.map kv
  | [],[],_,_=>rfl
  | k::ks,x::es,_,h=>by
    obtain⟨Hk,Hr,_,h1,_,h2⟩:=h
    simp[h1,h2.keys]
  | [],_::_,_,h=>h.elim
  | _::_,[],_,h=>h.elim
theorem hd_.congr {l':List (K×D)}:∀ {ks:List K} {es:List MapEntry} {H:Hp},(∀ k∈ks,lat l' k=lat l k)→hd_ kv cells e sz l ks es H→hd_ kv cells e sz l' ks es H
  | [],[],_,_,h=>h
  | k::ks,x::es,_,hl,h=>by
    obtain⟨Hk,Hr,h0,h1,h2,h3⟩:=h
    exact⟨Hk,Hr,h0,h1,by rw[hl k (by simp)];exact h2,h3.congr fun q hq=>hl q (by simp[hq])⟩
  | [],_::_,_,_,h=>h.elim
  | _::_,[],_,_,h=>h.elim
theorem hd_.get : ∀ {ks : List K} {es : List MapEntry} {H : Hp} {i : Nat} {k : K}, hd_ kv cells e sz l ks es H → ks.Nodup → ks[i]? = some k → ∃ x Hk Hr, es[i]? = some x ∧ H.Perm (Hk ++ Hr) ∧ x.key = kv k ∧ aL_ e sz x.val (lat l k).length ((lat l k).flatMap cells) Hk ∧
      ∀ (l':List (K×D)) (y:MapEntry) (Hk':Hp),y.key=kv k→(∀ q,q≠k→lat l' q=lat l q)→aL_ e sz y.val (lat l' k).length ((lat l' k).flatMap cells) Hk'→∃ H',hd_ kv cells e sz l' ks (es.set i y) H'∧H'.Perm (Hk'++Hr)
  | [],_,_,_,_,_,_,h=>by simp at h
  | _::_,[],_,_,_,h,_,_=>h.elim
  | q::ks,x::es,H,0,k,h,hn,hi=>by
    simp only[List.getElem?_cons_zero,Option.some.injEq]at hi
    subst hi
    rw[List.nodup_cons]at hn
    obtain⟨Hk,Hr,h0,h1,h2,h3⟩:=h
    exact⟨x,Hk,Hr,rfl,h0▸.refl _,h1,h2,fun l' y Hk' g1 g2 g3=>⟨Hk'++Hr,⟨Hk',Hr,rfl,g1,g3,h3.congr fun z hz=>g2 z (fun e=>hn.1 (e▸hz))⟩,.refl _⟩⟩
  | q::ks,x::es,H,i+1,k,h,hn,hi=>by
    simp only[List.getElem?_cons_succ]at hi
    rw[List.nodup_cons]at hn
    obtain⟨Hq,Ho,h0,h1,h2,h3⟩:=h
    obtain⟨y,Hk,Hr,i1,i2,i3,i4,i5⟩:=h3.get hn.2 hi
    have hne:q≠k:=fun e=>hn.1 (e▸List.mem_of_getElem? hi)
    refine⟨y,Hk,Hq++Hr,i1,?_,i3,i4,fun l' z Hk' g1 g2 g3=>?_⟩
    · rw[h0]
      refine (List.Perm.append_left Hq i2).trans ?_
      rw[← List.append_assoc,← List.append_assoc]
      exact List.perm_append_comm.append_right _
    · obtain⟨H',j1,j2⟩:=i5 l' z Hk' g1 g2 g3
      refine⟨Hq++H',⟨Hq,H',rfl,h1,by rw[g2 q hne];exact h2,j1⟩,(List.Perm.append_left Hq j2).trans ?_⟩
      rw[← List.append_assoc,← List.append_assoc]
      exact List.perm_append_comm.append_right _
theorem hd_.push:∀ {ks:List K} {es:List MapEntry} {H:Hp} {k:K} {x:MapEntry} {Hk:Hp},hd_ kv cells e sz l ks es H→x.key=kv k→aL_ e sz x.val (lat l k).length ((lat l k).flatMap cells) Hk→hd_ kv cells e sz l (ks++[k]) (es++[x]) (H++Hk)
  | [],[],_,k,x,Hk,h,h1,h2=>by subst h;exact⟨Hk,[],by simp,h1,h2,rfl⟩
  | q::ks,y::es,_,k,x,Hk,h,h1,h2=>by
    obtain⟨Hq,Hr,rfl,g1,g2,g3⟩:=h
    exact⟨Hq,Hr++Hk,by simp,g1,g2,g3.push h1 h2⟩
  | [],_::_,_,_,_,_,h,_,_=>h.elim
  | _::_,[],_,_,_,_,h,_,_=>h.elim
theorem ip_ {k q:K} {d:D} (h:q≠k):lat (l++[(k,d)]) q=lat l q:=by
  rw[iO_];simp[lat,Ne.symm h]
theorem dc_ {k:K} {d:D}:lat (l++[(k,d)]) k=lat l k++[d]:=by
  rw[iO_];simp[lat]
theorem dZ_.open {P:Program} {kt:TypeId} (hK:KeyT P kt kv) {mb:Nat} {H:Hp} (h:dZ_ kv cells e sz l mb H) (k:K) :
    ∃ es c sv Hk Hr,H.Perm ((mb,.map es c)::(Hk++Hr))∧aL_ e sz sv (lat l k).length ((lat l k).flatMap cells) Hk ∧
      ((ek_ P kt (kv k) es.toList none∧sv=.slice none 0 0∧∀ d sv' Hk',aL_ e sz sv' (lat (l++[(k,d)]) k).length ((lat (l++[(k,d)]) k).flatMap cells) Hk'→∃ H',dZ_ kv cells e sz (l++[(k,d)]) mb H'∧H'.Perm ((mb,.map (es.push ⟨kv k,sv',c⟩) (c+1))::(Hk'++Hr))) ∨
       (∃ i x,ek_ P kt (kv k) es.toList (some (i,sv))∧es[i]? = some x∧x.key=kv k∧x.val=sv∧∀ d sv' Hk',aL_ e sz sv' (lat (l++[(k,d)]) k).length ((lat (l++[(k,d)]) k).flatMap cells) Hk'→∃ H',dZ_ kv cells e sz (l++[(k,d)]) mb H'∧H'.Perm ((mb,.map (es.modify i fun y=>{ y with key:=kv k,val:=sv' }) c)::(Hk'++Hr)))):=by
  obtain⟨ks,es,c,Ho,rfl,hn,hl,hm,hbn⟩:=h
  by_cases hk:k∈ks
  · obtain⟨i,hi⟩:=List.getElem?_of_mem hk
    obtain⟨x,Hk,Hr,g1,g2,g3,g4,g5⟩:=hm.get hn hi
    have hx:es[i]? = some x:=by rw[← Array.getElem?_toList];exact g1
    refine⟨es,c,x.val,Hk,Hr,.cons _ g2,g4,.inr ⟨i,x,hK.sf k es.toList ks i x hm.keys hn hi g1,hx,g3,rfl,fun d sv' Hk' hs=>?_⟩⟩
    obtain⟨H',j1,j2⟩:=g5 (l++[(k,d)]) { x with key:=kv k,val:=sv' } Hk' rfl (fun q hq=>ip_ hq) hs
    refine⟨(mb,.map (es.modify i fun y=>{ y with key:=kv k,val:=sv' }) c)::H',⟨ks,_,c,H',rfl,hn,fun y hy=>?_,?_,hbn.modify i _ fun _=>rfl⟩,.cons _ j2⟩
    · rcases List.mem_append.1 hy with hy|hy
      · exact hl y hy
      · simp at hy;rw[hy];exact hk
    · have e1:(es.modify i fun y=>{ y with key:=kv k,val:=sv' }).toList=es.toList.set i { x with key:=kv k,val:=sv' }:=by
        apply List.ext_getElem?
        intro j
        rw[Array.getElem?_toList,Array.getElem?_modify,List.getElem?_set,Array.getElem?_toList]
        by_cases hij:i=j
        · subst hij
          have hlt:i<es.toList.length:=(List.getElem?_eq_some_iff.1 g1).1
          simp only[if_true,hx,Option.map_some,if_pos hlt]
        · simp[hij]
      rw[e1];exact j1
  · have hlat:lat l k=[]:=by
      apply List.eq_nil_iff_forall_not_mem.2
      intro d hd
      exact hk (hl _ (dz_.1 hd))
    refine⟨es,c,.slice none 0 0,[],Ho,.refl _,by rw[hlat];exact aL_.nil _ _,.inl ⟨hK.nf k es.toList ks hm.keys hk,rfl,fun d sv' Hk' hs=>?_⟩⟩
    refine⟨(mb,.map (es.push ⟨kv k,sv',c⟩) (c+1))::(Ho++Hk'),⟨ks++[k],_,_,_,rfl,?_,fun y hy=>?_,?_,hbn.push _ _⟩,.cons _ List.perm_append_comm⟩
    · rw[List.nodup_append];exact⟨hn,by simp,fun a ha b hb e=>by simp at hb;subst hb;subst e;exact hk ha⟩
    · rcases List.mem_append.1 hy with hy|hy
      · exact List.mem_append_left _ (hl y hy)
      · simp at hy;simp[hy]
    · rw[Array.toList_push]
      exact (hm.congr fun q hq=>ip_ (fun (e:q=k)=>hk (e▸hq))).push rfl hs
structure MOpn (kv:K→Value) (cells:D→List Value) (e:TypeId) (sz:Nat) (l:List (K×D)) (mb:Nat) (k:K) (es:Array MapEntry) (c i:Nat) (st:Int) (Hr:Hp):Prop where
  find:es.findIdx? (fun x=>(x.born:Int)==st)=some i
  close:∀ d sv' Hk',aL_ e sz sv' (lat (l++[(k,d)]) k).length ((lat (l++[(k,d)]) k).flatMap cells) Hk'→∃ H',dZ_ kv cells e sz (l++[(k,d)]) mb H'∧H'.Perm ((mb,.map (es.modify i fun y=>{ y with val:=sv' }) c)::(Hk'++Hr))
theorem qy_ {es:Array MapEntry} {i:Nat} {x:MapEntry} {key:Value} (hx:es[i]? = some x) (hk:x.key=key):(es.modify i fun y=>{ y with key:=key })=es:=by
 apply Array.ext_getElem?
 intro j
 rw[Array.getElem?_modify]
 by_cases hij:i=j
 ·subst hij;rw[if_pos rfl,hx];simp only[Option.map_some];rw[← hk]
 rw[if_neg hij]
theorem dZ_.entry {P:Program} {kt:TypeId} (hK:KeyT P kt kv) {mb:Nat} {H:Hp} (h:dZ_ kv cells e sz l mb H) (k:K) :
    ∃ es c es' c' i st sv Hk Hr,H.Perm ((mb,.map es c)::(Hk++Hr))∧aL_ e sz sv (lat l k).length ((lat l k).flatMap cells) Hk∧MOpn kv cells e sz l mb k es' c' i st Hr ∧
      ((ek_ P kt (kv k) es.toList none∧sv=.slice none 0 0∧es'=es.push ⟨kv k,.slice none 0 0,c⟩∧c'=c+1∧st=(c:Int))∨(∃ j x,ek_ P kt (kv k) es.toList (some (j,sv))∧es[j]? = some x∧x.key=kv k∧es'=es∧c'=c∧st=(x.born:Int))):=by
  have h0:=h
  obtain⟨ks,es,c,Ho,rfl,hn,hl,hm,hbn⟩:=h0
  by_cases hk:k∈ks
  · obtain⟨i,hi⟩:=List.getElem?_of_mem hk
    obtain⟨x,Hk,Hr,g1,g2,g3,g4,g5⟩:=hm.get hn hi
    have hx:es[i]? = some x:=by rw[← Array.getElem?_toList];exact g1
    refine⟨es,c,es,c,i,x.born,x.val,Hk,Hr,.cons _ g2,g4,⟨hbn.find hx,fun d sv' Hk' hs=>?_⟩,.inr ⟨i,x,hK.sf k es.toList ks i x hm.keys hn hi g1,hx,g3,rfl,rfl,rfl⟩⟩
    obtain⟨H',j1,j2⟩:=g5 (l++[(k,d)]) { x with key:=kv k,val:=sv' } Hk' rfl (fun q hq=>ip_ hq) hs
    refine⟨(mb,.map (es.modify i fun y=>{ y with val:=sv' }) c)::H',⟨ks,_,c,H',rfl,hn,fun y hy=>?_,?_,hbn.modify i _ fun _=>rfl⟩,.cons _ j2⟩
    · rcases List.mem_append.1 hy with hy|hy
      · exact hl y hy
      · simp at hy;rw[hy];exact hk
    · have e1:(es.modify i fun y=>{ y with val:=sv' }).toList=es.toList.set i { x with key:=kv k,val:=sv' }:=by
        apply List.ext_getElem?
        intro j
        rw[Array.getElem?_toList,Array.getElem?_modify,List.getElem?_set,Array.getElem?_toList]
        by_cases hij:i=j
        · subst hij
          have hlt:i<es.toList.length:=(List.getElem?_eq_some_iff.1 g1).1
          simp only[if_true,hx,Option.map_some,if_pos hlt]
          rw[← g3]
        · simp[hij]
      rw[e1];exact j1
  · have hlat:lat l k=[]:=by
      apply List.eq_nil_iff_forall_not_mem.2
      intro d hd
      exact hk (hl _ (dz_.1 hd))
    have hb2:=hbn.push (kv k) (.slice none 0 0)
    have hget:(es.push ⟨kv k,.slice none 0 0,c⟩)[es.size]? = some ⟨kv k,.slice none 0 0,c⟩:=by simp
    refine⟨es,c,es.push ⟨kv k,.slice none 0 0,c⟩,c+1,es.size,(c:Int),.slice none 0 0,[],Ho,.refl _,by rw[hlat];exact aL_.nil _ _,⟨hb2.find hget,fun d sv' Hk' hs=>?_⟩,.inl ⟨hK.nf k es.toList ks hm.keys hk,rfl,rfl,rfl,rfl⟩⟩
    have e2:((es.push ⟨kv k,.slice none 0 0,c⟩).modify es.size fun y=>{ y with val:=sv' })=es.push ⟨kv k,sv',c⟩:=by
      apply Array.ext_getElem?
      intro j
      rw[Array.getElem?_modify,Array.getElem?_push,Array.getElem?_push]
      by_cases hj:j=es.size
      · subst hj;simp
      · rw[if_neg (fun q=>hj q.symm),if_neg hj,if_neg hj]
    rw[e2]
    refine⟨(mb,.map (es.push ⟨kv k,sv',c⟩) (c+1))::(Ho++Hk'),⟨ks++[k],_,_,_,rfl,?_,fun y hy=>?_,?_,hbn.push _ _⟩,.cons _ List.perm_append_comm⟩
    · rw[List.nodup_append];exact⟨hn,by simp,fun a ha b hb e=>by simp at hb;subst hb;subst e;exact hk ha⟩
    · rcases List.mem_append.1 hy with hy|hy
      · exact List.mem_append_left _ (hl y hy)
      · simp at hy;simp[hy]
    · rw[Array.toList_push]
      exact (hm.congr fun q hq=>ip_ (fun (e:q=k)=>hk (e▸hq))).push rfl hs
theorem dZ_.nil (mb:Nat) (c:Nat):dZ_ kv cells e sz ([]:List (K×D)) mb [(mb,.map #[] c)]:=⟨[],#[],c,[],rfl,List.nodup_nil,by simp,rfl,Born.nil c⟩
def mlF (P:Program) (kt:TypeId) (kv:K→Value) (cells:D→List Value) (mb:Nat) (l:List (K×D)) (adr:K→Option Addr×Nat):Fct where
  p:=fun v=>v.im mb∧∃ es c,v.w.heap[mb]? = some (.map es c)∧∀ k,bY_ v (adr k).1 ((lat l k).flatMap cells) ∧
    ((ek_ P kt (kv k) es.toList none∧Value.slice (adr k).1 (lat l k).length (adr k).2=.slice none 0 0)∨∃ i,ek_ P kt (kv k) es.toList (some (i,.slice (adr k).1 (lat l k).length (adr k).2)))
  mono:=fun v v' h ⟨h1,es,c,h2,h3⟩=>⟨h.imUp mb h1,es,c,by rw[h.block mb h1];exact h2,fun k=>⟨(al_ _ _).mono v v' h (h3 k).1,(h3 k).2⟩⟩
theorem bo_ {P:Program} {kt:TypeId} {mb:Nat} {adr:K→Option Addr×Nat} {v:Vw} (h:(mlF P kt kv cells mb l adr).p v) (k:K):bY_ v (adr k).1 ((lat l k).flatMap cells):=by
  obtain⟨_,_,_,_,h⟩:=h
  exact (h k).1
theorem rT_ {sv:Value} {n:Nat} {xs:List Value} {Hr:Hp} {v:Vw} (h:aL_ e sz sv n xs Hr) (hv:∀ p∈Hr,v.im p.1∧v.w.heap[p.1]? = some p.2):∃ ad cap,sv=.slice ad n cap∧n≤cap∧cap≤maxLen∧(n≠0→∃ b,ad=some ⟨b,0,none⟩)∧bY_ v ad xs:=by
 rcases h.2 with⟨rfl,rfl,rfl⟩|⟨g,cap,cur,rfl,rfl,h3,h4,h5,h6⟩
 ·have:xs=[]:=List.eq_nil_of_length_eq_zero (by simpa using h.1)
  exact⟨none,0,rfl,Nat.le_refl _,by simp[maxLen],fun h=>absurd rfl h,.inl this⟩
 obtain⟨g1,g2⟩:=hv _ (List.mem_singleton.2 rfl)
 refine⟨some ⟨g,0,none⟩,cap,rfl,h3,h4,fun _=>⟨g,rfl⟩,.inr ⟨g,0,cur,e,(0,0),rfl,g1,g2,fun j x hj=>?_⟩⟩
 rw[← h6,List.getElem?_take]at hj
 split at hj
 ·rw[Nat.zero_add,← Array.getElem?_toList];exact hj
 cases hj
theorem dZ_.lent {P:Program} {kt:TypeId} (hK:KeyT P kt kv) {mb:Nat} {H:Hp} (h:dZ_ kv cells e sz l mb H):∃ adr,∀ v:Vw,(∀ p∈H,v.im p.1∧v.w.heap[p.1]? = some p.2)→(mlF P kt kv cells mb l adr).p v:=by
 have h0:=h
 obtain⟨ks,es,c,Ho,rfl,hn,hl,hm,_⟩:=h0
 have key:∀ k,∃ q:Option Addr×Nat,∀ v:Vw,(∀ p∈(mb,Obj.map es c)::Ho,v.im p.1∧v.w.heap[p.1]? = some p.2)→bY_ v q.1 ((lat l k).flatMap cells)∧((ek_ P kt (kv k) es.toList none∧Value.slice q.1 (lat l k).length q.2=.slice none 0 0)∨∃ i,ek_ P kt (kv k) es.toList (some (i,.slice q.1 (lat l k).length q.2))):=fun k=>by
   by_cases hk:k∈ks
   · obtain⟨i,hi⟩:=List.getElem?_of_mem hk
     obtain⟨x,Hk,Hr,g1,g2,g3,g4,_⟩:=hm.get hn hi
     have hf:=hK.sf k es.toList ks i x hm.keys hn hi g1
     have hsl:∃ ad cap,x.val=.slice ad (lat l k).length cap:=by
       rcases g4.2 with⟨q1,q2,_⟩|⟨g,cap,cur,q1,_⟩
       · exact⟨none,0,by rw[q1,q2]⟩
       · exact⟨_,cap,q1⟩
     obtain⟨ad,cap,hx⟩:=hsl
     refine⟨(ad,cap),fun v hv=>⟨?_,.inr ⟨i,by rw[← hx];exact hf⟩⟩⟩
     obtain⟨ad',cap',e1,_,_,_,hr⟩:=rT_ g4 fun p hp=>hv p (List.mem_cons_of_mem _ (g2.mem_iff.2 (List.mem_append_left _ hp)))
     rw[hx]at e1
     simp only[Value.slice.injEq]at e1
     rw[e1.1];exact hr
   · have hlat:lat l k=[]:=by
       apply List.eq_nil_iff_forall_not_mem.2
       intro d hd
       exact hk (hl _ (dz_.1 hd))
     exact⟨(none,0),fun v hv=>⟨.inl (by rw[hlat];rfl),.inl ⟨hK.nf k es.toList ks hm.keys hk,by rw[hlat];rfl⟩⟩⟩
 refine⟨fun k=>(key k).choose,fun v hv=>?_⟩
 obtain⟨g1,g2⟩:=hv _ List.mem_cons_self
 exact⟨g1,es,c,g2,fun k=>(key k).choose_spec v hv⟩
end
section
variable {P:Program} {K:Type} [DecidableEq K] {kv:K→Value} {kt:TypeId}
structure SetE (kv:K→Value) (es:Array MapEntry) (q:List K):Prop where
  keys:es.toList.map (·.key)=q.map kv
  vals:∀ x∈es.toList,x.val=.bool true
  nd:q.Nodup
theorem SetE.nil:SetE kv #[] ([]:List K):=⟨rfl,by simp,List.nodup_nil⟩
theorem SetE.size {es:Array MapEntry} {q:List K} (h:SetE kv es q):es.size=q.length:=by
  have:=congrArg List.length h.keys
  simpa using this
theorem SetE.yes (hK:KeyT P kt kv) {es:Array MapEntry} {q:List K} (h:SetE kv es q) {k:K} (hk:k∈q):∃ i x,q[i]? = some k∧es[i]? = some x∧x.key=kv k∧x.val=.bool true∧ek_ P kt (kv k) es.toList (some (i,.bool true)):=by
  obtain⟨i,hi⟩:=List.getElem?_of_mem hk
  have hlt:i<es.toList.length:=by
    have:=(List.getElem?_eq_some_iff.1 hi).1
    have e:=congrArg List.length h.keys
    simp at e this ⊢;omega
  have hx:=List.getElem?_eq_getElem hlt
  have hv:=h.vals _ (List.getElem_mem hlt)
  have hkey:es.toList[i].key=kv k:=by
    have:=congrArg (fun l=>l[i]?) h.keys
    simp only[List.getElem?_map,hx,hi,Option.map_some,Option.some.injEq]at this
    exact this
  refine⟨i,es.toList[i],hi,by rw[← Array.getElem?_toList];exact hx,hkey,hv,?_⟩
  have:=hK.sf k es.toList q i _ h.keys h.nd hi hx
  rwa [hv]at this
theorem SetE.no (hK:KeyT P kt kv) {es:Array MapEntry} {q:List K} (h:SetE kv es q) {k:K} (hk:k ∉ q):ek_ P kt (kv k) es.toList none:=hK.nf k es.toList q h.keys hk
theorem SetE.push {es:Array MapEntry} {q:List K} (h:SetE kv es q) {k:K} (hk:k ∉ q) (c:Nat):SetE kv (es.push ⟨kv k,.bool true,c⟩) (q++[k]):=by
 refine⟨by simp[h.keys],fun x hx=>?_,?_⟩
 ·rw[Array.toList_push,List.mem_append]at hx
  rcases hx with hx|hx
  ·exact h.vals x hx
  simp at hx;rw[hx]
 rw[List.nodup_append];exact⟨h.nd,by simp,fun a ha b hb e=>by simp at hb;subst hb;subst e;exact hk ha⟩
end
section ops
variable {P:Program} {N:Nf} {v0:Vw} {H0:Hp} {R:Exit→Act→World→Prop} {Kk:List Kt} {fr:Fr} {H:Hp} {Γ:List Fct}
variable {ops:Array Oper} {lo:List Oper} {d:Nat} {ty:TypeId} {ps:String} {af:Array Edge}
variable {K D:Type} [DecidableEq K] {kv:K→Value} {cells:D→List Value}
theorem cc_ {t kt et:TypeId} {x y:Operand} {mb:Nat} {l:List (K×D)} {adr:K→Option Addr×Nat} {k:K} (hK:KeyT P kt kv) (hu:∀ w,(underlying t).run P w=.ok (.map kt et) w) (hz:∀ w,(zeroValue et).run P w=.ok (.slice none 0 0) w) (hx:Fr.ev fr x=some (.map (some mb))) (hy:Fr.ev fr y=some (kv k))
    (hm:∀ v,v.sat H→au_ Γ v→(mlF P kt kv cells mb l adr).p v):Yld P N fr H Γ (.lookup t x y false) ty (.slice (adr k).1 (lat l k).length (adr k).2) :=
  fun a v h1 h2 h4 _ _ _=>by
    obtain⟨_,es,c,g1,g2⟩:=hm v h2 h4
    have hb:=MapKept.run_getObj_map (P:=P) g1
    rcases (g2 k).2 with⟨q5,q6⟩|⟨i,q5⟩
    · rw[q6];simp[execOp,h1.ev hx,h1.ev hy,Instr.lookup,hu,hb,hK.ok _ _ _,q5 _,hz]
    · simp[execOp,h1.ev hx,h1.ev hy,Instr.lookup,hu,hb,hK.ok _ _ _,q5 _]
theorem en_ {t kt et:TypeId} {x y:Operand} {mb c:Nat} {es:Array MapEntry} {q:List K} {k:K} (hK:KeyT P kt kv) (hu:∀ w,(underlying t).run P w=.ok (.map kt et) w) (hz:∀ w,(zeroValue et).run P w=.ok (.bool false) w) (hx:Fr.ev fr x=some (.map (some mb))) (hy:Fr.ev fr y=some (kv k))
    (hq:SetE kv es q) (hm:∀ v,v.sat H→au_ Γ v→v.w.heap[mb]? = some (.map es c)):Yld P N fr H Γ (.lookup t x y false) ty (.bool (decide (k∈q))):=by
  by_cases hk:k∈q
  · obtain⟨i,_,_,_,_,_,hf⟩:=hq.yes hK hk
    rw[decide_eq_true hk]
    exact fZ_ hu hx hy hm (hK.ok k) hf
  · rw[decide_eq_false hk]
    exact hf_ hu hz hx hy hm (hK.ok k) (hq.no hK hk)
theorem tf_ {t kt et:TypeId} {x:Operand} {mb c:Nat} {es:Array MapEntry} (hu:∀ w,(underlying t).run P w=.ok (.map kt et) w) (hx:Fr.ev fr x=some (.map (some mb))) (hm:∀ v,v.sat H→au_ Γ v→v.w.heap[mb]? = some (.map es c)) :
    Yld P N fr H Γ (.call ⟨.builtin .len,#[x],#[t]⟩) ty (.int .i64 (es.size:Int)) :=
  fun a v h1 h2 h4 _ _ _=>by
    have hb:=MapKept.run_getObj_map (P:=P) (hm v h2 h4)
    simp[execOp,resolve,invoke,builtin,Builtin.len_,h1.ev hx,hu,hb,goInt]
theorem hn_ {o:Op} {t kt et:TypeId} {x y z:Operand} {b c i:Nat} (n:Nat) {es:Array MapEntry} {e:MapEntry} {k:K} {u u':Value} (hK:KeyT P kt kv) (ho:o=.insert t x y z∨o=.mapUpdate t x y z) (hu:∀ w,(underlying t).run P w=.ok (.map kt et) w)
    (hx:Fr.ev fr x=some (.map (some b))) (hy:Fr.ev fr y=some (kv k)) (hz:Fr.ev fr z=some u) (hi:H[n]? = some (b,.map es c)) (hf:ek_ P kt (kv k) es.toList (some (i,u'))) (he:es[i]? = some e) (hek:e.key=kv k)
    (hkk:Ops P R N v0 H0 ops lo Kk fr (H.set n (b,.map (es.modify i fun y=>{ y with key:=kv k,val:=u }) c)) Γ):Ops P R N v0 H0 ops (⟨none,o,ty,ps,af,none⟩::lo) Kk fr H Γ :=
  dW_ rfl fun a v h1 h2 h3 h4=>by
    have hb:=(h2.own _ (List.mem_of_getElem? hi)).1
    have hg:=MapKept.run_getObj_map (P:=P) hb
    have hs:=MapKept.run_setObj_map (P:=P) (.map (es.modify i fun y=>{ y with key:=kv k,val:=u }) c) hb
    have he:(execOp a.eval ⟨none,o,ty,ps,af,none⟩).run P v.w=.ok .skip { v.w with heap:=v.w.heap.setIfInBounds b (.map (es.modify i fun y=>{ y with key:=kv k,val:=u }) c) }:=by
      rcases ho with rfl|rfl<;>simp[execOp,h1.ev hx,h1.ev hy,h1.ev hz,Instr.mapUpdate,hu,hg,hK.ok _ _ _,hf _,hs,Instr.keyThatStays,he,hek,hK.same]
    unfold Oper.wp
    rw[he]
    have hh:=MapKept.heap_set (o':=.map (es.modify i fun y=>{ y with key:=kv k,val:=u }) c) hb
    obtain⟨g1,g2⟩:=gu_ (w':={ v.w with heap:=v.w.heap.setIfInBounds b (.map (es.modify i fun y=>{ y with key:=kv k,val:=u }) c) }) h2 hi rfl rfl rfl (Nat.le_refl _) (by simp) hh.1 (fun k hk=>hh.2 k hk)
    exact hkk a _ h1 g1 (h3.trans g2) (aR_ (g2.le h2) h4)
theorem ku_ {es:Array MapEntry} {i:Nat} {e:MapEntry} {key val:Value} (he:es[i]? = some e) (hk:e.key=key) (hv:e.val=val):(es.modify i fun y=>{ y with key:=key,val:=val })=es:=by
 apply Array.ext_getElem?
 intro j
 rw[Array.getElem?_modify]
 by_cases hij:i=j
 ·subst hij;rw[if_pos rfl,he];simp only[Option.map_some];rw[← hk,← hv]
 rw[if_neg hij]
theorem ji_ {o:Op} {t kt et:TypeId} {x y z:Operand} {b c:Nat} (n:Nat) {es:Array MapEntry} {q:List K} {k:K} (hK:KeyT P kt kv) (ho:o=.insert t x y z∨o=.mapUpdate t x y z) (hu:∀ w,(underlying t).run P w=.ok (.map kt et) w)
    (hx:Fr.ev fr x=some (.map (some b))) (hy:Fr.ev fr y=some (kv k)) (hz:Fr.ev fr z=some (.bool true)) (hi:H[n]? = some (b,.map es c)) (hq:SetE kv es q)
    (hkk:∀ es' c',SetE kv es' (if k∈q then q else q++[k])→Ops P R N v0 H0 ops lo Kk fr (H.set n (b,.map es' c')) Γ):Ops P R N v0 H0 ops (⟨none,o,ty,ps,af,none⟩::lo) Kk fr H Γ:=by
  by_cases hk:k∈q
  · obtain⟨i,e,g1,g2,g3,g4,g5⟩:=hq.yes hK hk
    refine hn_ n hK ho hu hx hy hz hi g5 g2 g3 ?_
    rw[ku_ g2 g3 g4]
    exact hkk es c (by rw[if_pos hk];exact hq)
  · exact bu_ n ho hu hx hy hz hi (hK.ok k) (hq.no hK hk) (hkk _ _ (by rw[if_neg hk];exact hq.push hk c))
theorem dD_ {t kt et:TypeId} {x y:Operand} {mb:Nat} {e:TypeId} {sz:Nat} {l:List (K×D)} {k:K} {Hm F:Hp} (hK:KeyT P kt kv) (hm:dZ_ kv cells e sz l mb Hm) (hu:∀ w,(underlying t).run P w=.ok (.map kt et) w) (hz:∀ w,(zeroValue et).run P w=.ok (.slice none 0 0) w)
    (hx:Fr.ev fr x=some (.map (some mb))) (hy:Fr.ev fr y=some (kv k)) (hH:H.Perm (Hm++F)) (hN:Nat.blt d N.n=true)
    (hk:∀ es c i st sv Hk Hr,MOpn kv cells e sz l mb k es c i st Hr→aL_ e sz sv (lat l k).length ((lat l k).flatMap cells) Hk→Ops P R N v0 H0 ops lo Kk ((d,.tuple #[sv,.int .i64 st])::fr) ((mb,.map es c)::(Hk++(Hr++F))) Γ) :
    Ops P R N v0 H0 ops (⟨some d,.mapEntry t x y,ty,ps,af,none⟩::lo) Kk fr H Γ:=by
  obtain⟨es,c,es',c',i,st,sv,Hk,Hr,p1,p2,p3,p4⟩:=hm.entry hK k
  refine dW_ rfl fun a v h1 h2 h3 h4=>?_
  have hp:H.Perm ((mb,.map es c)::(Hk++(Hr++F))):=hH.trans (by
    have:=p1.append_right F
    simpa [List.append_assoc] using this)
  have h2':=h2.perm hp
  have hb:=(h2'.own _ List.mem_cons_self).1
  have hg:=MapKept.run_getObj_map (P:=P) hb
  have he:(execOp a.eval ⟨some d,.mapEntry t x y,ty,ps,af,none⟩).run P v.w=.ok (.value (.tuple #[sv,.int .i64 st])) { v.w with heap:=v.w.heap.setIfInBounds mb (.map es' c') }:=by
    rcases p4 with⟨q1,rfl,rfl,rfl,rfl⟩|⟨j,z,q1,q2,q3,rfl,rfl,rfl⟩
    · have hs:=MapKept.run_setObj_map (P:=P) (.map (es.push ⟨kv k,.slice none 0 0,c⟩) (c+1)) hb
      simp[execOp,h1.ev hx,h1.ev hy,Instr.mapEntry,hu,hg,hK.ok _ _ _,q1 _,hz,hs,goInt]
    · have hs:=MapKept.run_setObj_map (P:=P) (.map es' c') hb
      simp[execOp,h1.ev hx,h1.ev hy,Instr.mapEntry,hu,hg,hK.ok _ _ _,q1 _,Instr.keyThatStays,q2,q3,hK.same,qy_ q2 q3,hs,goInt]
  unfold Oper.wp
  rw[he]
  have hh:=MapKept.heap_set (o':=.map es' c') hb
  obtain⟨g1,g2⟩:=gu_ (i:=0) (o':=.map es' c') (w':={ v.w with heap:=v.w.heap.setIfInBounds mb (.map es' c') }) h2' rfl rfl rfl rfl (Nat.le_refl _) (by simp) hh.1 (fun k hk=>hh.2 k hk)
  simp only[List.set_cons_zero]at g1 g2
  exact hk es' c' i st sv Hk Hr p3 p2 _ _ (h1.put hN) g1 (h3.trans (g2.permL hp.symm)) (aR_ (g2.le h2') h4)
theorem bG_ {t:TypeId} {x y z:Operand} {mb c i:Nat} {e:TypeId} {sz:Nat} {l:List (K×D)} {k:K} {dd:D} {es:Array MapEntry} {st:Int} {sv:Value} {Hk Hr F:Hp} (ho:MOpn kv cells e sz l mb k es c i st Hr) (hr:aL_ e sz sv (lat (l++[(k,dd)]) k).length ((lat (l++[(k,dd)]) k).flatMap cells) Hk)
    (hx:Fr.ev fr x=some (.map (some mb))) (hy:Fr.ev fr y=some (.int .i64 st)) (hz:Fr.ev fr z=some sv) (hH:H.Perm ((mb,.map es c)::(Hk++(Hr++F))))
    (hk:∀ H',dZ_ kv cells e sz (l++[(k,dd)]) mb H'→Ops P R N v0 H0 ops lo Kk fr (H'++F) Γ):Ops P R N v0 H0 ops (⟨none,.entryStore t x y z,ty,ps,af,none⟩::lo) Kk fr H Γ:=by
  obtain⟨H',q1,q2⟩:=ho.close dd sv Hk hr
  refine dW_ rfl fun a v h1 h2 h3 h4=>?_
  have h2':=h2.perm hH
  have hb:=(h2'.own _ List.mem_cons_self).1
  have hg:=MapKept.run_getObj_map (P:=P) hb
  have hs:=MapKept.run_setObj_map (P:=P) (.map (es.modify i fun y=>{ y with val:=sv }) c) hb
  have he:(execOp a.eval ⟨none,.entryStore t x y z,ty,ps,af,none⟩).run P v.w=.ok .skip { v.w with heap:=v.w.heap.setIfInBounds mb (.map (es.modify i fun y=>{ y with val:=sv }) c) }:=by
    have hf:=ho.find
    simp[execOp,h1.ev hx,h1.ev hy,h1.ev hz,Instr.entryStore,hg,hs,asInt,asIntOf,hf]
  unfold Oper.wp
  rw[he]
  have hh:=MapKept.heap_set (o':=.map (es.modify i fun y=>{ y with val:=sv }) c) hb
  obtain⟨g1,g2⟩:=gu_ (i:=0) (o':=.map (es.modify i fun y=>{ y with val:=sv }) c) (w':={ v.w with heap:=v.w.heap.setIfInBounds mb (.map (es.modify i fun y=>{ y with val:=sv }) c) }) h2' rfl rfl rfl rfl (Nat.le_refl _) (by simp) hh.1 (fun k hk=>hh.2 k hk)
  simp only[List.set_cons_zero]at g1 g2
  have pp:((mb,Obj.map (es.modify i fun y=>{ y with val:=sv }) c)::(Hk++(Hr++F))).Perm (H'++F):=by
    have:=(q2.append_right F).symm
    simpa [List.append_assoc] using this
  exact hk H' q1 _ _ h1 (g1.perm pp) (h3.trans ((g2.permL hH.symm).subR fun b hb=>((pp.map Prod.fst).mem_iff).2 hb)) (aR_ (g2.le h2') h4)
def MOp (P:Program) (kt:TypeId) (kv:K→Value) (cells:D→List Value) (e:TypeId) (sz:Nat) (l:List (K×D)) (mb:Nat) (k:K) (es:Array MapEntry) (c:Nat) (sv:Value) (Hr:Hp):Prop :=
  (ek_ P kt (kv k) es.toList none∧sv=.slice none 0 0∧∀ d sv' Hk',aL_ e sz sv' (lat (l++[(k,d)]) k).length ((lat (l++[(k,d)]) k).flatMap cells) Hk'→∃ H',dZ_ kv cells e sz (l++[(k,d)]) mb H'∧H'.Perm ((mb,.map (es.push ⟨kv k,sv',c⟩) (c+1))::(Hk'++Hr))) ∨
  (∃ i x,ek_ P kt (kv k) es.toList (some (i,sv))∧es[i]? = some x∧x.key=kv k∧x.val=sv∧∀ d sv' Hk',aL_ e sz sv' (lat (l++[(k,d)]) k).length ((lat (l++[(k,d)]) k).flatMap cells) Hk'→∃ H',dZ_ kv cells e sz (l++[(k,d)]) mb H'∧H'.Perm ((mb,.map (es.modify i fun y=>{ y with key:=kv k,val:=sv' }) c)::(Hk'++Hr)))
theorem rw_ {k0:Act→World→Prop} {kt:TypeId} {mb:Nat} {e:TypeId} {sz:Nat} {l:List (K×D)} {Hm F:Hp} (hK:KeyT P kt kv) (k:K) (hm:dZ_ kv cells e sz l mb Hm) (hH:H.Perm (Hm++F))
    (h:∀ es c sv Hk Hr,aL_ e sz sv (lat l k).length ((lat l k).flatMap cells) Hk→MOp P kt kv cells e sz l mb k es c sv Hr→Ok N v0 H0 k0 fr ((mb,.map es c)::(Hk++(Hr++F))) Γ):Ok N v0 H0 k0 fr H Γ:=by
  obtain⟨es,c,sv,Hk,Hr,p1,p2,p3⟩:=hm.open hK k
  refine C_ (hH.trans (by
    have:=p1.append_right F
    simpa [List.append_assoc] using this)) (h es c sv Hk Hr p2 p3)
theorem ig_ {t kt et:TypeId} {x y:Operand} {mb c:Nat} {e:TypeId} {sz:Nat} {l:List (K×D)} {k:K} {es:Array MapEntry} {sv:Value} {Hr:Hp} (hK:KeyT P kt kv) (ho:MOp P kt kv cells e sz l mb k es c sv Hr) (hu:∀ w,(underlying t).run P w=.ok (.map kt et) w) (hz:∀ w,(zeroValue et).run P w=.ok (.slice none 0 0) w)
    (hx:Fr.ev fr x=some (.map (some mb))) (hy:Fr.ev fr y=some (kv k)) (i:Nat) (hi:H[i]? = some (mb,.map es c)):Yld P N fr H Γ (.lookup t x y false) ty sv:=by
  have hm:∀ v,v.sat H→au_ Γ v→v.w.heap[mb]? = some (.map es c):=fun v h _=>(h.own _ (List.mem_of_getElem? hi)).1
  rcases ho with⟨h1,rfl,_⟩|⟨i,z,h1,_⟩
  · exact hf_ hu hz hx hy hm (hK.ok k) h1
  · exact fZ_ hu hx hy hm (hK.ok k) h1
theorem ho_ {o:Op} {t kt et:TypeId} {x y z:Operand} {mb c:Nat} {e:TypeId} {sz:Nat} {l:List (K×D)} {k:K} {dd:D} {es:Array MapEntry} {sv sv':Value} {Hk Hr F:Hp} (hK:KeyT P kt kv) (ho:MOp P kt kv cells e sz l mb k es c sv Hr) (hr:aL_ e sz sv' (lat (l++[(k,dd)]) k).length ((lat (l++[(k,dd)]) k).flatMap cells) Hk)
    (hop:o=.insert t x y z∨o=.mapUpdate t x y z) (hu:∀ w,(underlying t).run P w=.ok (.map kt et) w) (hx:Fr.ev fr x=some (.map (some mb))) (hy:Fr.ev fr y=some (kv k)) (hz:Fr.ev fr z=some sv') (hH:H.Perm ((mb,.map es c)::(Hk++(Hr++F))))
    (hk:∀ H',dZ_ kv cells e sz (l++[(k,dd)]) mb H'→Ops P R N v0 H0 ops lo Kk fr (H'++F) Γ):Ops P R N v0 H0 ops (⟨none,o,ty,ps,af,none⟩::lo) Kk fr H Γ:=by
  refine C_ hH ?_
  rcases ho with⟨h1,_,h2⟩|⟨i,q,h1,h3,h4,_,h2⟩
  · obtain⟨H',q1,q2⟩:=h2 dd sv' Hk hr
    refine bu_ 0 hop hu hx hy hz rfl (hK.ok k) h1 ?_
    simp only[List.set_cons_zero]
    exact C_ (by have:=(q2.append_right F).symm;simpa [List.append_assoc] using this) (hk H' q1)
  · obtain⟨H',q1,q2⟩:=h2 dd sv' Hk hr
    refine hn_ 0 hK hop hu hx hy hz rfl h1 h3 h4 ?_
    simp only[List.set_cons_zero]
    exact C_ (by have:=(q2.append_right F).symm;simpa [List.append_assoc] using this) (hk H' q1)
theorem db_ {b:Nat×Obj} {O Q F:Hp} (h:H.Perm ((b::(O++Q))++F)):H.Perm (b::(O++(Q++F))):=by simpa [List.append_assoc] using h
theorem bD_ {b:Nat×Obj} {F:Hp} (h:H.Perm ([b]++F)):H.Perm (b::F):=h
theorem aB_ {b:Nat×Obj} {F F':Hp} (h:H.Perm ([b]++F)) (h2:F.Perm F'):H.Perm (b::F'):=List.Perm.trans h (h2.cons b)
theorem rY_ {fn:Func} {Rr:Ending→World→Prop} {c:Code} (h:Run P (bodyPost P fn Rr) N v0 H0 c [] fr H Γ):Run P (bodyPost P fn Rr) N v0 H0 (.scope c) [] fr H Γ :=
  fun a v h1 h2 h3 h4=>wp_scope_straight (wp_mono (h a v h1 h2 h3 h4) fun e a w hq=>by cases e<;>exact hq)
theorem rZ_ {c:Nat} (h:Fin P R N v0 H0 Kk fr H Γ):Run P R N v0 H0 (.label c) Kk fr H Γ :=
  fun a v h1 h2 h3 h4=>wp_label (h a v h1 h2 h3 h4)
end ops
end Go.Sx
namespace Go.Sx
open Go Go.Vs
structure IntE {K:Type} (kv:K→Value) (es:Array MapEntry) (ks:List K) (vs:List Int):Prop where
  keys:es.toList.map (·.key)=ks.map kv
  vals:es.toList.map (·.val)=vs.map fun n=>Value.int .i64 n
  nd:ks.Nodup
section
variable {P:Program} {K:Type} [DecidableEq K] {kv:K→Value} {kt:TypeId} {es:Array MapEntry} {ks:List K} {vs:List Int}
theorem IntE.nil:IntE kv #[] ([]:List K) []:=⟨rfl,rfl,List.nodup_nil⟩
theorem IntE.len (h:IntE kv es ks vs):vs.length=ks.length:=by
  have h1:=congrArg List.length h.keys
  have h2:=congrArg List.length h.vals
  simp only[List.length_map]at h1 h2
  omega
theorem IntE.yes (hK:KeyT P kt kv) (h:IntE kv es ks vs) {k:K} (hk:k∈ks):∃ (i:Nat) (n:Int),ks[i]? = some k∧vs[i]? = some n∧ek_ P kt (kv k) es.toList (some (i,.int .i64 n)):=by
  obtain⟨i,hi⟩:=List.getElem?_of_mem hk
  have hlt:i<es.toList.length:=by
    have:=(List.getElem?_eq_some_iff.1 hi).1
    have e:=congrArg List.length h.keys
    simp only[List.length_map]at e
    omega
  have hx:=List.getElem?_eq_getElem hlt
  have hv:=congrArg (fun l=>l[i]?) h.vals
  simp only[List.getElem?_map,hx,Option.map_some]at hv
  cases hn:vs[i]? with
  | none=>rw[hn]at hv;simp at hv
  | some n =>
    rw[hn]at hv
    simp only[Option.map_some,Option.some.injEq]at hv
    refine⟨i,n,hi,hn,?_⟩
    have:=hK.sf k es.toList ks i _ h.keys h.nd hi hx
    rwa [hv]at this
theorem IntE.no (hK:KeyT P kt kv) (h:IntE kv es ks vs) {k:K} (hk:k ∉ ks):ek_ P kt (kv k) es.toList none:=hK.nf k es.toList ks h.keys hk
theorem IntE.push (h:IntE kv es ks vs) {k:K} (hk:k ∉ ks) (n:Int) (c:Nat):IntE kv (es.push ⟨kv k,.int .i64 n,c⟩) (ks++[k]) (vs++[n]):=by
  refine⟨by simp[h.keys],by simp[h.vals],?_⟩
  rw[List.nodup_append];exact⟨h.nd,by simp,fun a ha b hb e=>by simp at hb;subst hb;subst e;exact hk ha⟩
end
section ops
variable {P:Program} {N:Nf} {v0:Vw} {H0:Hp} {R:Exit→Act→World→Prop} {Kk:List Kt} {fr:Fr} {H:Hp} {Γ:List Fct}
variable {ops:Array Oper} {lo:List Oper} {d:Nat} {ty:TypeId} {ps:String} {af:Array Edge}
variable {K:Type} [DecidableEq K] {kv:K→Value}
theorem qw_ {o:Op} {t kt et:TypeId} {x y z:Operand} {mb c:Nat} (j:Nat) {es:Array MapEntry} {ks:List K} {vs:List Int} {k:K} {n:Int} (hK:KeyT P kt kv) (ho:o=.insert t x y z∨o=.mapUpdate t x y z) (hu:∀ w,(underlying t).run P w=.ok (.map kt et) w)
    (hx:Fr.ev fr x=some (.map (some mb))) (hy:Fr.ev fr y=some (kv k)) (hz:Fr.ev fr z=some (.int .i64 n)) (hi:H[j]? = some (mb,.map es c)) (hE:IntE kv es ks vs) (hk:k ∉ ks)
    (hkk:∀ es' c',IntE kv es' (ks++[k]) (vs++[n])→Ops P R N v0 H0 ops lo Kk fr (H.set j (mb,.map es' c')) Γ):Ops P R N v0 H0 ops (⟨none,o,ty,ps,af,none⟩::lo) Kk fr H Γ :=
  bu_ j ho hu hx hy hz hi (hK.ok k) (hE.no hK hk) (hkk _ _ (hE.push hk n c))
end ops
def iot (n:Nat):List Int:=(List.range n).map Int.ofNat
theorem rC_ {n i:Nat} {m:Int} (h:(iot n)[i]? = some m):m=i:=by
  unfold iot at h
  rw[List.getElem?_map]at h
  cases hq:(List.range n)[i]? with
  | none=>rw[hq]at h;simp at h
  | some j =>
    rw[hq]at h
    obtain⟨h1,h2⟩:=List.getElem?_eq_some_iff.1 hq
    simp at h2 h
    omega
theorem ju_ (n:Nat):iot (n+1)=iot n++[(n:Int)]:=by simp[iot,List.range_succ]
theorem vH_ (n:Nat):(iot n).length=n:=by simp[iot]
end Go.Sx
namespace Go.Sx
open Go
section
variable {P:Program} {N:Nf} {v0:Vw} {H0:Hp} {R:Exit→Act→World→Prop} {K:List Kt} {fr:Fr} {H F:Hp} {Γ:List Fct} {ops:Array Oper} {l:List Oper} {d:Nat} {ty:TypeId} {ps:String} {af:Array Edge} {e:TypeId} {sz n:Nat} {sv:Value} {xs:List Value} {Hr:Hp}
theorem pn_ {x y:Operand} {t tn:TypeId} {by':Nat} {k kn:IntKind} (he:Elt P t e sz by') (htn:P.underlying tn=some (.int kn)) (hx:Fr.ev fr x=some (.slice none 0 0)) (hy:Fr.ev fr y=some (.int k (n:Int))) (h0:0<n) (hb:n*by'≤140737488355328) (h63:n≤maxLen) (hN:Nat.blt d N.n=true)
    (hk:∀ (y:Nat×Array Value) (b:Nat),(n≤y.1∧y.1≤maxLen∧y.2.size=y.1*sz)→Ops P R N v0 H0 ops l K ((d,.slice (some ⟨b,0,none⟩) n y.1)::fr) ((b,.cells y.2 e (0,0))::H) Γ) :
    Ops P R N v0 H0 ops (⟨some d,.call ⟨.builtin .append,#[x,y],#[t,tn]⟩,ty,ps,af,none⟩::l) K fr H Γ :=
  lA_ (β:=Nat×Array Value) (x:=fun y b=>.slice (some ⟨b,0,none⟩) n y.1) (o:=fun y=>.cells y.2 e (0,0)) (fun y=>n≤y.1∧y.1≤maxLen∧y.2.size=y.1*sz) hN
    (fun a v h1 h2 h4=>by
      obtain⟨i,z,hi,hz,es,eb,ez⟩:=he.info
      subst es eb
      have hr:=Lib.run_append_nil_zeros (P:=P) v.w t tn ty e i z k kn he.und htn hi hz n h0 he.pos (by simp only[maxLen]at h63;omega) (by omega)
      have h1':=grownCap_ge v.w n 0 e
      have h2':=grownCap_le_maxLen v.w n 0 e h63
      refine⟨(grownCap v.w n 0 e,Builtin.zeroCells z.cells n++Builtin.zeroCells z.cells (grownCap v.w n 0 e - n)),v.w.drew.alloc (.cells (Builtin.zeroCells z.cells n++Builtin.zeroCells z.cells (grownCap v.w n 0 e - n)) e),⟨h1',h2',?_⟩,?_,rfl,rfl,rfl,rfl,by simp⟩
      · simp only[Array.size_append,size_zeroCells,ez,← Nat.add_mul]
        congr 1
        omega
      · simp only[execOp,resolve,invoke,builtin,Sem.run_bind,Sem.run_pure,Result.andThen_ok,List.map_toArray,List.map_cons,List.map_nil,h1.ev hx,h1.ev hy,hr])
    hk
theorem ov_ {x:Operand} {t:TypeId} {ad:Option Addr} {len cap:Nat} (hu:∀ w,(underlying t).run P w=.ok (.slice e) w) (hx:Fr.ev fr x=some (.slice ad len cap)) :
    Yld P N fr H Γ (.call ⟨.builtin .cap,#[x],#[t]⟩) ty (.int .i64 (cap:Int)) :=
  fun a v h1 _ _ _ _ _=>by simp[execOp,resolve,invoke,builtin,Builtin.cap_,hu,h1.ev hx,goInt]
theorem rS_ {b cap:Nat} {cur:Array Value} (h1:cap≤maxLen) (h2:cur.size=cap*sz):aL_ e sz (.slice (some ⟨b,0,none⟩) 0 cap) 0 [] [(b,.cells cur e (0,0))] :=
  ⟨by simp,.inr ⟨b,cap,cur,rfl,rfl,Nat.zero_le _,h1,h2,by simp⟩⟩
end
end Go.Sx
namespace Go.Sx
open Go
theorem ue_ {P:Program} {kt:TypeId} {kd:IntKind} (hu:P.underlying kt=some (.int kd)):KeyT P kt (fun n:Int=>.int kd n) where
  ok:=fun k=>ce_ hu
  nf:=fun k es ks h hk=>bk_ hu (by
    have:∀ (ks:List Int) (es:List MapEntry) (i:Nat),es.map (·.key)=ks.map (fun n:Int=>Value.int kd n)→k ∉ ks→Instr.findNow (.int kd) (.int kd k) es i=some none:=by
      intro ks
      induction ks with
      | nil => intro es i h _; have : es = [] := by simpa using h
               subst this;rfl
      | cons q ks ih =>
        intro es i h hk
        cases es with
        | nil=>simp at h
        | cons e es =>
          simp only[List.map_cons,List.cons.injEq]at h
          simp only[List.mem_cons,not_or]at hk
          have hs:Instr.sameNow (.int kd) (.int kd k) e.key=some false:=by
            rw[h.1];simp[Instr.sameNow,hk.1]
          simp only[Instr.findNow,hs]
          exact ih es (i+1) h.2 hk.2
    exact this ks es 0 h hk)
  sf:=fun k es ks i e h hn hi he=>bk_ hu (by
    have:∀ (ks:List Int) (es:List MapEntry) (j i:Nat),es.map (·.key)=ks.map (fun n:Int=>Value.int kd n)→ks.Nodup→ks[i]? = some k→es[i]? = some e→Instr.findNow (.int kd) (.int kd k) es j=some (some (j+i,e.val)):=by
      intro ks
      induction ks with
      | nil=>intro es j i _ _ h;simp at h
      | cons q ks ih =>
        intro es j i h hn hi he
        cases es with
        | nil=>simp at h
        | cons x es =>
          simp only[List.map_cons,List.cons.injEq]at h
          rw[List.nodup_cons]at hn
          cases i with
          | zero =>
            simp only[List.getElem?_cons_zero,Option.some.injEq]at hi he
            subst hi;subst he
            have hs:Instr.sameNow (.int kd) (.int kd q) x.key=some true:=by
              rw[h.1];simp[Instr.sameNow]
            simp only[Instr.findNow,hs,Nat.add_zero]
          | succ i =>
            simp only[List.getElem?_cons_succ]at hi he
            have hne:k≠q:=fun e=>hn.1 (e▸List.mem_of_getElem? hi)
            have hs:Instr.sameNow (.int kd) (.int kd k) x.key=some false:=by
              rw[h.1];simp[Instr.sameNow,hne]
            simp only[Instr.findNow,hs]
            rw[ih es (j+1) i h.2 hn.2 hi he,show j+1+i=j+(i+1) by omega]
    have:=this ks es 0 i h hn hi he
    rwa [Nat.zero_add]at this)
  same:=fun k=>eF_ 10000 k
end Go.Sx
namespace Go.Sx
open Go
section
variable {P:Program} {N:Nat} {v0:Vw} {H0:Hp} {R:Exit→Act→World→Prop} {Kk:List Kt} {fr:Fr} {H:Hp} {Γ:List Fct}
variable {ops:Array Oper} {lo:List Oper} {d:Nat} {ty:TypeId} {ps:String} {af:Array Edge}
variable {K:Type} [DecidableEq K] {kv:K→Value}
theorem sw_ {o:Op} {t kt et:TypeId} {x y z:Operand} {b c:Nat} (n:Nat) {es:Array MapEntry} {q:List K} {k:K} (hK:KeyT P kt kv) (ho:o=.insert t x y z∨o=.mapUpdate t x y z) (hu:∀ w,(underlying t).run P w=.ok (.map kt et) w)
    (hx:Fr.ev fr x=some (.map (some b))) (hy:Fr.ev fr y=some (kv k)) (hz:Fr.ev fr z=some (.bool true)) (hi:H[n]? = some (b,.map es c)) (hq:SetE kv es q)
    (hkk:∀ es' c',SetE kv es' (if k∈q then q else q++[k])→(Born es c→Born es' c')→Ops P R N v0 H0 ops lo Kk fr (H.set n (b,.map es' c')) Γ):Ops P R N v0 H0 ops (⟨none,o,ty,ps,af,none⟩::lo) Kk fr H Γ:=by
  by_cases hk:k∈q
  · obtain⟨i,e,g1,g2,g3,g4,g5⟩:=hq.yes hK hk
    refine hn_ n hK ho hu hx hy hz hi g5 g2 g3 ?_
    rw[ku_ g2 g3 g4]
    exact hkk es c (by rw[if_pos hk];exact hq) id
  · exact bu_ n ho hu hx hy hz hi (hK.ok k) (hq.no hK hk) (hkk _ _ (by rw[if_neg hk];exact hq.push hk c) (fun hB=>hB.push _ _))
theorem su_ {t kt et:TypeId} {x:Operand} {b c:Nat} (n:Nat) {es:Array MapEntry} (hu:P.underlying t=some (.map kt et)) (hx:Fr.ev fr x=some (.map (some b))) (hi:H[n]? = some (b,.map es c)) (hN:Nat.blt d N=true)
    (hk:∀ r,Ops P R N v0 H0 ops lo Kk ((d,.pointer (some ⟨r,0,none⟩))::fr) ((r,.mapIter (some b) c #[] c)::H) Γ):Ops P R N v0 H0 ops (⟨some d,.range t x,ty,ps,af,none⟩::lo) Kk fr H Γ :=
  gw_ (x:=fun b=>.pointer (some ⟨b,0,none⟩)) hN (fun a v h1 h2 _=>by
    have hb:=(h2.own _ (List.mem_of_getElem? hi)).1
    simp[execOp,h1.ev hx,run_range_map v.w t kt et b es c hu hb]) hk
theorem tS_ {it:Operand} {b r c since c0:Nat} {es:Array MapEntry} {seen:Array Nat} (n m:Nat) (hit:Fr.ev fr it=some (.pointer (some ⟨r,0,none⟩))) (hr:H[n]? = some (r,.mapIter (some b) since seen c0)) (hb:H[m]? = some (b,.map es c)) (hold:∀ x∈es.toList,x.born<since) (hsc:since≤c0) (hN:Nat.blt d N=true)
    (h0:(leftOf es seen).size=0→Ops P R N v0 H0 ops lo Kk ((d,.tuple #[.bool false])::fr) H Γ)
    (hk:∀ e,e∈(leftOf es seen).toList→Ops P R N v0 H0 ops lo Kk ((d,.tuple #[.bool true,e.key,e.val])::fr) (H.set n (r,.mapIter (some b) since (seen.push e.born) c)) Γ):Ops P R N v0 H0 ops (⟨some d,.next it false,ty,ps,af,none⟩::lo) Kk fr H Γ :=
  dW_ rfl fun a v h1 h2 h3 h4=>by
    have hrr:=(h2.own _ (List.mem_of_getElem? hr)).1
    have hbb:=(h2.own _ (List.mem_of_getElem? hb)).1
    unfold Oper.wp
    rcases run_next_at (P:=P) v.w ty r b since c0 seen es c hrr hbb hold hsc with⟨e0,hrun⟩|⟨e,he,w1,hal,hrun⟩
    · have hx:(execOp a.eval ⟨some d,.next it false,ty,ps,af,none⟩).run P v.w=.ok (.value (.tuple #[.bool false])) v.w:=by simp[execOp,h1.ev hit,hrun]
      rw[hx]
      exact h0 e0 _ v (h1.put hN) h2 h3 h4
    · have hx:(execOp a.eval ⟨some d,.next it false,ty,ps,af,none⟩).run P v.w=.ok (.value (.tuple #[.bool true,e.key,e.val])) (ChangeMaps.setBlock w1 r (.mapIter (some b) since (seen.push e.born) c)):=by simp[execOp,h1.ev hit,hrun]
      rw[hx]
      have hr1:w1.heap[r]? = some (.mapIter (some b) since seen c0):=by rcases hal with rfl|rfl<;>exact hrr
      have hlt:r<w1.heap.size:=(Array.getElem?_eq_some_iff.1 hr1).1
      have hw:w1.heap=v.w.heap:=by rcases hal with rfl|rfl<;>rfl
      have hdr:v.w.drawn≤w1.drawn:=by
        rcases hal with rfl|rfl
        · exact Nat.le_refl _
        · exact Nat.le_succ _
      obtain⟨g1,g2⟩:=gu_ (w':=ChangeMaps.setBlock w1 r (.mapIter (some b) since (seen.push e.born) c)) h2 hr (by rcases hal with rfl|rfl<;>rfl) (by rcases hal with rfl|rfl<;>rfl) (by rcases hal with rfl|rfl<;>rfl) hdr (by simp[ChangeMaps.setBlock,hw])
        (by simp only[ChangeMaps.setBlock];rw[Array.getElem?_setIfInBounds_self_of_lt hlt]) (fun k hk=>by simp only[ChangeMaps.setBlock];rw[Array.getElem?_setIfInBounds_ne (Ne.symm hk),hw])
      exact hk e he _ ⟨v.im,_,v.sl⟩ (h1.put hN) g1 (h3.trans g2) (aR_ (g2.le h2) h4)
theorem rJ_ {it:Operand} {b r c since:Nat} {es:Array MapEntry} {seen:Array Nat} {e:MapEntry} (n m:Nat) (hit:Fr.ev fr it=some (.pointer (some ⟨r,0,none⟩))) (hr:H[n]? = some (r,.mapIter (some b) since (seen.push e.born) c)) (hb:H[m]? = some (b,.map es c)) (he:e∈es.toList) (hB:Born es c) :
    Yld P N fr H Γ (.entry it) ty (.tuple #[e.key,e.val]) :=
  fun a v h1 h2 _ _ _ _=>by
    have:=run_entry_at (P:=P) v.w r b since seen es c e (h2.own _ (List.mem_of_getElem? hr)).1 (h2.own _ (List.mem_of_getElem? hb)).1 he hB.nd
    simp[execOp,h1.ev hit,this]
structure ItS (kv:K→Value) (es:Array MapEntry) (seen:Array Nat) (done:List K):Prop where
  nd:done.Nodup
  mem:∀ e∈es.toList,seen.contains e.born=true↔∃ k∈done,e.key=kv k
  sub:∀ k∈done,∃ e∈es.toList,e.key=kv k
theorem ItS.nil {es:Array MapEntry}:ItS kv es #[] []:=⟨List.nodup_nil,fun e _=>by simp,fun k hk=>by simp at hk⟩
theorem SetE.entry {es:Array MapEntry} {q:List K} (hE:SetE kv es q) (hi:∀ x y,kv x=kv y→x=y) {x e:MapEntry} (hx:x∈es.toList) (he:e∈es.toList) (h:x.key=e.key):x=e:=by
 obtain⟨i,hi1,hi2⟩:=List.getElem_of_mem hx
 obtain⟨j,hj1,hj2⟩:=List.getElem_of_mem he
 have hl:=congrArg List.length hE.keys
 simp only[List.length_map]at hl
 have key:∀ (k:Nat) (hk:k<es.toList.length),es.toList[k].key=kv (q[k]'(by omega)):=fun k hk=>by
   have:=congrArg (fun l=>l[k]?) hE.keys
   simp only[List.getElem?_map]at this
   rw[List.getElem?_eq_getElem hk,List.getElem?_eq_getElem (by omega)]at this
   simpa using this
 have e1:=key i hi1
 have e2:=key j hj1
 rw[hi2]at e1
 rw[hj2]at e2
 have e3:=hi _ _ (e1.symm.trans (h.trans e2))
 have hij:i=j:=by
   rcases Nat.lt_trichotomy i j with h1|h1|h1
   · exact absurd e3 (List.pairwise_iff_getElem.1 hE.nd i j (by omega) (by omega) h1)
   · exact h1
   · exact absurd e3.symm (List.pairwise_iff_getElem.1 hE.nd j i (by omega) (by omega) h1)
 subst hij
 rw[← hi2,← hj2]
theorem SetE.ofKey {es:Array MapEntry} {q:List K} (hE:SetE kv es q) {e:MapEntry} (he:e∈es.toList):∃ k∈q,e.key=kv k:=by
  have:e.key∈es.toList.map (·.key):=List.mem_map_of_mem he
  rw[hE.keys]at this
  obtain⟨k,hk,h⟩:=List.mem_map.1 this
  exact⟨k,hk,h.symm⟩
theorem ItS.step {es:Array MapEntry} {q:List K} {c:Nat} {seen:Array Nat} {done:List K} {e:MapEntry} (hi:∀ x y,kv x=kv y→x=y) (hE:SetE kv es q) (hB:Born es c) (h:ItS kv es seen done) (he:e∈(leftOf es seen).toList) :
    ∃ k,k∈q∧k ∉ done∧e.key=kv k∧e∈es.toList∧ItS kv es (seen.push e.born) (done++[k]):=by
  unfold leftOf at he
  rw[Array.toList_filter,List.mem_filter]at he
  obtain⟨h1,h2⟩:=he
  obtain⟨k,hk,hkv⟩:=hE.ofKey h1
  have hnd:k ∉ done:=fun hm=>by
    have:=(h.mem e h1).2 ⟨k,hm,hkv⟩
    rw[this]at h2
    simp at h2
  refine⟨k,hk,hnd,hkv,h1,⟨?_,fun x hx=>?_,fun y hy=>?_⟩⟩
  · rw[List.nodup_append];exact⟨h.nd,by simp,fun a ha b hb e=>by simp at hb;subst hb;subst e;exact hnd ha⟩
  · rw[Array.contains_push,Bool.or_eq_true,h.mem x hx,beq_iff_eq]
    constructor
    · rintro (⟨y,hy,hyv⟩|h3)
      · exact⟨y,by simp[hy],hyv⟩
      · have:x=e:=by
          have hn:=hB.nd
          obtain⟨i,hi1,hi2⟩:=List.getElem_of_mem hx
          obtain⟨j,hj1,hj2⟩:=List.getElem_of_mem h1
          have hij:i=j:=by
            rcases Nat.lt_trichotomy i j with g|g|g
            · exact ((List.pairwise_iff_getElem.1 hn i j (by simpa using hi1) (by simpa using hj1) g) (by simp only[List.getElem_map,hi2,hj2,h3])).elim
            · exact g
            · exact ((List.pairwise_iff_getElem.1 hn j i (by simpa using hj1) (by simpa using hi1) g) (by simp only[List.getElem_map,hi2,hj2,h3])).elim
          subst hij
          rw[← hi2,← hj2]
        exact⟨k,by simp,this▸hkv⟩
    · rintro ⟨y,hy,hyv⟩
      rcases List.mem_append.1 hy with hy|hy
      · exact .inl ⟨y,hy,hyv⟩
      · rw[List.mem_singleton]at hy
        subst hy
        exact .inr (congrArg MapEntry.born (hE.entry hi hx h1 (hyv.trans hkv.symm)))
  · rcases List.mem_append.1 hy with hy|hy
    · exact h.sub y hy
    · rw[List.mem_singleton]at hy
      subst hy
      exact⟨e,h1,hkv⟩
theorem ItS.end {es:Array MapEntry} {q:List K} {seen:Array Nat} {done:List K} (hi:∀ x y,kv x=kv y→x=y) (hE:SetE kv es q) (h:ItS kv es seen done) (h0:(leftOf es seen).size=0):done.Perm q:=by
 refine (List.perm_ext_iff_of_nodup h.nd hE.nd).2 fun k=>⟨fun hk=>?_,fun hk=>?_⟩
 ·obtain⟨e,he,hkv⟩:=h.sub k hk
  obtain⟨k',hk',hkv'⟩:=hE.ofKey he
  exact hi _ _ (hkv.symm.trans hkv')▸hk'
 have:kv k∈es.toList.map (·.key):=by rw[hE.keys];exact List.mem_map_of_mem hk
 obtain⟨e,he,hkv⟩:=List.mem_map.1 this
 have hs:seen.contains e.born=true:=by
   cases hc:seen.contains e.born
   · exfalso
     have:e∈(leftOf es seen).toList:=by unfold leftOf;rw[Array.toList_filter,List.mem_filter];exact⟨he,by simp only[hc];rfl⟩
     have h1:=List.length_pos_of_mem this
     simp only[Array.length_toList]at h1
     omega
   · rfl
 obtain⟨k',hk',hkv'⟩:=(h.mem e he).1 hs
 exact hi _ _ (hkv.symm.trans hkv')▸hk'
end
section
variable {P:Program} {N:Nat} {v0:Vw} {H0:Hp} {R:Exit→Act→World→Prop} {K:List Kt} {fr:Fr} {H F:Hp} {Γ:List Fct}
def on_ {σ:Type} (v0:Vw) (H0:Hp) (Hj:σ→Hp) (ok:σ→Prop) (HL:Hp):Exit→Act→World→Prop
  | .normal,_,w=>∃ s' v,ok s'∧v.w=w∧v.sat (Hj s'++HL)∧v0.to H0 v (Hj s'++HL)
  | _,_,_=>False
theorem hI_ {σ ι:Type} {l D:Nat} {rec:Loop} {pm:Nat} {x:Value} {Hj:σ→Hp} {s:σ} {ok:σ→Prop} (frA:ι→Fr) (HA:ι→Hp)
    (hp:rec.params=#[pm]) (hst:rec.state=.ready) (hpe:rec.pending=none) (ht:Fr.sat N fr ⟨rec.tmps,[]⟩) (hpm:Nat.blt pm N=true)
    (hassign:∀ n v0 H0 HL,hF_ (Fence.wide.inRound l) n P (Mid N v0 H0 frA (fun i=>HA i++HL) (fun _=>Γ)) N [] v0 H0 rec.assign [] ((pm,x)::fr) (Hj s++HL) Γ)
    (hbody:∀ n v0 H0 HL i,hF_ (Fence.wide.inRound l) n P (on_ v0 H0 Hj ok HL) N [] v0 H0 rec.body [] (frA i) (HA i++HL) Γ) :
    jH_ P l x (Hj s++HLp l D rec) Γ (fun _:{s':σ // ok s'}=>.bool true) (fun s'=>Hj s'.1++HLp l D rec) (fun _=>[]):=by
  intro v hs hΓ
  have hpl:∀ (X:Hp) r,(X++HLp l D r).Perm ((l,.loop r)::(X++[(D,.deferred (some []))])):=fun X r=>by
    unfold HLp
    exact List.perm_middle
  have hl:v.w.heap[l]? = some (.loop rec):=((hs.perm (hpl _ _)).own _ List.mem_cons_self).1
  refine⟨rec.fn,_,rec.assign,rec.body,run_yield hl (by simp[hp]),fun n=>roundIn_of_wpIn trivial ?_⟩
  have htm:(rec.params.zip #[x]).foldl (fun tmps (t,a)=>tmps.setIfInBounds t a) rec.tmps=rec.tmps.setIfInBounds pm x:=by simp[hp]
  rw[htm]
  have hsat:Fr.sat N ((pm,x)::fr) ⟨rec.tmps.setIfInBounds pm x,[]⟩:=ht.put hpm
  refine wpIn_mono (dP_.1 (hassign n v (Hj s++HLp l D rec) (HLp l D rec)) ⟨rec.tmps.setIfInBounds pm x,[]⟩ v hsat hs (Vw.to.refl _ _) hΓ) ?_
  rintro e a1 w1 ⟨rfl,i,v1,rfl,k1,k2,k3,k4⟩
  have k2':=k2.perm (hpl _ _)
  have hl1:=(k2'.own _ List.mem_cons_self).1
  obtain⟨m1,m2⟩:=fR_ (o':=.loop { rec with state:=.busy }) k2'
  refine⟨_,run_beginRound hl1 hst,?_⟩
  have m3:=m1.perm (hpl (HA i) { rec with state:=.busy }).symm
  have m4:v.to (Hj s++HLp l D rec) ⟨v1.im,v1.w.putObj l (.loop { rec with state:=.busy }),v1.sl⟩ (HA i++HLp l D { rec with state:=.busy }) :=
    (k3.trans ((m2.permL (hpl _ _).symm).subR fun b hb=>((hpl (HA i) { rec with state:=.busy }).map Prod.fst).mem_iff.1 hb))
  have k4':=aR_ (m2.le k2') k4
  refine wpIn_mono (dP_.1 (hbody n v (Hj s++HLp l D rec) (HLp l D { rec with state:=.busy }) i) a1 ⟨v1.im,_,v1.sl⟩ k1 m3 m4 k4') ?_
  intro e2 a2 w2 hq
  cases e2 with
  | normal =>
    obtain⟨s',v2,hok,rfl,q1,q2⟩:=hq
    have q1':=q1.perm (hpl _ _)
    have hl2:=(q1'.own _ List.mem_cons_self).1
    obtain⟨z1,z2⟩:=fR_ (o':=.loop rec) q1'
    have er:({ rec with state:=.ready,pending:=none }:Loop)=rec:=by cases rec;simp_all
    refine⟨_,_,run_endRound none hl2,⟨s',hok⟩,⟨v2.im,v2.w.putObj l (.loop rec),v2.sl⟩,rfl,?_,z1.perm (hpl _ _).symm,trivial,q2.trans ((z2.permL (hpl _ _).symm).subR fun b hb=>((hpl (Hj s') rec).map Prod.fst).mem_iff.1 hb)⟩
    simp[er]
  | ret=>exact hq.elim
  | exit id=>exact hq.elim
  | goto t=>exact hq.elim
  | panic c=>exact hq.elim
  | outgrown=>exact hq.elim
theorem hl_ {σ:Type} {Hj:σ→Hp} {HL G:Hp} {ok:σ→Prop} (s':σ) (hr:ok s') (hH:H.Perm (Hj s'++HL++G)):OkD N [] v0 H0 (on_ v0 H0 Hj ok HL .normal) fr H Γ :=
  jl_ (Γ':=[]) hH (fun _ _ _=>trivial) fun a v h1 h2 h3 _=>⟨s',v,hr,rfl,h2,h3⟩
theorem hO_ {σ α:Type} {g:Operand} {pm:Nat} {assign body:Code} {gf:FuncId} {caps:List Value} {Hj:σ→Hp} {Hc:Hp} {Γi:List Fct} (Γx:List Fct) {xv:α→Value} {good:σ→α→Prop} {nx:α→σ→σ→Prop} {Rc:σ→Prop}
    (s0:σ) (hg:Fr.ev fr g=some (.func (.func gf) #[] caps.toArray)) (hH:H.Perm (Hc++Hj s0)) (hΓi:∀ v,v.sat H→au_ Γ v→au_ Γi v)
    (hround:∀ l D (rec:Loop),rec.params=#[pm]→rec.state=.ready→rec.pending=none→Fr.sat N fr ⟨rec.tmps,[]⟩→rec.assign=assign→rec.body=body→∀ s x,good s x →
      jH_ P l (xv x) (Hj s++HLp l D rec) Γx (fun _:{s':σ // nx x s s'}=>.bool true) (fun s'=>Hj s'.1++HLp l D rec) (fun _=>[]))
    (hit:∀ l (Gj:σ→Hp),(∀ s x,good s x→jH_ P l (xv x) (Gj s) Γx (fun _:{s':σ // nx x s s'}=>.bool true) (fun s'=>Gj s'.1) (fun _=>[])) →
      Tri P gf (.func (.yield l) #[] #[]::caps).toArray (Hc++Gj s0) Γi (fun _:{s':σ // Rc s'}=>.tuple #[]) (fun s'=>Hc++Gj s'.1) (fun _=>[]))
    (hnext:∀ s',Rc s'→∀ D l r,rd_ Fence.wide 0 P R N (qD_ D) v0 H0 K fr (Hc++Hj s'++HLp l D r) Γ) :
    Run P R N v0 H0 (.rangeFunc g #[pm] assign body) K fr H Γ:=by
  intro a v h1 h2 h3 h4
  refine wpIn_wide (n:=0) |>.1 (wpIn_mono (Q:=fh_ Fence.wide 0 P R K) (wpIn_rangeFunc fun fn _=>?_) fun e a w hq=>bB_ K e a w hq)
  obtain⟨a1,a2⟩:=hk_ (w':=v.w.alloc (.deferred (some []))) (o:=.deferred (some [])) h2 rfl rfl rfl rfl (Nat.le_refl _)
  obtain⟨rec,hrec⟩:∃ rec:Loop,rec={ state:=.ready,pending:=none,fn,tmps:=a.tmps,params:=#[pm],assign,body,defers:=v.w.heap.size }:=⟨_,rfl⟩
  obtain⟨b1,b2⟩:=hk_ (w':=(v.w.alloc (.deferred (some []))).alloc (.loop rec)) (o:=.loop rec) a1 rfl rfl rfl rfl (Nat.le_refl _)
  have hsz:(v.w.alloc (Obj.deferred (some []))).heap.size=v.w.heap.size+1:=by simp
  have b1':(⟨v.im,(v.w.alloc (.deferred (some []))).alloc (.loop rec),v.sl⟩:Vw).sat ((v.w.heap.size+1,.loop rec)::(v.w.heap.size,.deferred (some []))::H):=hsz▸b1
  have b2':v.to H ⟨v.im,(v.w.alloc (.deferred (some []))).alloc (.loop rec),v.sl⟩ ((v.w.heap.size+1,.loop rec)::(v.w.heap.size,.deferred (some []))::H):=a2.trans (hsz▸b2)
  have hperm:((v.w.heap.size+1,Obj.loop rec)::(v.w.heap.size,.deferred (some []))::H).Perm (Hc++(Hj s0++HLp (v.w.heap.size+1) v.w.heap.size rec)):=by
    rw[← List.append_assoc]
    exact (List.perm_append_comm (l₁:=HLp (v.w.heap.size+1) v.w.heap.size rec) (l₂:=H)).trans (hH.append_right _)
  have hT:=hit (v.w.heap.size+1) (fun s=>Hj s++HLp (v.w.heap.size+1) v.w.heap.size rec)
    (hround _ _ rec (by rw[hrec]) (by rw[hrec]) (by rw[hrec]) (by rw[hrec];exact⟨h1.size,rfl,h1.val⟩) (by rw[hrec]) (by rw[hrec]))
  have hΓ2:=aR_ (b2'.le h2) (hΓi v h2 h4)
  have hΓ3:=aR_ (b2'.le h2) h4
  have he:=h1.ev hg
  refine⟨v.w.heap.size+1,qD_ v.w.heap.size,(v.w.alloc (.deferred (some []))).alloc (.loop rec),⟨.fn (.func gf) caps.toArray,#[.func (.yield (v.w.heap.size+1)) #[] #[]]⟩,(v.w.alloc (.deferred (some []))).alloc (.loop rec),gf,(.func (.yield (v.w.heap.size+1)) #[] #[]::caps).toArray,_,?_,?_,fun _ _=>trivial,?_,fun h=>(by cases h),callsIn_wide.2 ((hT.run ⟨v.im,_,v.sl⟩ (b1'.perm hperm) hΓ2).mono ?_)⟩
  · rw[hrec];exact run_enterLoop_outer _ _ _ _ _
  · simp only[resolve,rangeCall,List.map_toArray,List.map_cons,List.map_nil,he,Deferred.ofValue]
    rfl
  · have:=hT.callable (.func (.yield (v.w.heap.size+1)) #[] #[]::caps).toArray ((v.w.alloc (.deferred (some []))).alloc (.loop rec))
    simpa [invoke] using this
  · rintro e w' ⟨⟨s',hRc⟩,v',rfl,rfl,g1,g2,g3⟩
    have g3':=b2'.trans (g3.permL hperm.symm)
    have hΓ4:=aR_ (g3'.le h2) h4
    have hsd:∀ D',SatD N D' fr { a with defers:=D'++a.defers }:=fun D'=>⟨⟨h1.size,rfl,h1.val⟩,by show D'++a.defers=D';rw[h1.defers];simp⟩
    have hpl:∀ (X Y:Hp) r,(Y++(X++HLp (v.w.heap.size+1) v.w.heap.size r)).Perm ((v.w.heap.size+1,.loop r)::(Y++X++[(v.w.heap.size,.deferred (some []))])):=fun X Y r=>by
      unfold HLp
      rw[← List.append_assoc]
      exact List.perm_middle
    have q:=g1.perm (hpl (Hj s') Hc rec)
    have hl:=(q.own _ List.mem_cons_self).1
    obtain⟨z1,z2⟩:=fR_ (o':=.loop { rec with state:=.exhausted }) q
    have zp:((v.w.heap.size+1,Obj.loop { rec with state:=.exhausted })::(Hc++Hj s'++[(v.w.heap.size,.deferred (some []))])).Perm (Hc++Hj s'++HLp (v.w.heap.size+1) v.w.heap.size { rec with state:=.exhausted }):=by
      have:=(hpl (Hj s') Hc { rec with state:=.exhausted }).symm
      rw[← List.append_assoc]at this
      exact this
    refine⟨rec.pending,_,run_endLoop hl (by rw[hrec];simp),?_⟩
    have hpn:rec.pending=none:=by rw[hrec]
    split
    case h_2=>rename_i c hc;rw[hpn]at hc;cases hc
    exact hnext s' hRc _ _ _ _ ⟨v'.im,_,v'.sl⟩ (hsd _) (z1.perm zp) (h3.trans (g3'.trans ((z2.permL (hpl _ _ _).symm).subR fun b hb=>(zp.map Prod.fst).mem_iff.2 hb))) (aR_ (z2.le q) hΓ4)
theorem qi_ {σ α:Type} {g:Operand} {pm:Nat} {assign body:Code} {gf:FuncId} {caps:List Value} {Hj:σ→Hp} {Hc:Hp} {Γi:List Fct} {xv:α→Value} {good:σ→α→Prop} {nx:α→σ→σ→Prop} {Rc:σ→Prop}
    (s0:σ) (hg:Fr.ev fr g=some (.func (.func gf) #[] caps.toArray)) (hH:H.Perm (Hc++Hj s0)) (hΓi:∀ v,v.sat H→au_ Γ v→au_ Γi v)
    (hround:∀ l D (rec:Loop),rec.params=#[pm]→rec.state=.ready→rec.pending=none→Fr.sat N fr ⟨rec.tmps,[]⟩→rec.assign=assign→rec.body=body→∀ s x,good s x →
      jH_ P l (xv x) (Hj s++HLp l D rec) [] (fun _:{s':σ // nx x s s'}=>.bool true) (fun s'=>Hj s'.1++HLp l D rec) (fun _=>[]))
    (hit:∀ l (Gj:σ→Hp),(∀ s x,good s x→jH_ P l (xv x) (Gj s) [] (fun _:{s':σ // nx x s s'}=>.bool true) (fun s'=>Gj s'.1) (fun _=>[])) →
      Tri P gf (.func (.yield l) #[] #[]::caps).toArray (Hc++Gj s0) Γi (fun _:{s':σ // Rc s'}=>.tuple #[]) (fun s'=>Hc++Gj s'.1) (fun _=>[]))
    (hnext:∀ s',Rc s'→∀ D l r,rd_ Fence.wide 0 P R N (qD_ D) v0 H0 K fr (Hc++Hj s'++HLp l D r) Γ) :
    Run P R N v0 H0 (.rangeFunc g #[pm] assign body) K fr H Γ:=
  hO_ [] s0 hg hH hΓi hround hit hnext
end
section
variable {Fc:Fence} {n:Nat} {P:Program} {N:Nat} {D:List Deferred} {v0:Vw} {H0:Hp} {R:Exit→Act→World→Prop} {K:List Kt} {fr:Fr} {H:Hp} {Γ:List Fct}
variable {ops:Array Oper} {l:List Oper} {d:Nat} {ty:TypeId} {ps:String} {af:Array Edge}
theorem mO_ {t e:TypeId} {len sz:Nat} {parts:List (Nat×Operand)} {vs:List (Nat×Value)} {zv:Value} {cs:List Value} (hF:Opn Fc) (hu:∀ w,(underlying t).run P w=.ok (.slice e) w) (hs:∀ w,(sizeOf e).run P w=.ok sz w) (hz:∀ w,(zeroValue e).run P w=.ok zv w)
    (hzl:zv.cells.toList.length=sz) (hp:Nat.blt 0 (len*sz)=true) (hle:Nat.ble (len*sz) 16777216=true) (hx:Fr.evp fr parts=some vs) (hf:kA_ (fun i=>some (i*sz,sz)) (iu_ zv.cells.toList len) vs=some cs) (hN:Nat.blt d N=true)
    (hk:∀ b,ft_ Fc n P R N D v0 H0 ops l K ((d,.slice (some ⟨b,0,none⟩) len len)::fr) ((b,.cells cs.toArray e (0,0))::H) Γ):ft_ Fc n P R N D v0 H0 ops (⟨some d,.buildSlice t len parts.toArray,ty,ps,af,none⟩::l) K fr H Γ :=
  eQ_ rfl fun a v h1 h2 h3 h4=>by
    refine⟨fun f _=>hF.fn f,?_⟩
    rw[semAt_eq rfl]
    have he:(execOp a.eval ⟨some d,.buildSlice t len parts.toArray,ty,ps,af,none⟩).run P v.w=.ok (.value (.slice (some ⟨v.w.heap.size,0,none⟩) len len)) (v.w.alloc (.cells cs.toArray e (0,0))):=by
      have hx':=h1.sat.evp hx
      have hf':=hX_ _ _ _ _ hf
      have hpos:0<len*sz:=by simpa [Nat.blt_eq] using hp
      have hszp:0<sz:=Nat.pos_of_mul_pos_left hpos
      have hle':len*sz≤16777216:=Nat.le_of_ble_eq_true hle
      have hr:=iI_ zv.cells.toList (by omega) len
      rw[hzl]at hr
      simp only[Array.toArray_toList]at hr
      rw[← hr]at hf'
      have hx2:(parts.map fun (i,x)=>(i,a.eval x))=vs:=hx'
      simp only[execOp,Instr.buildSlice,Sem.run_bind,hu,Result.andThen_ok,hs,List.map_toArray,hx2]
      rw[if_neg (by omega),if_neg (by omega)]
      simp only[Sem.run_bind,Sem.run_pure,hz,Result.andThen_ok,hf']
      rfl
    rw[he]
    obtain⟨g1,g2⟩:=hk_ (w':=v.w.alloc (.cells cs.toArray e (0,0))) (o:=.cells cs.toArray e (0,0)) h2 rfl rfl rfl rfl (Nat.le_refl _)
    exact hk v.w.heap.size _ ⟨v.im,_,v.sl⟩ (h1.put hN) g1 (h3.trans g2) (aR_ (g2.le h2) h4)
theorem pp_ {k:Act→World→Prop} {H':Hp} (hH:H.Perm H') (h:OkD N D v0 H0 k fr H' Γ):OkD N D v0 H0 k fr H Γ :=
  fun a v h1 h2 h3 h4=>h a v h1 (h2.perm hH) (h3.subR fun b hb=>(hH.map Prod.fst).mem_iff.2 hb) h4
theorem iz_ {t e:TypeId} {x y:Operand} {b off sz m:Nat} {sv:Value} {xs:List Value} {Hr:Hp} (hF:Opn Fc) (i:Nat) {cur:Array Value} {T:TypeId} (hrow:aL_ e sz sv m xs Hr) (hs:∀ w,(sizeOf t).run P w=.ok 1 w)
    (hx:Fr.ev fr x=some (.pointer (some ⟨b,off,none⟩))) (hy:Fr.ev fr y=some sv) (hi:H[i]? = some (b,.cells cur T (0,0))) (hf:Nat.ble (off+1) cur.size=true)
    (hk:ft_ Fc n P R N D v0 H0 ops l K fr (H.set i (b,.cells (cur.toList.take off++[sv]++cur.toList.drop (off+1)).toArray T (0,0))) Γ):ft_ Fc n P R N D v0 H0 ops (⟨none,.store t x y,ty,ps,af,none⟩::l) K fr H Γ :=
  eP_ hF i hs hx hy hi (by rw[(ep_ hrow).1];rfl) hf (by rw[(ep_ hrow).1];simp[(ep_ hrow).2]) (by rw[(ep_ hrow).1];exact hk)
theorem ks_ {x y:Operand} {t e:TypeId} {sz by' m k c:Nat} {sv:Value} {xs news:List Value} {Hr F:Hp} {ad:Addr} (hF:Opn Fc) (he:Elt P t e sz by') (hrow:aL_ e sz sv m xs Hr)
    (hx:Fr.ev fr x=some sv) (hy:Fr.ev fr y=some (.slice (some ad) k c)) (hH:H.Perm (Hr++F)) (hl:news.length=k*sz) (hnews:∀ v,v.sat H→au_ Γ v→∀ j u,news[j]? = some u→v.w.cell? (ad.add j)=some u) (h1c:∀ u∈news,u.oneCell'=true)
    (h63:m+k≤maxLen) (hb:(m+k)*by'≤140737488355328) (hN:Nat.blt d N=true)
    (hk:∀ sv' Hr',aL_ e sz sv' (m+k) (xs++news) Hr'→ft_ Fc n P R N D v0 H0 ops l K ((d,sv')::fr) (Hr'++F) Γ) :
    ft_ Fc n P R N D v0 H0 ops (⟨some d,.call ⟨.builtin .append,#[x,y],#[t,t]⟩,ty,ps,af,none⟩::l) K fr H Γ :=
  eQ_ rfl fun a v h1 h2 h3 h4=>by
    refine⟨fun f _=>hF.fn f,?_⟩
    rw[semAt_eq rfl]
    obtain⟨i,z,hi,hz,es,eb,ez⟩:=he.info
    have g:=h2.perm hH
    have hn:=hnews v h2 h4
    have ho:=hrow.owns g
    obtain⟨v',w',hr,q1,q2,_⟩:=run_append_own (P:=P) v.w 0 t ty e i z sz by' he.und hi hz es eb ez he.pos sv m xs ho ad k c news hl hn h1c h63 hb (Nat.zero_le _)
    obtain⟨a1,a2⟩:=jG_ v.w he.und hi hz es ho hl hn h1c h63 (by rw[eb];exact hb) hr
    obtain⟨Hr',k1,k2,k3⟩:=mW_ hrow g q1 q2 a1 a2
    have e1:a.eval x=sv:=h1.sat.ev hx
    have e2:a.eval y=.slice (some ad) k c:=h1.sat.ev hy
    have hxx:(execOp a.eval ⟨some d,.call ⟨.builtin .append,#[x,y],#[t,t]⟩,ty,ps,af,none⟩).run P v.w=.ok (.value v') w':=by
      simp only[execOp,resolve,invoke,builtin,Sem.run_bind,Sem.run_pure,Result.andThen_ok,List.map_toArray,List.map_cons,List.map_nil,e1,e2,hr]
    rw[hxx]
    exact hk v' Hr' k1 _ ⟨v.im,w',v.sl⟩ (h1.put hN) k2 (h3.trans (k3.permL hH.symm)) (aR_ ((k3.permL hH.symm).le h2) h4)
end
end Go.Sx
namespace Go.Sx
open Go
section
variable {P:Program} {N:Nf} {v0:Vw} {H0:Hp} {R:Exit→Act→World→Prop} {K:List Kt} {fr:Fr} {H F:Hp} {Γ:List Fct} {ops:Array Oper} {l:List Oper} {d:Nat} {ty:TypeId} {ps:String} {af:Array Edge} {e:TypeId} {sz n:Nat} {sv:Value} {xs:List Value} {Hr:Hp}
theorem tX_ (z:List Value) (hz:0<z.length) (n:Nat):madeCells z.toArray (n*z.length)=(iu_ z n).toArray:=iI_ z hz n
theorem pm_ {t:TypeId} {x y:Operand} {by':Nat} {z:Value} (ht:P.underlying t=some (.slice e)) (hi:(P.info? e).map (fun i=>(i.zero,i.size,i.bytes))=some (some z,sz,by')) (hzs:z.cells.toList.length=sz) (hsz:0<sz) (hx:Fr.ev fr x=some (.int .i64 (n:Int))) (hy:Fr.ev fr y=some (.int .i64 (n:Int)))
    (hb:by'*n≤281474976710656) (h63:n≤maxLen) (hN:Nat.blt d N.n=true)
    (hk:∀ sv Hr,aL_ e sz sv n (iu_ z.cells.toList n) Hr→Ops P R N v0 H0 ops l K ((d,sv)::fr) (Hr++H) Γ):Ops P R N v0 H0 ops (⟨some d,.makeSlice t x y,ty,ps,af,none⟩::l) K fr H Γ:=by
  refine gw_ (x:=fun b=>.slice (some ⟨b,0,none⟩) n n) (o:=.cells (iu_ z.cells.toList n).toArray e (0,0)) hN (fun a v h1 _ _=>?_) (fun b=>hk _ [(b,.cells (iu_ z.cells.toList n).toArray e (0,0))] ⟨?_,.inr ⟨b,n,(iu_ z.cells.toList n).toArray,rfl,rfl,Nat.le_refl _,h63,?_,?_⟩⟩)
  · cases h:P.info? e with
    | none=>rw[h]at hi;cases hi
    | some i =>
      rw[h]at hi
      simp only[Option.map_some,Option.some.injEq,Prod.mk.injEq]at hi
      have hb':(i.bytes:Int)*(n:Int)≤281474976710656:=by
        rw[hi.2.2]
        have h:((by'*n:Nat):Int)≤281474976710656:=by omega
        rwa [Int.natCast_mul]at h
      have hr:=run_make (P:=P) v.w t e i z ht h hi.1 .i64 .i64 (n:Int) (n:Int) (by omega) (Int.le_refl _) hb' (by simp only[maxLen]at h63;omega)
      have hm:=tX_ z.cells.toList (by omega) n
      rw[hzs,Array.toArray_toList]at hm
      rw[hi.2.1,Int.toNat_natCast,hm]at hr
      simp only[execOp,h1.ev hx,h1.ev hy]
      simp[hr]
  · rw[hG_,hzs]
  · simp only[List.size_toArray];rw[hG_,hzs]
  · rw[List.toList_toArray,List.take_of_length_le (by rw[hG_,hzs];exact Nat.le_refl _)]
theorem op_ {α:Type} (f:α→List Value) (z:α):∀ n,iu_ (f z) n=(List.replicate n z).flatMap f
  | 0=>rfl
  | n+1=>by rw[iu_,List.replicate_succ,List.flatMap_cons,op_ f z n]
end
end Go.Sx
namespace Go.Vs
open Go Go.Sx
def Ky.cells (k:Ky):List Value:=[.int .i64 k.kind,str k.role,str k.atom]
theorem Ky.cells_len (k:Ky):k.cells.length=3:=rfl
def Ky.val (k:Ky):Value:=.agg k.cells.toArray
def oK_ (s:iS_):List Value:=[str s.1,str s.2]
def hz_ (s:iS_):Value:=.agg (oK_ s).toArray
def Ky.eqb (p q:Ky):Bool:=(p.kind==q.kind)&&((p.role==q.role)&&((p.atom==q.atom)&&true))
theorem Ky.eqb_eq (p q:Ky):p.eqb q=decide (p=q):=by
  rw[Bool.eq_iff_iff];cases p;cases q;simp[Ky.eqb]
def we_ (p q:iS_):Bool:=(p.1==q.1)&&((p.2==q.2)&&true)
theorem tw_ (p q:iS_):we_ p q=decide (p=q):=by
  rw[Bool.eq_iff_iff];cases p;cases q;simp[we_]
theorem Fc.cells_one (p:Fc):p.cells.all Value.oneCell'=true:=rfl
end Go.Vs
namespace Go.Sx
open Go Go.Vs
structure Emt (P:Program) (tF:TypeId) where
  stp:Fc→List Fc→List Fc
  kof:List Fc→List Fc
  St:List Fc→List Fc→Hp→Prop
  fn:FuncId
  caps:List Value
  ef:Fct
  kb:Nat
  fb:Nat
  grows:Grows stp kof
  emit:∀ f nw fm H,St nw fm H→Tri P fn (f.val::caps).toArray H [ef] (fun _:{H':Hp // St (stp f nw) fm H'}=>.tuple #[]) (fun y=>y.1) (fun _=>[])
  known:∀ {nw fm H},St nw fm H→∃ es c,(kb,Obj.map es c)∈H∧SetE Fc.val es (kof nw)
  firm:∀ {nw fm H},St nw fm H→∃ es c q,(fb,Obj.map es c)∈H∧SetE Fc.val es q∧∀ f,f∈q↔f∈fm
  setf:∀ {nw fm H} (f:Fc),St nw fm H→∃ es c q Hr,H.Perm ((fb,Obj.map es c)::Hr)∧SetE Fc.val es q∧(∀ f,f∈q↔f∈fm)∧∀ es' c',SetE Fc.val es' (if f∈q then q else q++[f])→∃ H',St nw (f::fm) H'∧H'.Perm ((fb,Obj.map es' c')::Hr)
section
variable {P:Program} {N:Nf} {v0:Vw} {H0:Hp} {R:Exit→Act→World→Prop} {K:List Kt} {fr:Fr} {H:Hp} {Γ:List Fct}
variable {ops:Array Oper} {l:List Oper} {d:Nat} {ty:TypeId} {ps:String} {af:Array Edge} {tF:TypeId} {E:Emt P tF} {nw fm:List Fc} {Hs F:Hp}
theorem lw_ {b:Nat} {o:Obj} {v:Vw} (hp:H.Perm (Hs++F)) (hm:(b,o)∈Hs) (h:v.sat H):v.w.heap[b]? = some o:=(h.own _ (hp.mem_iff.2 (List.mem_append_left _ hm))).1
theorem ih_ {t et:TypeId} {x y:Operand} {f:Fc} (hS:E.St nw fm Hs) (hK:KeyT P tF Fc.val) (hu:∀ w,(underlying t).run P w=.ok (.map tF et) w) (hz:∀ w,(zeroValue et).run P w=.ok (.bool false) w) (hx:Fr.ev fr x=some (.map (some E.kb))) (hy:Fr.ev fr y=some f.val) (hp:H.Perm (Hs++F)) :
    Yld P N fr H Γ (.lookup t x y false) ty (.bool (decide (f∈E.kof nw))):=by
  obtain⟨es,c,g1,g2⟩:=E.known hS
  exact en_ hK hu hz hx hy g2 fun v h _=>lw_ hp g1 h
theorem ou_ {t et:TypeId} {x y:Operand} {f:Fc} (hS:E.St nw fm Hs) (hK:KeyT P tF Fc.val) (hu:∀ w,(underlying t).run P w=.ok (.map tF et) w) (hz:∀ w,(zeroValue et).run P w=.ok (.bool false) w) (hx:Fr.ev fr x=some (.map (some E.fb))) (hy:Fr.ev fr y=some f.val) (hp:H.Perm (Hs++F)) :
    Yld P N fr H Γ (.lookup t x y false) ty (.bool (decide (f∈fm))):=by
  obtain⟨es,c,q,g1,g2,g3⟩:=E.firm hS
  have:=en_ (P:=P) (N:=N) (H:=H) (Γ:=Γ) (ty:=ty) hK hu hz hx hy g2 fun v h _=>lw_ hp g1 h
  have e:decide (f∈q)=decide (f∈fm):=by rw[decide_eq_decide];exact g3 f
  rw[← e];exact this
theorem tR_ {o:Op} {t et:TypeId} {x y z:Operand} {f:Fc} (hS:E.St nw fm Hs) (hK:KeyT P tF Fc.val) (ho:o=.insert t x y z∨o=.mapUpdate t x y z) (hu:∀ w,(underlying t).run P w=.ok (.map tF et) w)
    (hx:Fr.ev fr x=some (.map (some E.fb))) (hy:Fr.ev fr y=some f.val) (hz:Fr.ev fr z=some (.bool true)) (hp:H.Perm (Hs++F))
    (hk:∀ Hs',E.St nw (f::fm) Hs'→Ops P R N v0 H0 ops l K fr (Hs'++F) Γ):Ops P R N v0 H0 ops (⟨none,o,ty,ps,af,none⟩::l) K fr H Γ:=by
  obtain⟨es,c,q,Hr,p1,p2,p3,p4⟩:=E.setf f hS
  refine C_ (H':=(E.fb,.map es c)::(Hr++F)) (hp.trans (by have:=p1.append_right F;simpa using this)) ?_
  refine ji_ 0 hK ho hu hx hy hz rfl p2 fun es' c' hs'=>?_
  obtain⟨H',q1,q2⟩:=p4 es' c' hs'
  simp only[List.set_cons_zero]
  exact C_ (by have:=(q2.append_right F).symm;simpa using this) (hk H' q1)
end
structure EngB where
  g:Nat
  pb:Nat
  ab:Nat
  ub:Nat
  ob:Nat
  ib:Nat
  rb:Nat
  sb:Nat
  lad:Option Addr
  lcap:Nat
  lps:List Str
structure EngA where
  p:Ky→Option Addr×Nat
  a:Str→Option Addr×Nat
  u:Str→Option Addr×Nat
  o:iS_→Option Addr×Nat
  i:iS_→Option Addr×Nat
  r:iS_→Option Addr×Nat
  s:iS_→Option Addr×Nat
def EngB.cells (B:EngB) {P:Program} {tF:TypeId} (E:Emt P tF):List Value :=
  [.map (some B.pb),.slice B.lad B.lps.length B.lcap,.map (some E.kb),.func (.func E.fn) #[] E.caps.toArray,.map (some B.ab),.map (some B.ub),.map (some B.ob),.map (some B.ib),.map (some B.rb),.map (some B.sb),.map (some E.fb)]
structure IxH where
  a:Hp
  u:Hp
  o:Hp
  i:Hp
  r:Hp
  s:Hp
def IxO (tS tF:TypeId) (B:EngB) (x:Ix) (y:IxH):Prop :=
  dZ_ str aE_ tS 1 x.above B.ab y.a∧dZ_ str aE_ tS 1 x.under B.ub y.u∧dZ_ hz_ aE_ tS 1 x.frm B.ob y.o∧dZ_ hz_ aE_ tS 1 x.into B.ib y.i∧dZ_ hz_ Fc.cells tF 6 x.ranges B.rb y.r∧dZ_ hz_ Fc.cells tF 6 x.firms B.sb y.s
end Go.Sx
namespace Go.Proofs.YtamklbgaipakfaaGreatDoor
open Go Go.Sx Go.Proofs
attribute [local irreducible] Code.wp wpList wpAnyH
open Go.Vs
theorem eqKy (p q:Ky) (w:World):(Op.equalIn 10000 250 (Ky.val p) (Ky.val q)).run Tryz.prog w=.ok (decide (p=q)) w:=by
  have h:=run_equalIn_struct (P:=Tryz.prog) w 9999 250 (Ky.cells p).toArray (Ky.cells q).toArray (by simp only[Program.fieldsOf,Tryz.underlying250]) Tryz.stoodInHeld250
  refine h.trans ?_
  rw[← Ky.eqb_eq]
  simp only[Program.fieldsOf,Tryz.underlying250]
  exact bT_ rfl aS_ rfl rfl (eqI B_ w) (bT_ rfl av_ rfl rfl (eqS aV_ w) (bT_ rfl av_ rfl rfl (eqS aV_ w) (jz_ w)))
theorem eqSpot (p q:iS_) (w:World):(Op.equalIn 10000 201 (hz_ p) (hz_ q)).run Tryz.prog w=.ok (decide (p=q)) w:=by
  have h:=run_equalIn_struct (P:=Tryz.prog) w 9999 201 (oK_ p).toArray (oK_ q).toArray (by simp only[Program.fieldsOf,Tryz.underlying201]) Tryz.stoodInHeld201
  refine h.trans ?_
  rw[← tw_]
  simp only[Program.fieldsOf,Tryz.underlying201]
  exact bT_ rfl av_ rfl rfl (eqS aV_ w) (bT_ rfl av_ rfl rfl (eqS aV_ w) (jz_ w))
theorem okKy (p:Ky):if_ Tryz.prog 250 (Ky.val p):=fun e w=>by
 have hi:∀ (n:Int) (w:World),(Instr.checkKey e (9998+1) 3 (.int .i64 n)).run Tryz.prog w=.ok () w:=fun n w=>MapKept.run_checkKey (d:=.int .i64) B_ (by simp[MapKept.IsKey]) e 9998
 have hs:∀ (n:Str) (w:World),(Instr.checkKey e (9998+1) 9 (str n)).run Tryz.prog w=.ok () w:=fun n w=>MapKept.run_checkKey (d:=.string) aV_ (by simp[MapKept.IsKey,str]) e 9998
 refine ckF (n:=9999) Tryz.underlying250 fun f hf=>?_
 simp only[List.mem_cons,List.not_mem_nil,or_false]at hf
 rcases hf with rfl|rfl|rfl
 ·exact⟨rfl,aS_,_,rfl,hi _⟩
 ·exact⟨rfl,av_,_,rfl,hs _⟩
 exact⟨rfl,av_,_,rfl,hs _⟩
theorem okSpot (p:iS_):if_ Tryz.prog 201 (hz_ p):=fun e w=>by
 have hi:∀ (n:Int) (w:World),(Instr.checkKey e (9998+1) 3 (.int .i64 n)).run Tryz.prog w=.ok () w:=fun n w=>MapKept.run_checkKey (d:=.int .i64) B_ (by simp[MapKept.IsKey]) e 9998
 have hs:∀ (n:Str) (w:World),(Instr.checkKey e (9998+1) 9 (str n)).run Tryz.prog w=.ok () w:=fun n w=>MapKept.run_checkKey (d:=.string) aV_ (by simp[MapKept.IsKey,str]) e 9998
 refine ckF (n:=9999) Tryz.underlying201 fun f hf=>?_
 simp only[List.mem_cons,List.not_mem_nil,or_false]at hf
 rcases hf with rfl|rfl
 ·exact⟨rfl,av_,_,rfl,hs _⟩
 exact⟨rfl,av_,_,rfl,hs _⟩
theorem okFc (p:Fc):if_ Tryz.prog 67 p.val:=fun e w=>by
 have hi:∀ (n:Int) (w:World),(Instr.checkKey e (9998+1) 3 (.int .i64 n)).run Tryz.prog w=.ok () w:=fun n w=>MapKept.run_checkKey (d:=.int .i64) B_ (by simp[MapKept.IsKey]) e 9998
 have hs:∀ (n:Str) (w:World),(Instr.checkKey e (9998+1) 9 (str n)).run Tryz.prog w=.ok () w:=fun n w=>MapKept.run_checkKey (d:=.string) aV_ (by simp[MapKept.IsKey,str]) e 9998
 refine ckF (n:=9999) Tryz.underlying67 fun f hf=>?_
 simp only[List.mem_cons,List.not_mem_nil,or_false]at hf
 rcases hf with rfl|rfl|rfl|rfl|rfl|rfl
 ·exact⟨rfl,aS_,_,rfl,hi _⟩
 ·exact⟨rfl,av_,_,rfl,hs _⟩
 ·exact⟨rfl,av_,_,rfl,hs _⟩
 ·exact⟨rfl,av_,_,rfl,hs _⟩
 ·exact⟨rfl,aS_,_,rfl,hi _⟩
 exact⟨rfl,aS_,_,rfl,hi _⟩
theorem hC_:KeyT Tryz.prog 250 Ky.val:=fG_ (K:=Ky) Tryz.underlying250 okKy (fun p q w=>eqKy p q w) fun k=>hN_ (l:=Ky.cells k) fun v hv=>by
 simp only[Ky.cells,List.mem_cons,List.not_mem_nil,or_false]at hv
 rcases hv with rfl|rfl|rfl
 ·exact eF_ _ _
 ·exact dF_ _ _
 exact dF_ _ _
theorem di_:KeyT Tryz.prog 201 hz_:=fG_ (K:=iS_) Tryz.underlying201 okSpot (fun p q w=>eqSpot p q w) fun k=>hN_ (l:=oK_ k) fun v hv=>by
 simp only[oK_,List.mem_cons,List.not_mem_nil,or_false]at hv
 rcases hv with rfl|rfl
 ·exact dF_ _ _
 exact dF_ _ _
theorem jr_:KeyT Tryz.prog 67 Fc.val:=fG_ (K:=Fc) Tryz.underlying67 okFc (fun p q w=>eqFc p q w) fun k=>hN_ (l:=Fc.cells k) fun v hv=>by
 simp only[Fc.cells,List.mem_cons,List.not_mem_nil,or_false]at hv
 rcases hv with rfl|rfl|rfl|rfl|rfl|rfl
 ·exact eF_ _ _
 ·exact dF_ _ _
 ·exact dF_ _ _
 ·exact dF_ _ _
 ·exact eF_ _ _
 exact eF_ _ _
theorem uf_:KeyT Tryz.prog 58 Pc.val:=fG_ (K:=Pc) fP_ rA_ (fun p q w=>eqPc p q w) fun k=>hN_ (l:=Pc.cells k) fun v hv=>by
 simp only[Pc.cells,List.mem_cons,List.not_mem_nil,or_false]at hv
 rcases hv with rfl|rfl|rfl|rfl|rfl|rfl|rfl|rfl|rfl|rfl
 ·exact eF_ _ _
 ·exact dF_ _ _
 ·exact dF_ _ _
 ·exact dF_ _ _
 ·exact dF_ _ _
 ·exact dF_ _ _
 ·exact dF_ _ _
 ·exact eF_ _ _
 ·exact eF_ _ _
 exact eF_ _ _
theorem jq_:KeyT Tryz.prog 9 str:=ud_ aV_
theorem ob_:Elt Tryz.prog 59 67 6 72:=hZ_ Tryz.underlying59 (z:=.agg #[.int .i64 0,str [],str [],str [],.int .i64 0,.int .i64 0]) (by kernel_rfl) rfl (by decide)
theorem hY_:Elt Tryz.prog 54 58 10 128:=hZ_ Tryz.underlying54 (z:=.agg #[.int .i64 0,str [],str [],str [],str [],str [],str [],.int .i64 0,.int .i64 0,.int .i64 0]) (by kernel_rfl) rfl (by decide)
theorem dM_:Elt Tryz.prog 23 9 1 16:=hZ_ hK_ (z:=.string ⟨#[]⟩) (by kernel_rfl) rfl (by decide)
theorem fa_:iv_ Tryz.prog 250 [(0,1),(1,1),(2,1)] [.int .i64 0,str [],str []]:=⟨_,Tryz.zeroValue250,Tryz.runUnderlying250,fun w=>by simp[ao_,O_]⟩
theorem fQ_:iv_ Tryz.prog 201 [(0,1),(1,1)] [str [],str []]:=⟨_,cG_,Tryz.runUnderlying201,fun w=>by simp[O_]⟩
theorem uY_:iv_ Tryz.prog 125 [(0,1),(1,1),(2,1),(3,1),(4,1),(5,1),(6,1),(7,1),(8,1),(9,1),(10,1)] [.map none,.slice none 0 0,.map none,.nilFunc,.map none,.map none,.map none,.map none,.map none,.map none,.map none]:=⟨_,Tryz.zeroValue125,cO_,fun w=>by simp[gR_,Tryz.sizeOf118,Tryz.sizeOf119,fc_,Tryz.sizeOf121,Tryz.sizeOf122,Tryz.sizeOf123]⟩
theorem cP_ (s:Str):(aE_ s).all Value.oneCell'=true:=rfl
theorem pB_ (s:Int):(ew_ s).all Value.oneCell'=true:=rfl
def gF (B:EngB) (E:Emt Tryz.prog 67):Fct:=bi_ B.g (.cells (B.cells E).toArray 125 (0,0))
def pF (B:EngB) (pm:List (Ky×Pc)) (A:EngA):Fct:=mlF Tryz.prog 250 Ky.val Pc.cells B.pb pm A.p
def aF (B:EngB) (x:Ix) (A:EngA):Fct:=mlF Tryz.prog 9 str aE_ B.ab x.above A.a
def uF (B:EngB) (x:Ix) (A:EngA):Fct:=mlF Tryz.prog 9 str aE_ B.ub x.under A.u
def oF (B:EngB) (x:Ix) (A:EngA):Fct:=mlF Tryz.prog 201 hz_ aE_ B.ob x.frm A.o
def iF (B:EngB) (x:Ix) (A:EngA):Fct:=mlF Tryz.prog 201 hz_ aE_ B.ib x.into A.i
def rF (B:EngB) (x:Ix) (A:EngA):Fct:=mlF Tryz.prog 201 hz_ Fc.cells B.rb x.ranges A.r
def sF (B:EngB) (x:Ix) (A:EngA):Fct:=mlF Tryz.prog 201 hz_ Fc.cells B.sb x.firms A.s
end Go.Proofs.YtamklbgaipakfaaGreatDoor
