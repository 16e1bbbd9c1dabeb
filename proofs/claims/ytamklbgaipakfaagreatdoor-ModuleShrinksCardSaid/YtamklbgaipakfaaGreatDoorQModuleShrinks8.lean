/-
  Part of the proof of the law ModuleShrinks over this seat: the small logic, the data, the contracts of functions (no condition).
-/
import Derived.Test.YtamklbgaipakfaaGreatDoorQModuleShrinks7
import Derived.Test.YtamklbgaipakfaaGreatDoorQModuleShrinks1
import Derived.Scope
import Derived.Lib.Join
import Derived.Lib.AppendZeros
import Derived.Test.YtamklbgaipakfaaGreatDoorQModuleShrinks2
import Derived.Test.YtamklbgaipakfaaGreatDoorQModuleShrinks3
import Derived.Maps.RangeRun
import Derived.WalkSpells
set_option linter.unusedVariables false
set_option linter.unusedSimpArgs false
set_option linter.unusedSectionVars false
set_option maxHeartbeats 1000000
namespace Go.Sx
open Go Go.Vs
structure KeyT (P:Program) (kt:TypeId) {K:Type} [DecidableEq K] (kv:K→Value):Prop where
  ok:∀ k,ji_ P kt (kv k)
  nf:∀ (k:K) (es:List MapEntry) (ks:List K),es.map (·.key)=ks.map kv→k ∉ ks→cP_ P kt (kv k) es none
  sf:∀ (k:K) (es:List MapEntry) (ks:List K) (i:Nat) (e:MapEntry),es.map (·.key)=ks.map kv→ks.Nodup→ks[i]? = some k→es[i]? = some e→cP_ P kt (kv k) es (some (i,e.val))
  same:∀ k,Instr.sameBits 10000 (kv k) (kv k)=true
section
variable {P:Program}
theorem kI_ (a b:List UInt8):((⟨a.toArray⟩:ByteArray)==⟨b.toArray⟩)=decide (a=b):=by
  show (a.toArray==b.toArray)=_
  rw[Bool.eq_iff_iff]
  simp
theorem tb_ {kt:TypeId} (hu:P.underlying kt=some .string):KeyT P kt str where
  ok:=fun k e w=>by
    have key:∀ m,(Instr.checkKey e (m+1) kt (str k)).run P w=.ok () w:=fun m=>by simp[Instr.checkKey,run_underlying hu,str]
    exact key 9999
  nf:=fun k es ks h hk=>aP_ hu (by
    have:∀ (ks:List Str) (es:List MapEntry) (i:Nat),es.map (·.key)=ks.map str→k ∉ ks→Instr.findNow .string (str k) es i=some none:=by
      intro ks
      induction ks with
      | nil => intro es i h _; have : es = [] := by simpa using h
               subst this;rfl
      | cons q ks ih =>
        intro es i h hk
        cases es with
        | nil=>simp at h
        | cons e es =>
          simp only[List.map_cons,List.cons.injEq]at h
          simp only[List.mem_cons,not_or]at hk
          have hs:Instr.sameNow .string (str k) e.key=some false:=by
            rw[h.1]
            show some ((⟨k.toArray⟩:ByteArray)==⟨q.toArray⟩)=some false
            rw[kI_,decide_eq_false hk.1]
          simp only[Instr.findNow,hs]
          exact ih es (i+1) h.2 hk.2
    exact this ks es 0 h hk)
  sf:=fun k es ks i e h hn hi he=>aP_ hu (by
    have:∀ (ks:List Str) (es:List MapEntry) (j i:Nat),es.map (·.key)=ks.map str→ks.Nodup→ks[i]? = some k→es[i]? = some e→Instr.findNow .string (str k) es j=some (some (j+i,e.val)):=by
      intro ks
      induction ks with
      | nil=>intro es j i _ _ h;simp at h
      | cons q ks ih =>
        intro es j i h hn hi he
        cases es with
        | nil=>simp at h
        | cons x es =>
          simp only[List.map_cons,List.cons.injEq]at h
          rw[List.nodup_cons]at hn
          cases i with
          | zero =>
            simp only[List.getElem?_cons_zero,Option.some.injEq]at hi he
            subst hi;subst he
            have hs:Instr.sameNow .string (str q) x.key=some true:=by
              rw[h.1]
              show some ((⟨q.toArray⟩:ByteArray)==⟨q.toArray⟩)=some true
              rw[kI_,decide_eq_true rfl]
            simp only[Instr.findNow,hs,Nat.add_zero]
          | succ i =>
            simp only[List.getElem?_cons_succ]at hi he
            have hne:k≠q:=fun e=>hn.1 (e▸List.mem_of_getElem? hi)
            have hs:Instr.sameNow .string (str k) x.key=some false:=by
              rw[h.1]
              show some ((⟨k.toArray⟩:ByteArray)==⟨q.toArray⟩)=some false
              rw[kI_,decide_eq_false hne]
            simp only[Instr.findNow,hs]
            rw[ih es (j+1) i h.2 hn.2 hi he,show j+1+i=j+(i+1) by omega]
    have:=this ks es 0 i h hn hi he
    rwa [Nat.zero_add]at this)
  same:=fun k=>by
    have key:∀ m,Instr.sameBits m (str k) (str k)=true:=fun m=>by
      cases m<;>(show ((⟨k.toArray⟩:ByteArray)==⟨k.toArray⟩)=true;rw[kI_,decide_eq_true rfl])
    exact key 10000
theorem nX_ {K:Type} [DecidableEq K] {kt:TypeId} {fs:Array Field} {kv:K→Value} (hu:P.underlying kt=some (.struct fs)) (hok:∀ k,ji_ P kt (kv k)) (heq:∀ p q w,(Op.equal kt (kv p) (kv q)).run P w=.ok (decide (p=q)) w) (hsame:∀ k,Instr.sameBits 10000 (kv k) (kv k)=true):KeyT P kt kv where
  ok:=hok
  nf:=fun k es ks h hk=>(gb_ hu heq k ks es h).1 hk
  sf:=fun k es ks i e h hn hi he=>by
    have key:∀ (ks:List K) (es:List MapEntry) (j i:Nat),es.map (·.key)=ks.map kv→ks.Nodup→ks[i]? = some k→es[i]? = some e→∀ w,(Instr.findAsking kt (kv k) es j).run P w=.ok (some (j+i,e.val)) w:=by
      intro ks
      induction ks with
      | nil=>intro es j i _ _ h;simp at h
      | cons q ks ih =>
        intro es j i h hn hi he w
        cases es with
        | nil=>simp at h
        | cons x es =>
          simp only[List.map_cons,List.cons.injEq]at h
          rw[List.nodup_cons]at hn
          cases i with
          | zero =>
            simp only[List.getElem?_cons_zero,Option.some.injEq]at hi he
            subst hi;subst he
            simp only[Instr.findAsking,Sem.run_bind,h.1,heq,Result.andThen_ok,decide_true,if_true,Sem.run_pure,Nat.add_zero]
          | succ i =>
            simp only[List.getElem?_cons_succ]at hi he
            have hne:k≠q:=fun e=>hn.1 (e▸List.mem_of_getElem? hi)
            simp only[Instr.findAsking,Sem.run_bind,h.1,heq,Result.andThen_ok,hne,decide_false,Bool.false_eq_true,if_false]
            rw[ih es (j+1) i h.2 hn.2 hi he w,show j+1+i=j+(i+1) by omega]
    intro w
    have hnow:∀ (x:MapEntry) (r:List MapEntry),Instr.findNow (.struct fs) (kv k) (x::r) 0=none:=fun x r=>by simp[Instr.findNow,Instr.sameNow]
    cases es with
    | nil=>simp at he
    | cons x r =>
      simp only[Instr.findKey,Sem.run_bind,run_underlying hu,Result.andThen_ok,hnow]
      have:=key ks (x::r) 0 i h hn hi he w
      rwa [Nat.zero_add]at this
  same:=hsame
end
theorem ns_ (n:Nat) {k:IntKind} (i:Int):Instr.sameBits n (.int k i) (.int k i)=true:=by
  cases n<;>simp[Instr.sameBits]
theorem sw_ (n:Nat) (s:List UInt8):Instr.sameBits n (str s) (str s)=true:=by
  cases n<;>(show ((⟨s.toArray⟩:ByteArray)==⟨s.toArray⟩)=true;rw[kI_,decide_eq_true rfl])
theorem sx_ {n:Nat} {l:List Value} (h:∀ v∈l,Instr.sameBits n v v=true):Instr.sameBits (n+1) (.agg l.toArray) (.agg l.toArray)=true:=by
 simp only[Instr.sameBits,BEq.rfl,Bool.true_and,List.all_eq_true]
 intro p hp
 have:∀ (l:List Value),(∀ v∈l,Instr.sameBits n v v=true)→∀ p∈l.zip l,Instr.sameBits n p.1 p.2=true:=by
   intro l
   induction l with
   | nil=>intro _ p hp;simp at hp
   | cons a l ih =>
     intro h p hp
     simp only[List.zip_cons_cons,List.mem_cons]at hp
     rcases hp with rfl|hp
     · exact h a (by simp)
     · exact ih (fun v hv=>h v (by simp[hv])) p hp
 exact this l h p hp
structure Born (es:Array MapEntry) (c:Nat):Prop where
  lt:∀ x∈es.toList,x.born<c
  nd:(es.toList.map (·.born)).Nodup
theorem Born.nil (c:Nat):Born #[] c:=⟨by simp,by simp⟩
theorem Born.push {es:Array MapEntry} {c:Nat} (h:Born es c) (key val:Value):Born (es.push ⟨key,val,c⟩) (c+1):=by
 refine⟨fun x hx=>?_,?_⟩
 ·rw[Array.toList_push,List.mem_append]at hx
  rcases hx with hx|hx
  ·exact Nat.lt_succ_of_lt (h.lt x hx)
  rw[List.mem_singleton]at hx;rw[hx];exact Nat.lt_succ_self _
 rw[Array.toList_push,List.map_append,List.nodup_append]
 refine⟨h.nd,by simp,fun a ha b hb e=>?_⟩
 obtain⟨x,hx,rfl⟩:=List.mem_map.1 ha
 simp at hb
 have:=h.lt x hx
 omega
theorem Born.modify {es:Array MapEntry} {c:Nat} (h:Born es c) (i:Nat) (f:MapEntry→MapEntry) (hf:∀ e,(f e).born=e.born):Born (es.modify i f) c:=by
 have hb:(es.modify i f).toList.map (·.born)=es.toList.map (·.born):=by
   apply List.ext_getElem?
   intro j
   simp only[List.getElem?_map,Array.getElem?_toList,Array.getElem?_modify]
   split
   · cases es[j]? <;> simp[hf]
   · rfl
 refine⟨fun x hx=>?_,by rw[hb];exact h.nd⟩
 have:x.born∈(es.modify i f).toList.map (·.born):=List.mem_map_of_mem hx
 rw[hb]at this
 obtain⟨y,hy,e⟩:=List.mem_map.1 this
 rw[← e];exact h.lt y hy
theorem Born.find {es:Array MapEntry} {c i:Nat} {x:MapEntry} (h:Born es c) (hx:es[i]? = some x):es.findIdx? (fun e=>(e.born:Int)==(x.born:Int))=some i:=by
  rw[Array.findIdx?_eq_some_iff_getElem]
  obtain⟨hi,rfl⟩:=Array.getElem?_eq_some_iff.1 hx
  refine⟨hi,by simp,fun j hj=>?_⟩
  simp only[beq_eq_false_iff_ne,ne_eq,Bool.not_eq_true]
  intro e
  have hji:j<es.size:=Nat.lt_trans hj hi
  have:=h.nd
  rw[List.nodup_iff_pairwise_ne,List.pairwise_iff_getElem]at this
  have:=this j i (by simpa using hji) (by simpa using hi) hj
  simp at this
  exact this (by exact_mod_cast e)
section
variable {K D:Type} [DecidableEq K] (kv:K→Value) (cells:D→List Value) (e:TypeId) (sz:Nat) (l:List (K×D))
def fK_:List K→List MapEntry→Hp→Prop
  | [],[],H=>H=[]
  | k::ks,x::es,H=>∃ Hk Hr,H=Hk++Hr∧x.key=kv k∧ar_ e sz x.val (lat l k).length ((lat l k).flatMap cells) Hk∧fK_ ks es Hr
  | _,_,_=>False
def gk_ (mb:Nat) (H:Hp):Prop:=∃ ks es c Hr,H=(mb,.map es c)::Hr∧ks.Nodup∧(∀ x∈l,x.1∈ks)∧fK_ kv cells e sz l ks es.toList Hr∧Born es c
end
section
variable {K D:Type} [DecidableEq K] {kv:K→Value} {cells:D→List Value} {e:TypeId} {sz:Nat} {l:List (K×D)}
theorem fK_.keys:∀ {ks:List K} {es:List MapEntry} {H:Hp},fK_ kv cells e sz l ks es H→es.map (·.key)=ks.map kv
  | [],[],_,_=>rfl
  | k::ks,x::es,_,h=>by
    obtain⟨Hk,Hr,_,h1,_,h2⟩:=h
    simp[h1,h2.keys]
  | [],_::_,_,h=>h.elim
  | _::_,[],_,h=>h.elim
theorem fK_.congr {l':List (K×D)}:∀ {ks:List K} {es:List MapEntry} {H:Hp},(∀ k∈ks,lat l' k=lat l k)→fK_ kv cells e sz l ks es H→fK_ kv cells e sz l' ks es H
  | [],[],_,_,h=>h
  | k::ks,x::es,_,hl,h=>by
    obtain⟨Hk,Hr,h0,h1,h2,h3⟩:=h
    exact⟨Hk,Hr,h0,h1,by rw[hl k (by simp)];exact h2,h3.congr fun q hq=>hl q (by simp[hq])⟩
  | [],_::_,_,_,h=>h.elim
  | _::_,[],_,_,h=>h.elim
theorem fK_.get : ∀ {ks : List K} {es : List MapEntry} {H : Hp} {i : Nat} {k : K}, fK_ kv cells e sz l ks es H → ks.Nodup → ks[i]? = some k → ∃ x Hk Hr, es[i]? = some x ∧ H.Perm (Hk ++ Hr) ∧ x.key = kv k ∧ ar_ e sz x.val (lat l k).length ((lat l k).flatMap cells) Hk ∧
      ∀ (l':List (K×D)) (y:MapEntry) (Hk':Hp),y.key=kv k→(∀ q,q≠k→lat l' q=lat l q)→ar_ e sz y.val (lat l' k).length ((lat l' k).flatMap cells) Hk'→∃ H',fK_ kv cells e sz l' ks (es.set i y) H'∧H'.Perm (Hk'++Hr)
  | [],_,_,_,_,_,_,h=>by simp at h
  | _::_,[],_,_,_,h,_,_=>h.elim
  | q::ks,x::es,H,0,k,h,hn,hi=>by
    simp only[List.getElem?_cons_zero,Option.some.injEq]at hi
    subst hi
    rw[List.nodup_cons]at hn
    obtain⟨Hk,Hr,h0,h1,h2,h3⟩:=h
    exact⟨x,Hk,Hr,rfl,h0▸.refl _,h1,h2,fun l' y Hk' g1 g2 g3=>⟨Hk'++Hr,⟨Hk',Hr,rfl,g1,g3,h3.congr fun z hz=>g2 z (fun e=>hn.1 (e▸hz))⟩,.refl _⟩⟩
  | q::ks,x::es,H,i+1,k,h,hn,hi=>by
    simp only[List.getElem?_cons_succ]at hi
    rw[List.nodup_cons]at hn
    obtain⟨Hq,Ho,h0,h1,h2,h3⟩:=h
    obtain⟨y,Hk,Hr,i1,i2,i3,i4,i5⟩:=h3.get hn.2 hi
    have hne:q≠k:=fun e=>hn.1 (e▸List.mem_of_getElem? hi)
    refine⟨y,Hk,Hq++Hr,i1,?_,i3,i4,fun l' z Hk' g1 g2 g3=>?_⟩
    · rw[h0]
      refine (List.Perm.append_left Hq i2).trans ?_
      rw[← List.append_assoc,← List.append_assoc]
      exact List.perm_append_comm.append_right _
    · obtain⟨H',j1,j2⟩:=i5 l' z Hk' g1 g2 g3
      refine⟨Hq++H',⟨Hq,H',rfl,h1,by rw[g2 q hne];exact h2,j1⟩,(List.Perm.append_left Hq j2).trans ?_⟩
      rw[← List.append_assoc,← List.append_assoc]
      exact List.perm_append_comm.append_right _
theorem fK_.push:∀ {ks:List K} {es:List MapEntry} {H:Hp} {k:K} {x:MapEntry} {Hk:Hp},fK_ kv cells e sz l ks es H→x.key=kv k→ar_ e sz x.val (lat l k).length ((lat l k).flatMap cells) Hk→fK_ kv cells e sz l (ks++[k]) (es++[x]) (H++Hk)
  | [],[],_,k,x,Hk,h,h1,h2=>by subst h;exact⟨Hk,[],by simp,h1,h2,rfl⟩
  | q::ks,y::es,_,k,x,Hk,h,h1,h2=>by
    obtain⟨Hq,Hr,rfl,g1,g2,g3⟩:=h
    exact⟨Hq,Hr++Hk,by simp,g1,g2,g3.push h1 h2⟩
  | [],_::_,_,_,_,_,h,_,_=>h.elim
  | _::_,[],_,_,_,_,h,_,_=>h.elim
theorem gV_ {k q:K} {d:D} (h:q≠k):lat (l++[(k,d)]) q=lat l q:=by
  rw[hy_];simp[lat,Ne.symm h]
theorem sY_ {k:K} {d:D}:lat (l++[(k,d)]) k=lat l k++[d]:=by
  rw[hy_];simp[lat]
theorem gk_.open {P:Program} {kt:TypeId} (hK:KeyT P kt kv) {mb:Nat} {H:Hp} (h:gk_ kv cells e sz l mb H) (k:K) :
    ∃ es c sv Hk Hr,H.Perm ((mb,.map es c)::(Hk++Hr))∧ar_ e sz sv (lat l k).length ((lat l k).flatMap cells) Hk ∧
      ((cP_ P kt (kv k) es.toList none∧sv=.slice none 0 0∧∀ d sv' Hk',ar_ e sz sv' (lat (l++[(k,d)]) k).length ((lat (l++[(k,d)]) k).flatMap cells) Hk'→∃ H',gk_ kv cells e sz (l++[(k,d)]) mb H'∧H'.Perm ((mb,.map (es.push ⟨kv k,sv',c⟩) (c+1))::(Hk'++Hr))) ∨
       (∃ i x,cP_ P kt (kv k) es.toList (some (i,sv))∧es[i]? = some x∧x.key=kv k∧x.val=sv∧∀ d sv' Hk',ar_ e sz sv' (lat (l++[(k,d)]) k).length ((lat (l++[(k,d)]) k).flatMap cells) Hk'→∃ H',gk_ kv cells e sz (l++[(k,d)]) mb H'∧H'.Perm ((mb,.map (es.modify i fun y=>{ y with key:=kv k,val:=sv' }) c)::(Hk'++Hr)))):=by
  obtain⟨ks,es,c,Ho,rfl,hn,hl,hm,hbn⟩:=h
  by_cases hk:k∈ks
  · obtain⟨i,hi⟩:=List.getElem?_of_mem hk
    obtain⟨x,Hk,Hr,g1,g2,g3,g4,g5⟩:=hm.get hn hi
    have hx:es[i]? = some x:=by rw[← Array.getElem?_toList];exact g1
    refine⟨es,c,x.val,Hk,Hr,.cons _ g2,g4,.inr ⟨i,x,hK.sf k es.toList ks i x hm.keys hn hi g1,hx,g3,rfl,fun d sv' Hk' hs=>?_⟩⟩
    obtain⟨H',j1,j2⟩:=g5 (l++[(k,d)]) { x with key:=kv k,val:=sv' } Hk' rfl (fun q hq=>gV_ hq) hs
    refine⟨(mb,.map (es.modify i fun y=>{ y with key:=kv k,val:=sv' }) c)::H',⟨ks,_,c,H',rfl,hn,fun y hy=>?_,?_,hbn.modify i _ fun _=>rfl⟩,.cons _ j2⟩
    · rcases List.mem_append.1 hy with hy|hy
      · exact hl y hy
      · simp at hy;rw[hy];exact hk
    · have e1:(es.modify i fun y=>{ y with key:=kv k,val:=sv' }).toList=es.toList.set i { x with key:=kv k,val:=sv' }:=by
        apply List.ext_getElem?
        intro j
        rw[Array.getElem?_toList,Array.getElem?_modify,List.getElem?_set,Array.getElem?_toList]
        by_cases hij:i=j
        · subst hij
          have hlt:i<es.toList.length:=(List.getElem?_eq_some_iff.1 g1).1
          simp only[if_true,hx,Option.map_some,if_pos hlt]
        · simp[hij]
      rw[e1];exact j1
  · have hlat:lat l k=[]:=by
      apply List.eq_nil_iff_forall_not_mem.2
      intro d hd
      exact hk (hl _ (mr_.1 hd))
    refine⟨es,c,.slice none 0 0,[],Ho,.refl _,by rw[hlat];exact ar_.nil _ _,.inl ⟨hK.nf k es.toList ks hm.keys hk,rfl,fun d sv' Hk' hs=>?_⟩⟩
    refine⟨(mb,.map (es.push ⟨kv k,sv',c⟩) (c+1))::(Ho++Hk'),⟨ks++[k],_,_,_,rfl,?_,fun y hy=>?_,?_,hbn.push _ _⟩,.cons _ List.perm_append_comm⟩
    · rw[List.nodup_append];exact⟨hn,by simp,fun a ha b hb e=>by simp at hb;subst hb;subst e;exact hk ha⟩
    · rcases List.mem_append.1 hy with hy|hy
      · exact List.mem_append_left _ (hl y hy)
      · simp at hy;simp[hy]
    · rw[Array.toList_push]
      exact (hm.congr fun q hq=>gV_ (fun (e:q=k)=>hk (e▸hq))).push rfl hs
structure MOpn (kv:K→Value) (cells:D→List Value) (e:TypeId) (sz:Nat) (l:List (K×D)) (mb:Nat) (k:K) (es:Array MapEntry) (c i:Nat) (st:Int) (Hr:Hp):Prop where
  find:es.findIdx? (fun x=>(x.born:Int)==st)=some i
  close:∀ d sv' Hk',ar_ e sz sv' (lat (l++[(k,d)]) k).length ((lat (l++[(k,d)]) k).flatMap cells) Hk'→∃ H',gk_ kv cells e sz (l++[(k,d)]) mb H'∧H'.Perm ((mb,.map (es.modify i fun y=>{ y with val:=sv' }) c)::(Hk'++Hr))
theorem pd_ {es:Array MapEntry} {i:Nat} {x:MapEntry} {key:Value} (hx:es[i]? = some x) (hk:x.key=key):(es.modify i fun y=>{ y with key:=key })=es:=by
 apply Array.ext_getElem?
 intro j
 rw[Array.getElem?_modify]
 by_cases hij:i=j
 ·subst hij;rw[if_pos rfl,hx];simp only[Option.map_some];rw[← hk]
 rw[if_neg hij]
theorem gk_.entry {P:Program} {kt:TypeId} (hK:KeyT P kt kv) {mb:Nat} {H:Hp} (h:gk_ kv cells e sz l mb H) (k:K) :
    ∃ es c es' c' i st sv Hk Hr,H.Perm ((mb,.map es c)::(Hk++Hr))∧ar_ e sz sv (lat l k).length ((lat l k).flatMap cells) Hk∧MOpn kv cells e sz l mb k es' c' i st Hr ∧
      ((cP_ P kt (kv k) es.toList none∧sv=.slice none 0 0∧es'=es.push ⟨kv k,.slice none 0 0,c⟩∧c'=c+1∧st=(c:Int))∨(∃ j x,cP_ P kt (kv k) es.toList (some (j,sv))∧es[j]? = some x∧x.key=kv k∧es'=es∧c'=c∧st=(x.born:Int))):=by
  have h0:=h
  obtain⟨ks,es,c,Ho,rfl,hn,hl,hm,hbn⟩:=h0
  by_cases hk:k∈ks
  · obtain⟨i,hi⟩:=List.getElem?_of_mem hk
    obtain⟨x,Hk,Hr,g1,g2,g3,g4,g5⟩:=hm.get hn hi
    have hx:es[i]? = some x:=by rw[← Array.getElem?_toList];exact g1
    refine⟨es,c,es,c,i,x.born,x.val,Hk,Hr,.cons _ g2,g4,⟨hbn.find hx,fun d sv' Hk' hs=>?_⟩,.inr ⟨i,x,hK.sf k es.toList ks i x hm.keys hn hi g1,hx,g3,rfl,rfl,rfl⟩⟩
    obtain⟨H',j1,j2⟩:=g5 (l++[(k,d)]) { x with key:=kv k,val:=sv' } Hk' rfl (fun q hq=>gV_ hq) hs
    refine⟨(mb,.map (es.modify i fun y=>{ y with val:=sv' }) c)::H',⟨ks,_,c,H',rfl,hn,fun y hy=>?_,?_,hbn.modify i _ fun _=>rfl⟩,.cons _ j2⟩
    · rcases List.mem_append.1 hy with hy|hy
      · exact hl y hy
      · simp at hy;rw[hy];exact hk
    · have e1:(es.modify i fun y=>{ y with val:=sv' }).toList=es.toList.set i { x with key:=kv k,val:=sv' }:=by
        apply List.ext_getElem?
        intro j
        rw[Array.getElem?_toList,Array.getElem?_modify,List.getElem?_set,Array.getElem?_toList]
        by_cases hij:i=j
        · subst hij
          have hlt:i<es.toList.length:=(List.getElem?_eq_some_iff.1 g1).1
          simp only[if_true,hx,Option.map_some,if_pos hlt]
          rw[← g3]
        · simp[hij]
      rw[e1];exact j1
  · have hlat:lat l k=[]:=by
      apply List.eq_nil_iff_forall_not_mem.2
      intro d hd
      exact hk (hl _ (mr_.1 hd))
    have hb2:=hbn.push (kv k) (.slice none 0 0)
    have hget:(es.push ⟨kv k,.slice none 0 0,c⟩)[es.size]? = some ⟨kv k,.slice none 0 0,c⟩:=by simp
    refine⟨es,c,es.push ⟨kv k,.slice none 0 0,c⟩,c+1,es.size,(c:Int),.slice none 0 0,[],Ho,.refl _,by rw[hlat];exact ar_.nil _ _,⟨hb2.find hget,fun d sv' Hk' hs=>?_⟩,.inl ⟨hK.nf k es.toList ks hm.keys hk,rfl,rfl,rfl,rfl⟩⟩
    have e2:((es.push ⟨kv k,.slice none 0 0,c⟩).modify es.size fun y=>{ y with val:=sv' })=es.push ⟨kv k,sv',c⟩:=by
      apply Array.ext_getElem?
      intro j
      rw[Array.getElem?_modify,Array.getElem?_push,Array.getElem?_push]
      by_cases hj:j=es.size
      · subst hj;simp
      · rw[if_neg (fun q=>hj q.symm),if_neg hj,if_neg hj]
    rw[e2]
    refine⟨(mb,.map (es.push ⟨kv k,sv',c⟩) (c+1))::(Ho++Hk'),⟨ks++[k],_,_,_,rfl,?_,fun y hy=>?_,?_,hbn.push _ _⟩,.cons _ List.perm_append_comm⟩
    · rw[List.nodup_append];exact⟨hn,by simp,fun a ha b hb e=>by simp at hb;subst hb;subst e;exact hk ha⟩
    · rcases List.mem_append.1 hy with hy|hy
      · exact List.mem_append_left _ (hl y hy)
      · simp at hy;simp[hy]
    · rw[Array.toList_push]
      exact (hm.congr fun q hq=>gV_ (fun (e:q=k)=>hk (e▸hq))).push rfl hs
theorem gk_.nil (mb:Nat) (c:Nat):gk_ kv cells e sz ([]:List (K×D)) mb [(mb,.map #[] c)]:=⟨[],#[],c,[],rfl,List.nodup_nil,by simp,rfl,Born.nil c⟩
def mlF (P:Program) (kt:TypeId) (kv:K→Value) (cells:D→List Value) (mb:Nat) (l:List (K×D)) (adr:K→Option Addr×Nat):Fct where
  p:=fun v=>v.im mb∧∃ es c,v.w.heap[mb]? = some (.map es c)∧∀ k,bA_ v (adr k).1 ((lat l k).flatMap cells) ∧
    ((cP_ P kt (kv k) es.toList none∧Value.slice (adr k).1 (lat l k).length (adr k).2=.slice none 0 0)∨∃ i,cP_ P kt (kv k) es.toList (some (i,.slice (adr k).1 (lat l k).length (adr k).2)))
  mono:=fun v v' h ⟨h1,es,c,h2,h3⟩=>⟨h.imUp mb h1,es,c,by rw[h.block mb h1];exact h2,fun k=>⟨(ac_ _ _).mono v v' h (h3 k).1,(h3 k).2⟩⟩
theorem qb_ {P:Program} {kt:TypeId} {mb:Nat} {adr:K→Option Addr×Nat} {v:Vw} (h:(mlF P kt kv cells mb l adr).p v) (k:K):bA_ v (adr k).1 ((lat l k).flatMap cells):=by
  obtain⟨_,_,_,_,h⟩:=h
  exact (h k).1
theorem qP_ {sv:Value} {n:Nat} {xs:List Value} {Hr:Hp} {v:Vw} (h:ar_ e sz sv n xs Hr) (hv:∀ p∈Hr,v.im p.1∧v.w.heap[p.1]? = some p.2):∃ ad cap,sv=.slice ad n cap∧n≤cap∧cap≤maxLen∧(n≠0→∃ b,ad=some ⟨b,0,none⟩)∧bA_ v ad xs:=by
 rcases h.2 with⟨rfl,rfl,rfl⟩|⟨g,cap,cur,rfl,rfl,h3,h4,h5,h6⟩
 ·have:xs=[]:=List.eq_nil_of_length_eq_zero (by simpa using h.1)
  exact⟨none,0,rfl,Nat.le_refl _,by simp[maxLen],fun h=>absurd rfl h,.inl this⟩
 obtain⟨g1,g2⟩:=hv _ (List.mem_singleton.2 rfl)
 refine⟨some ⟨g,0,none⟩,cap,rfl,h3,h4,fun _=>⟨g,rfl⟩,.inr ⟨g,0,cur,e,(0,0),rfl,g1,g2,fun j x hj=>?_⟩⟩
 rw[← h6,List.getElem?_take]at hj
 split at hj
 ·rw[Nat.zero_add,← Array.getElem?_toList];exact hj
 cases hj
theorem gk_.lent {P:Program} {kt:TypeId} (hK:KeyT P kt kv) {mb:Nat} {H:Hp} (h:gk_ kv cells e sz l mb H):∃ adr,∀ v:Vw,(∀ p∈H,v.im p.1∧v.w.heap[p.1]? = some p.2)→(mlF P kt kv cells mb l adr).p v:=by
 have h0:=h
 obtain⟨ks,es,c,Ho,rfl,hn,hl,hm,_⟩:=h0
 have key:∀ k,∃ q:Option Addr×Nat,∀ v:Vw,(∀ p∈(mb,Obj.map es c)::Ho,v.im p.1∧v.w.heap[p.1]? = some p.2)→bA_ v q.1 ((lat l k).flatMap cells)∧((cP_ P kt (kv k) es.toList none∧Value.slice q.1 (lat l k).length q.2=.slice none 0 0)∨∃ i,cP_ P kt (kv k) es.toList (some (i,.slice q.1 (lat l k).length q.2))):=fun k=>by
   by_cases hk:k∈ks
   · obtain⟨i,hi⟩:=List.getElem?_of_mem hk
     obtain⟨x,Hk,Hr,g1,g2,g3,g4,_⟩:=hm.get hn hi
     have hf:=hK.sf k es.toList ks i x hm.keys hn hi g1
     have hsl:∃ ad cap,x.val=.slice ad (lat l k).length cap:=by
       rcases g4.2 with⟨q1,q2,_⟩|⟨g,cap,cur,q1,_⟩
       · exact⟨none,0,by rw[q1,q2]⟩
       · exact⟨_,cap,q1⟩
     obtain⟨ad,cap,hx⟩:=hsl
     refine⟨(ad,cap),fun v hv=>⟨?_,.inr ⟨i,by rw[← hx];exact hf⟩⟩⟩
     obtain⟨ad',cap',e1,_,_,_,hr⟩:=qP_ g4 fun p hp=>hv p (List.mem_cons_of_mem _ (g2.mem_iff.2 (List.mem_append_left _ hp)))
     rw[hx]at e1
     simp only[Value.slice.injEq]at e1
     rw[e1.1];exact hr
   · have hlat:lat l k=[]:=by
       apply List.eq_nil_iff_forall_not_mem.2
       intro d hd
       exact hk (hl _ (mr_.1 hd))
     exact⟨(none,0),fun v hv=>⟨.inl (by rw[hlat];rfl),.inl ⟨hK.nf k es.toList ks hm.keys hk,by rw[hlat];rfl⟩⟩⟩
 refine⟨fun k=>(key k).choose,fun v hv=>?_⟩
 obtain⟨g1,g2⟩:=hv _ List.mem_cons_self
 exact⟨g1,es,c,g2,fun k=>(key k).choose_spec v hv⟩
end
section
variable {P:Program} {K:Type} [DecidableEq K] {kv:K→Value} {kt:TypeId}
structure SetE (kv:K→Value) (es:Array MapEntry) (q:List K):Prop where
  keys:es.toList.map (·.key)=q.map kv
  vals:∀ x∈es.toList,x.val=.bool true
  nd:q.Nodup
theorem SetE.nil:SetE kv #[] ([]:List K):=⟨rfl,by simp,List.nodup_nil⟩
theorem SetE.size {es:Array MapEntry} {q:List K} (h:SetE kv es q):es.size=q.length:=by
  have:=congrArg List.length h.keys
  simpa using this
theorem SetE.yes (hK:KeyT P kt kv) {es:Array MapEntry} {q:List K} (h:SetE kv es q) {k:K} (hk:k∈q):∃ i x,q[i]? = some k∧es[i]? = some x∧x.key=kv k∧x.val=.bool true∧cP_ P kt (kv k) es.toList (some (i,.bool true)):=by
  obtain⟨i,hi⟩:=List.getElem?_of_mem hk
  have hlt:i<es.toList.length:=by
    have:=(List.getElem?_eq_some_iff.1 hi).1
    have e:=congrArg List.length h.keys
    simp at e this ⊢;omega
  have hx:=List.getElem?_eq_getElem hlt
  have hv:=h.vals _ (List.getElem_mem hlt)
  have hkey:es.toList[i].key=kv k:=by
    have:=congrArg (fun l=>l[i]?) h.keys
    simp only[List.getElem?_map,hx,hi,Option.map_some,Option.some.injEq]at this
    exact this
  refine⟨i,es.toList[i],hi,by rw[← Array.getElem?_toList];exact hx,hkey,hv,?_⟩
  have:=hK.sf k es.toList q i _ h.keys h.nd hi hx
  rwa [hv]at this
theorem SetE.no (hK:KeyT P kt kv) {es:Array MapEntry} {q:List K} (h:SetE kv es q) {k:K} (hk:k ∉ q):cP_ P kt (kv k) es.toList none:=hK.nf k es.toList q h.keys hk
theorem SetE.push {es:Array MapEntry} {q:List K} (h:SetE kv es q) {k:K} (hk:k ∉ q) (c:Nat):SetE kv (es.push ⟨kv k,.bool true,c⟩) (q++[k]):=by
 refine⟨by simp[h.keys],fun x hx=>?_,?_⟩
 ·rw[Array.toList_push,List.mem_append]at hx
  rcases hx with hx|hx
  ·exact h.vals x hx
  simp at hx;rw[hx]
 rw[List.nodup_append];exact⟨h.nd,by simp,fun a ha b hb e=>by simp at hb;subst hb;subst e;exact hk ha⟩
end
section ops
variable {P:Program} {N:Nf} {v0:Vw} {H0:Hp} {R:Exit→Act→World→Prop} {Kk:List Kt} {fr:Fr} {H:Hp} {Γ:List Fct}
variable {ops:Array Oper} {lo:List Oper} {d:Nat} {ty:TypeId} {ps:String} {af:Array Edge}
variable {K D:Type} [DecidableEq K] {kv:K→Value} {cells:D→List Value}
theorem qD_ {t kt et:TypeId} {x y:Operand} {mb:Nat} {l:List (K×D)} {adr:K→Option Addr×Nat} {k:K} (hK:KeyT P kt kv) (hu:∀ w,(underlying t).run P w=.ok (.map kt et) w) (hz:∀ w,(zeroValue et).run P w=.ok (.slice none 0 0) w) (hx:Fr.ev fr x=some (.map (some mb))) (hy:Fr.ev fr y=some (kv k))
    (hm:∀ v,v.sat H→ag_ Γ v→(mlF P kt kv cells mb l adr).p v):Yld P N fr H Γ (.lookup t x y false) ty (.slice (adr k).1 (lat l k).length (adr k).2) :=
  fun a v h1 h2 h4 _ _ _=>by
    obtain⟨_,es,c,g1,g2⟩:=hm v h2 h4
    have hb:=MapKept.run_getObj_map (P:=P) g1
    rcases (g2 k).2 with⟨q5,q6⟩|⟨i,q5⟩
    · rw[q6];simp[execOp,h1.ev hx,h1.ev hy,Instr.lookup,hu,hb,hK.ok _ _ _,q5 _,hz]
    · simp[execOp,h1.ev hx,h1.ev hy,Instr.lookup,hu,hb,hK.ok _ _ _,q5 _]
theorem gn_ {t kt et:TypeId} {x y:Operand} {mb c:Nat} {es:Array MapEntry} {q:List K} {k:K} (hK:KeyT P kt kv) (hu:∀ w,(underlying t).run P w=.ok (.map kt et) w) (hz:∀ w,(zeroValue et).run P w=.ok (.bool false) w) (hx:Fr.ev fr x=some (.map (some mb))) (hy:Fr.ev fr y=some (kv k))
    (hq:SetE kv es q) (hm:∀ v,v.sat H→ag_ Γ v→v.w.heap[mb]? = some (.map es c)):Yld P N fr H Γ (.lookup t x y false) ty (.bool (decide (k∈q))):=by
  by_cases hk:k∈q
  · obtain⟨i,_,_,_,_,_,hf⟩:=hq.yes hK hk
    rw[decide_eq_true hk]
    exact eo_ hu hx hy hm (hK.ok k) hf
  · rw[decide_eq_false hk]
    exact eP_ hu hz hx hy hm (hK.ok k) (hq.no hK hk)
theorem fU_ {o:Op} {t kt et:TypeId} {x y z:Operand} {b c i:Nat} (n:Nat) {es:Array MapEntry} {e:MapEntry} {k:K} {u u':Value} (hK:KeyT P kt kv) (ho:o=.insert t x y z∨o=.mapUpdate t x y z) (hu:∀ w,(underlying t).run P w=.ok (.map kt et) w)
    (hx:Fr.ev fr x=some (.map (some b))) (hy:Fr.ev fr y=some (kv k)) (hz:Fr.ev fr z=some u) (hi:H[n]? = some (b,.map es c)) (hf:cP_ P kt (kv k) es.toList (some (i,u'))) (he:es[i]? = some e) (hek:e.key=kv k)
    (hkk:Ops P R N v0 H0 ops lo Kk fr (H.set n (b,.map (es.modify i fun y=>{ y with key:=kv k,val:=u }) c)) Γ):Ops P R N v0 H0 ops (⟨none,o,ty,ps,af,none⟩::lo) Kk fr H Γ :=
  cF_ rfl fun a v h1 h2 h3 h4=>by
    have hb:=(h2.own _ (List.mem_of_getElem? hi)).1
    have hg:=MapKept.run_getObj_map (P:=P) hb
    have hs:=MapKept.run_setObj_map (P:=P) (.map (es.modify i fun y=>{ y with key:=kv k,val:=u }) c) hb
    have he:(execOp a.eval ⟨none,o,ty,ps,af,none⟩).run P v.w=.ok .skip { v.w with heap:=v.w.heap.setIfInBounds b (.map (es.modify i fun y=>{ y with key:=kv k,val:=u }) c) }:=by
      rcases ho with rfl|rfl<;>simp[execOp,h1.ev hx,h1.ev hy,h1.ev hz,Instr.mapUpdate,hu,hg,hK.ok _ _ _,hf _,hs,Instr.keyThatStays,he,hek,hK.same]
    unfold Oper.wp
    rw[he]
    have hh:=MapKept.heap_set (o':=.map (es.modify i fun y=>{ y with key:=kv k,val:=u }) c) hb
    obtain⟨g1,g2⟩:=eR_ (w':={ v.w with heap:=v.w.heap.setIfInBounds b (.map (es.modify i fun y=>{ y with key:=kv k,val:=u }) c) }) h2 hi rfl rfl rfl (Nat.le_refl _) (by simp) hh.1 (fun k hk=>hh.2 k hk)
    exact hkk a _ h1 g1 (h3.trans g2) (aD_ (g2.le h2) h4)
theorem jc_ {es:Array MapEntry} {i:Nat} {e:MapEntry} {key val:Value} (he:es[i]? = some e) (hk:e.key=key) (hv:e.val=val):(es.modify i fun y=>{ y with key:=key,val:=val })=es:=by
 apply Array.ext_getElem?
 intro j
 rw[Array.getElem?_modify]
 by_cases hij:i=j
 ·subst hij;rw[if_pos rfl,he];simp only[Option.map_some];rw[← hk,← hv]
 rw[if_neg hij]
theorem sN_ {o:Op} {t kt et:TypeId} {x y z:Operand} {b c:Nat} (n:Nat) {es:Array MapEntry} {q:List K} {k:K} (hK:KeyT P kt kv) (ho:o=.insert t x y z∨o=.mapUpdate t x y z) (hu:∀ w,(underlying t).run P w=.ok (.map kt et) w)
    (hx:Fr.ev fr x=some (.map (some b))) (hy:Fr.ev fr y=some (kv k)) (hz:Fr.ev fr z=some (.bool true)) (hi:H[n]? = some (b,.map es c)) (hq:SetE kv es q)
    (hkk:∀ es' c',SetE kv es' (if k∈q then q else q++[k])→Ops P R N v0 H0 ops lo Kk fr (H.set n (b,.map es' c')) Γ):Ops P R N v0 H0 ops (⟨none,o,ty,ps,af,none⟩::lo) Kk fr H Γ:=by
  by_cases hk:k∈q
  · obtain⟨i,e,g1,g2,g3,g4,g5⟩:=hq.yes hK hk
    refine fU_ n hK ho hu hx hy hz hi g5 g2 g3 ?_
    rw[jc_ g2 g3 g4]
    exact hkk es c (by rw[if_pos hk];exact hq)
  · exact aW_ n ho hu hx hy hz hi (hK.ok k) (hq.no hK hk) (hkk _ _ (by rw[if_neg hk];exact hq.push hk c))
theorem rr_ {t kt et:TypeId} {x y:Operand} {mb:Nat} {e:TypeId} {sz:Nat} {l:List (K×D)} {k:K} {Hm F:Hp} (hK:KeyT P kt kv) (hm:gk_ kv cells e sz l mb Hm) (hu:∀ w,(underlying t).run P w=.ok (.map kt et) w) (hz:∀ w,(zeroValue et).run P w=.ok (.slice none 0 0) w)
    (hx:Fr.ev fr x=some (.map (some mb))) (hy:Fr.ev fr y=some (kv k)) (hH:H.Perm (Hm++F)) (hN:Nat.blt d N.n=true)
    (hk:∀ es c i st sv Hk Hr,MOpn kv cells e sz l mb k es c i st Hr→ar_ e sz sv (lat l k).length ((lat l k).flatMap cells) Hk→Ops P R N v0 H0 ops lo Kk ((d,.tuple #[sv,.int .i64 st])::fr) ((mb,.map es c)::(Hk++(Hr++F))) Γ) :
    Ops P R N v0 H0 ops (⟨some d,.mapEntry t x y,ty,ps,af,none⟩::lo) Kk fr H Γ:=by
  obtain⟨es,c,es',c',i,st,sv,Hk,Hr,p1,p2,p3,p4⟩:=hm.entry hK k
  refine cF_ rfl fun a v h1 h2 h3 h4=>?_
  have hp:H.Perm ((mb,.map es c)::(Hk++(Hr++F))):=hH.trans (by
    have:=p1.append_right F
    simpa [List.append_assoc] using this)
  have h2':=h2.perm hp
  have hb:=(h2'.own _ List.mem_cons_self).1
  have hg:=MapKept.run_getObj_map (P:=P) hb
  have he:(execOp a.eval ⟨some d,.mapEntry t x y,ty,ps,af,none⟩).run P v.w=.ok (.value (.tuple #[sv,.int .i64 st])) { v.w with heap:=v.w.heap.setIfInBounds mb (.map es' c') }:=by
    rcases p4 with⟨q1,rfl,rfl,rfl,rfl⟩|⟨j,z,q1,q2,q3,rfl,rfl,rfl⟩
    · have hs:=MapKept.run_setObj_map (P:=P) (.map (es.push ⟨kv k,.slice none 0 0,c⟩) (c+1)) hb
      simp[execOp,h1.ev hx,h1.ev hy,Instr.mapEntry,hu,hg,hK.ok _ _ _,q1 _,hz,hs,goInt]
    · have hs:=MapKept.run_setObj_map (P:=P) (.map es' c') hb
      simp[execOp,h1.ev hx,h1.ev hy,Instr.mapEntry,hu,hg,hK.ok _ _ _,q1 _,Instr.keyThatStays,q2,q3,hK.same,pd_ q2 q3,hs,goInt]
  unfold Oper.wp
  rw[he]
  have hh:=MapKept.heap_set (o':=.map es' c') hb
  obtain⟨g1,g2⟩:=eR_ (i:=0) (o':=.map es' c') (w':={ v.w with heap:=v.w.heap.setIfInBounds mb (.map es' c') }) h2' rfl rfl rfl rfl (Nat.le_refl _) (by simp) hh.1 (fun k hk=>hh.2 k hk)
  simp only[List.set_cons_zero]at g1 g2
  exact hk es' c' i st sv Hk Hr p3 p2 _ _ (h1.put hN) g1 (h3.trans (g2.permL hp.symm)) (aD_ (g2.le h2') h4)
theorem kh_ {t:TypeId} {x y z:Operand} {mb c i:Nat} {e:TypeId} {sz:Nat} {l:List (K×D)} {k:K} {dd:D} {es:Array MapEntry} {st:Int} {sv:Value} {Hk Hr F:Hp} (ho:MOpn kv cells e sz l mb k es c i st Hr) (hr:ar_ e sz sv (lat (l++[(k,dd)]) k).length ((lat (l++[(k,dd)]) k).flatMap cells) Hk)
    (hx:Fr.ev fr x=some (.map (some mb))) (hy:Fr.ev fr y=some (.int .i64 st)) (hz:Fr.ev fr z=some sv) (hH:H.Perm ((mb,.map es c)::(Hk++(Hr++F))))
    (hk:∀ H',gk_ kv cells e sz (l++[(k,dd)]) mb H'→Ops P R N v0 H0 ops lo Kk fr (H'++F) Γ):Ops P R N v0 H0 ops (⟨none,.entryStore t x y z,ty,ps,af,none⟩::lo) Kk fr H Γ:=by
  obtain⟨H',q1,q2⟩:=ho.close dd sv Hk hr
  refine cF_ rfl fun a v h1 h2 h3 h4=>?_
  have h2':=h2.perm hH
  have hb:=(h2'.own _ List.mem_cons_self).1
  have hg:=MapKept.run_getObj_map (P:=P) hb
  have hs:=MapKept.run_setObj_map (P:=P) (.map (es.modify i fun y=>{ y with val:=sv }) c) hb
  have he:(execOp a.eval ⟨none,.entryStore t x y z,ty,ps,af,none⟩).run P v.w=.ok .skip { v.w with heap:=v.w.heap.setIfInBounds mb (.map (es.modify i fun y=>{ y with val:=sv }) c) }:=by
    have hf:=ho.find
    simp[execOp,h1.ev hx,h1.ev hy,h1.ev hz,Instr.entryStore,hg,hs,asInt,asIntOf,hf]
  unfold Oper.wp
  rw[he]
  have hh:=MapKept.heap_set (o':=.map (es.modify i fun y=>{ y with val:=sv }) c) hb
  obtain⟨g1,g2⟩:=eR_ (i:=0) (o':=.map (es.modify i fun y=>{ y with val:=sv }) c) (w':={ v.w with heap:=v.w.heap.setIfInBounds mb (.map (es.modify i fun y=>{ y with val:=sv }) c) }) h2' rfl rfl rfl rfl (Nat.le_refl _) (by simp) hh.1 (fun k hk=>hh.2 k hk)
  simp only[List.set_cons_zero]at g1 g2
  have pp:((mb,Obj.map (es.modify i fun y=>{ y with val:=sv }) c)::(Hk++(Hr++F))).Perm (H'++F):=by
    have:=(q2.append_right F).symm
    simpa [List.append_assoc] using this
  exact hk H' q1 _ _ h1 (g1.perm pp) (h3.trans ((g2.permL hH.symm).subR fun b hb=>((pp.map Prod.fst).mem_iff).2 hb)) (aD_ (g2.le h2') h4)
theorem sH_ {b:Nat×Obj} {O Q F:Hp} (h:H.Perm ((b::(O++Q))++F)):H.Perm (b::(O++(Q++F))):=by simpa [List.append_assoc] using h
theorem bO_ {b:Nat×Obj} {F:Hp} (h:H.Perm ([b]++F)):H.Perm (b::F):=h
theorem bm_ {b:Nat×Obj} {F F':Hp} (h:H.Perm ([b]++F)) (h2:F.Perm F'):H.Perm (b::F'):=List.Perm.trans h (h2.cons b)
theorem qU_ {fn:Func} {Rr:Ending→World→Prop} {c:Code} (h:Run P (bodyPost P fn Rr) N v0 H0 c [] fr H Γ):Run P (bodyPost P fn Rr) N v0 H0 (.scope c) [] fr H Γ :=
  fun a v h1 h2 h3 h4=>wp_scope_straight (wp_mono (h a v h1 h2 h3 h4) fun e a w hq=>by cases e<;>exact hq)
theorem qV_ {c:Nat} (h:Fin P R N v0 H0 Kk fr H Γ):Run P R N v0 H0 (.label c) Kk fr H Γ :=
  fun a v h1 h2 h3 h4=>wp_label (h a v h1 h2 h3 h4)
end ops
end Go.Sx
namespace Go.Vs
open Go Go.Sx
structure Rul where
  f:Str
  s:Str
  r:Str
  deriving DecidableEq
structure Itm where
  r:Str
  i:Nat
  j:Nat
  deriving DecidableEq
def Rul.cells (x:Rul):List Value:=[str x.f,str x.s,str x.r]
def Rul.val (x:Rul):Value:=.agg x.cells.toArray
theorem Rul.cells_len (x:Rul):x.cells.length=3:=rfl
def Itm.cells (x:Itm):List Value:=[str x.r,.int .i64 x.i,.int .i64 x.j]
def Itm.val (x:Itm):Value:=.agg x.cells.toArray
theorem Itm.cells_len (x:Itm):x.cells.length=3:=rfl
def hD_ {α:Type} [DecidableEq α] (y:α) (l:List α):List α:=if y∈l then l else l++[y]
def tP_ (y:Itm) (T Q:List Itm):List Itm:=if y∈T then Q else Q++[y]
theorem it_ {α:Type} [DecidableEq α] {y z:α} {l:List α}:z∈hD_ y l↔z∈l∨z=y:=by
 unfold hD_
 by_cases h:y∈l
 ·rw[if_pos h];exact⟨.inl,fun q=>q.elim id fun e=>e▸h⟩
 rw[if_neg h,List.mem_append,List.mem_singleton]
theorem uY_ {α:Type} [DecidableEq α] {y:α} {l:List α} (h:l.Nodup):(hD_ y l).Nodup:=by
 unfold hD_
 by_cases hy:y∈l
 ·rw[if_pos hy];exact h
 rw[if_neg hy,List.nodup_append];exact⟨h,by simp,fun a ha b hb e=>by simp at hb;subst hb;subst e;exact hy ha⟩
def Itm.In (U:List Str) (n:Nat) (x:Itm):Prop:=x.r∈U∧x.i≤x.j∧x.j≤n
section
variable {R:List Rul} {U:List Str} {n:Nat}
structure Rec (R:List Rul) (U:List Str) (n:Nat) (T Q:List Itm):Prop where
  nd:T.Nodup
  qnd:Q.Nodup
  sub:∀ y∈Q,y∈T
  bd:∀ y∈T,y.In U n
  cl:∀ p∈T,∀ q∈T,p ∉ Q→q ∉ Q→p.j=q.i→∀ y∈R,y.f=p.r→y.s=q.r→(⟨y.r,p.i,q.j⟩:Itm)∈T
structure Stg (U:List Str) (n:Nat) (x:Itm) (T0 Q0 T Q:List Itm):Prop where
  nd:T.Nodup
  qnd:Q.Nodup
  sub:∀ y∈Q,y∈T
  bd:∀ y∈T,y.In U n
  old:∀ y∈T0,y∈T
  new:∀ y∈T,y∈T0∨y∈Q
  q0:∀ y∈Q0,y∈Q
  nx:x ∉ Q
  xT:x∈T
  len:T.length+Q0.length=T0.length+Q.length
theorem Rec.pop {T Q:List Itm} {x:Itm} (h:Rec R U n T (Q++[x])):Stg U n x T Q T Q:=by
  have hq:=h.qnd
  rw[List.nodup_append]at hq
  exact⟨h.nd,hq.1,fun y hy=>h.sub y (by simp[hy]),h.bd,fun _ h=>h,fun _ h=>.inl h,fun _ h=>h,fun hx=>hq.2.2 x hx x (by simp) rfl,h.sub x (by simp),rfl⟩
theorem Stg.add {x:Itm} {T0 Q0 T Q:List Itm} (h:Stg U n x T0 Q0 T Q) {y:Itm} (hy:y.In U n):Stg U n x T0 Q0 (hD_ y T) (tP_ y T Q):=by
 by_cases hm:y∈T
 ·have e1:hD_ y T=T:=by unfold hD_;rw[if_pos hm]
  have e2:tP_ y T Q=Q:=by unfold tP_;rw[if_pos hm]
  rw[e1,e2];exact h
 have e1:hD_ y T=T++[y]:=by unfold hD_;rw[if_neg hm]
 have e2:tP_ y T Q=Q++[y]:=by unfold tP_;rw[if_neg hm]
 rw[e1,e2]
 have hl:=h.len
 refine⟨e1▸uY_ h.nd,?_,fun z hz=>?_,fun z hz=>?_,fun z hz=>by simp[h.old z hz],fun z hz=>?_,fun z hz=>by simp[h.q0 z hz],fun hz=>?_,by simp[h.xT],by simp only[List.length_append,List.length_cons,List.length_nil];omega⟩
 ·rw[List.nodup_append];exact⟨h.qnd,by simp,fun a ha b hb e=>by simp at hb;subst hb;subst e;exact hm (h.sub _ ha)⟩
 ·rcases List.mem_append.1 hz with hz|hz
  ·simp[h.sub z hz]
  simp at hz;simp[hz]
 ·rcases List.mem_append.1 hz with hz|hz
  ·exact h.bd z hz
  simp at hz;rw[hz];exact hy
 ·rcases List.mem_append.1 hz with hz|hz
  ·exact (h.new z hz).imp id fun q=>by simp[q]
  simp at hz;exact .inr (by simp[hz])
 rcases List.mem_append.1 hz with hz|hz
 ·exact h.nx hz
 simp at hz;exact hm (hz▸h.xT)
def Pr1 (n:Nat) (x:Itm) (T0:List Itm) (L:List Rul) (T:List Itm):Prop:=∀ y∈L,∀ e,x.j≤e→e≤n→(⟨y.s,x.j,e⟩:Itm)∈T0→(⟨y.r,x.i,e⟩:Itm)∈T
def Pr2 (x:Itm) (T0:List Itm) (L:List Rul) (T:List Itm):Prop:=∀ y∈L,∀ b,b≤x.i→(⟨y.f,b,x.i⟩:Itm)∈T0→(⟨y.r,b,x.j⟩:Itm)∈T
theorem Pr1.mono {x:Itm} {T0 T T':List Itm} {L:List Rul} (h:Pr1 n x T0 L T) (hT:∀ y∈T,y∈T'):Pr1 n x T0 L T':=fun y hy e h1 h2 h3=>hT _ (h y hy e h1 h2 h3)
theorem Pr2.mono {x:Itm} {T0 T T':List Itm} {L:List Rul} (h:Pr2 x T0 L T) (hT:∀ y∈T,y∈T'):Pr2 x T0 L T':=fun y hy b h1 h3=>hT _ (h y hy b h1 h3)
theorem hb_ {α:Type} {L:List α} {i:Nat} {x y:α} (hx:L[i]? = some x) (h:y∈L.take (i+1)):y∈L.take i∨y=x:=by
  rw[List.take_add_one,hx,Option.toList_some,List.mem_append,List.mem_singleton]at h
  exact h
theorem Pr1.step {x:Itm} {T0 T T':List Itm} {L:List Rul} {k:Nat} {y:Rul} (h:Pr1 n x T0 (L.take k) T) (hy:L[k]? = some y) (hT:∀ z∈T,z∈T') (hn:∀ e,x.j≤e→e≤n→(⟨y.s,x.j,e⟩:Itm)∈T0→(⟨y.r,x.i,e⟩:Itm)∈T'):Pr1 n x T0 (L.take (k+1)) T':=fun z hz e h1 h2 h3=>by
 rcases hb_ hy hz with hz|rfl
 ·exact hT _ (h z hz e h1 h2 h3)
 exact hn e h1 h2 h3
theorem Pr2.step {x:Itm} {T0 T T':List Itm} {L:List Rul} {k:Nat} {y:Rul} (h:Pr2 x T0 (L.take k) T) (hy:L[k]? = some y) (hT:∀ z∈T,z∈T') (hn:∀ b,b≤x.i→(⟨y.f,b,x.i⟩:Itm)∈T0→(⟨y.r,b,x.j⟩:Itm)∈T'):Pr2 x T0 (L.take (k+1)) T':=fun z hz b h1 h3=>by
 rcases hb_ hy hz with hz|rfl
 ·exact hT _ (h z hz b h1 h3)
 exact hn b h1 h3
theorem Stg.done {x:Itm} {T0 Q0 T Q:List Itm} {L1 L2:List Rul} (hr:Rec R U n T0 (Q0++[x])) (h:Stg U n x T0 Q0 T Q) (h1:∀ y∈R,y.f=x.r→y∈L1) (h2:∀ y∈R,y.s=x.r→y∈L2) (p1:Pr1 n x T0 L1 T) (p2:Pr2 x T0 L2 T):Rec R U n T Q:=by
 refine⟨h.nd,h.qnd,h.sub,h.bd,fun p hp q hq np nq e y hy e1 e2=>?_⟩
 have hp0:=(h.new p hp).resolve_right np
 have hq0:=(h.new q hq).resolve_right nq
 have bp:=h.bd p hp
 have bq:=h.bd q hq
 by_cases hpx:p=x
 ·subst hpx
  exact p1 y (h1 y hy e1) q.j (by rw[e];exact bq.2.1) bq.2.2 (by rw[e2,e];exact hq0)
 by_cases hqx:q=x
 ·subst hqx
  exact p2 y (h2 y hy e2) p.i (by rw[← e];exact bp.2.1) (by rw[e1,← e];exact hp0)
 refine h.old _ (hr.cl p hp0 q hq0 (fun hm=>?_) (fun hm=>?_) e y hy e1 e2)
 ·rcases List.mem_append.1 hm with hm|hm
  ·exact np (h.q0 p hm)
  simp at hm;exact hpx hm
 rcases List.mem_append.1 hm with hm|hm
 ·exact nq (h.q0 q hm)
 simp at hm;exact hqx hm
theorem Rec.init {T:List Itm} (nd:T.Nodup) (bd:∀ y∈T,y.In U n):Rec R U n T T:=⟨nd,nd,fun _ h=>h,bd,fun p hp _ _ np=>absurd hp np⟩
end
end Go.Vs
namespace Go.Sx
open Go Go.Vs
def hs_ (T:List Itm) (r:Str):List Value:=(List.range 4225).map fun k=>.bool (decide ((⟨r,k / 65,k%65⟩:Itm)∈T))
theorem hR_ (T:List Itm) (r:Str):(hs_ T r).length=4225:=by simp[hs_]
theorem jv_ (T:List Itm) (r:Str) {k:Nat} (hk:k<4225):(hs_ T r)[k]? = some (.bool (decide ((⟨r,k / 65,k%65⟩:Itm)∈T))):=by
  unfold hs_
  rw[List.getElem?_map,List.getElem?_range hk]
  rfl
theorem sq_ {i j:Nat} (hj:j≤64):(i*65+j) / 65=i∧(i*65+j)%65=j:=by omega
theorem ss_ (T:List Itm) (r:Str) {i j:Nat} (hi:i≤64) (hj:j≤64):(hs_ T r)[i*65+j]? = some (.bool (decide ((⟨r,i,j⟩:Itm)∈T))):=by
  obtain⟨e1,e2⟩:=sq_ (i:=i) hj
  rw[jv_ T r (by omega),e1,e2]
theorem jV_ {T:List Itm} {r q:Str} {i j:Nat} (h:q≠r):hs_ (hD_ ⟨r,i,j⟩ T) q=hs_ T q:=by
  unfold hs_
  apply List.map_congr_left
  intro k _
  congr 1
  apply decide_eq_decide.2
  rw[it_]
  exact⟨fun q=>q.elim id fun e=>absurd (congrArg Itm.r e) h,.inl⟩
theorem sr_ (T:List Itm) (r:Str) {i j:Nat} (hi:i≤64) (hj:j≤64):(hs_ T r).set (i*65+j) (.bool true)=hs_ (hD_ ⟨r,i,j⟩ T) r:=by
 apply List.ext_getElem?
 intro k
 rw[List.getElem?_set,hR_]
 obtain⟨e1,e2⟩:=sq_ (i:=i) hj
 by_cases hk:i*65+j=k
 ·subst hk
  rw[if_pos rfl,if_pos (by omega),ss_ _ _ hi hj,decide_eq_true (it_.2 (.inr rfl))]
 rw[if_neg hk]
 by_cases hl:k<4225
 ·rw[jv_ _ _ hl,jv_ _ _ hl]
  congr 2
  apply decide_eq_decide.2
  rw[it_]
  refine⟨.inl,fun q=>q.elim id fun e=>?_⟩
  simp only[Itm.mk.injEq,true_and]at e
  omega
 rw[List.getElem?_eq_none (by rw[hR_];omega),List.getElem?_eq_none (by rw[hR_];omega)]
theorem qQ_ {T:List Itm} {r:Str} (h:∀ x∈T,x.r≠r):hs_ T r=List.replicate 4225 (.bool false):=by
 apply List.ext_getElem?
 intro k
 by_cases hl:k<4225
 ·rw[jv_ _ _ hl,decide_eq_false fun q=>h _ q rfl,List.getElem?_replicate,if_pos hl]
 rw[List.getElem?_eq_none (by rw[hR_];omega),List.getElem?_eq_none (by rw[List.length_replicate];omega)]
def eQ_ (ks:List (Str×Nat)) (k:Str):Option Nat:=(ks.find? fun p=>decide (p.1=k)).map (·.2)
def tptr (o:Option Nat):Value:=.pointer (o.map fun b=>⟨b,0,none⟩)
def md_ (tt:TypeId) (T:List Itm) (p:Str×Nat):Nat×Obj:=(p.2,.cells (hs_ T p.1).toArray tt (0,0))
structure TabE (ks:List (Str×Nat)) (T:List Itm) (es:Array MapEntry):Prop where
  keys:es.toList.map (·.key)=(ks.map (·.1)).map str
  vals:es.toList.map (·.val)=ks.map fun p=>tptr (some p.2)
  nd:(ks.map (·.1)).Nodup
  all:∀ x∈T,x.r∈ks.map (·.1)
def tS_ (tt mb:Nat) (ks:List (Str×Nat)) (T:List Itm) (H:Hp):Prop:=∃ es c,H=(mb,.map es c)::ks.map (md_ tt T)∧TabE ks T es
theorem TabE.nil:TabE [] [] #[]:=⟨rfl,rfl,List.nodup_nil,by simp⟩
theorem tS_.nil (tt mb c:Nat):tS_ tt mb [] [] [(mb,.map #[] c)]:=⟨#[],c,rfl,TabE.nil⟩
theorem gP_ {ks:List (Str×Nat)} {k:Str} {b:Nat} (h:eQ_ ks k=some b):(k,b)∈ks:=by
  unfold eQ_ at h
  rw[Option.map_eq_some_iff]at h
  obtain⟨p,h1,rfl⟩:=h
  have h2:=List.find?_some h1
  have h3:=List.mem_of_find?_eq_some h1
  simp only[decide_eq_true_eq]at h2
  subst h2
  exact h3
theorem eu_ {ks:List (Str×Nat)} {k:Str} (h:eQ_ ks k=none):k ∉ ks.map (·.1):=by
  unfold eQ_ at h
  rw[Option.map_eq_none_iff,List.find?_eq_none]at h
  intro hm
  obtain⟨p,hp,rfl⟩:=List.mem_map.1 hm
  exact h p hp (by simp)
theorem sj_ {ks:List (Str×Nat)} {k:Str} {b:Nat} (h:eQ_ ks k=none):eQ_ (ks++[(k,b)]) k=some b:=by
  unfold eQ_ at h ⊢
  rw[Option.map_eq_none_iff]at h
  rw[List.find?_append,h]
  simp
section
variable {P:Program} {kt:TypeId} {tt mb:Nat} {ks:List (Str×Nat)} {T:List Itm} {es:Array MapEntry} {H:Hp}
theorem TabE.no (hK:KeyT P kt str) (h:TabE ks T es) {k:Str} (hk:eQ_ ks k=none):cP_ P kt (str k) es.toList none:=hK.nf k es.toList _ h.keys (eu_ hk)
theorem TabE.yes (hK:KeyT P kt str) (h:TabE ks T es) {k:Str} {b:Nat} (hk:eQ_ ks k=some b):∃ i,cP_ P kt (str k) es.toList (some (i,tptr (some b))):=by
  obtain⟨i,hi⟩:=List.getElem?_of_mem (gP_ hk)
  have hv:=congrArg (fun l=>l[i]?) h.vals
  simp only[List.getElem?_map,hi,Option.map_some]at hv
  cases hx:es.toList[i]? with
  | none=>rw[hx]at hv;simp at hv
  | some x =>
    rw[hx]at hv
    simp only[Option.map_some,Option.some.injEq]at hv
    refine⟨i,?_⟩
    have:=hK.sf k es.toList _ i x h.keys h.nd (by rw[List.getElem?_map,hi];rfl) hx
    rwa [hv]at this
theorem tS_.at (h:tS_ tt mb ks T H) {k:Str} {b:Nat} (hk:eQ_ ks k=some b):∃ Hr,H.Perm ((b,.cells (hs_ T k).toArray tt (0,0))::Hr) ∧
    ∀ i j,i≤64→j≤64→∃ H',tS_ tt mb ks (hD_ ⟨k,i,j⟩ T) H'∧((b,Obj.cells ((hs_ T k).set (i*65+j) (.bool true)).toArray tt (0,0))::Hr).Perm H':=by
  obtain⟨es,c,rfl,hE⟩:=h
  have hm:=gP_ hk
  obtain⟨l1,l2,rfl⟩:=List.append_of_mem hm
  refine⟨(mb,.map es c)::(l1++l2).map (md_ tt T),?_,fun i j hi hj=>?_⟩
  · rw[List.map_append,List.map_cons,List.map_append]
    exact (List.Perm.cons _ List.perm_middle).trans (.swap _ _ _)
  · refine⟨(mb,.map es c)::(l1++(k,b)::l2).map (md_ tt (hD_ ⟨k,i,j⟩ T)),⟨es,c,rfl,hE.keys,hE.vals,hE.nd,fun x hx=>?_⟩,?_⟩
    · rcases it_.1 hx with hx|rfl
      · exact hE.all x hx
      · simp
    · have hnd:=hE.nd
      rw[List.map_append,List.map_cons,List.nodup_append,List.nodup_cons]at hnd
      have e1:l1.map (md_ tt (hD_ ⟨k,i,j⟩ T))=l1.map (md_ tt T):=List.map_congr_left fun p hp=>by
        unfold md_
        rw[jV_ fun e=>hnd.2.2 p.1 (List.mem_map_of_mem hp) k (by simp) e]
      have e2:l2.map (md_ tt (hD_ ⟨k,i,j⟩ T))=l2.map (md_ tt T):=List.map_congr_left fun p hp=>by
        unfold md_
        rw[jV_ fun e=>hnd.2.1.1 (List.mem_map.2 ⟨p,hp,e⟩)]
      rw[sr_ T k hi hj,List.map_append,List.map_append,List.map_cons,e1,e2]
      exact ((List.Perm.cons _ List.perm_middle).trans (.swap _ _ _)).symm
theorem TabE.push (h:TabE ks T es) {k:Str} (hk:eQ_ ks k=none) (b c:Nat):TabE (ks++[(k,b)]) T (es.push ⟨str k,tptr (some b),c⟩):=by
  refine⟨by simp[h.keys],by simp[h.vals],?_,fun x hx=>by simp only[List.map_append,List.mem_append];exact .inl (h.all x hx)⟩
  rw[List.map_append,List.nodup_append]
  exact⟨h.nd,by simp,fun a ha q hq e=>by simp at hq;subst hq;subst e;exact eu_ hk ha⟩
theorem TabE.zero (h:TabE ks T es) {k:Str} (hk:eQ_ ks k=none):hs_ T k=List.replicate 4225 (.bool false):=qQ_ fun x hx e=>eu_ hk (e▸h.all x hx)
end
section ops
variable {P:Program} {N:Nf} {v0:Vw} {H0:Hp} {R:Exit→Act→World→Prop} {K:List Kt} {fr:Fr} {H F:Hp} {Γ:List Fct}
variable {ops:Array Oper} {l:List Oper} {d:Nat} {ty:TypeId} {ps:String} {af:Array Edge}
variable {tt mb:Nat} {ks:List (Str×Nat)} {T:List Itm} {Hx:Hp}
end ops
end Go.Sx
namespace Go.Sx
open Go Go.Vs
structure IntE {K:Type} (kv:K→Value) (es:Array MapEntry) (ks:List K) (vs:List Int):Prop where
  keys:es.toList.map (·.key)=ks.map kv
  vals:es.toList.map (·.val)=vs.map fun n=>Value.int .i64 n
  nd:ks.Nodup
section
variable {P:Program} {K:Type} [DecidableEq K] {kv:K→Value} {kt:TypeId} {es:Array MapEntry} {ks:List K} {vs:List Int}
theorem IntE.nil:IntE kv #[] ([]:List K) []:=⟨rfl,rfl,List.nodup_nil⟩
theorem IntE.len (h:IntE kv es ks vs):vs.length=ks.length:=by
  have h1:=congrArg List.length h.keys
  have h2:=congrArg List.length h.vals
  simp only[List.length_map]at h1 h2
  omega
theorem IntE.yes (hK:KeyT P kt kv) (h:IntE kv es ks vs) {k:K} (hk:k∈ks):∃ (i:Nat) (n:Int),ks[i]? = some k∧vs[i]? = some n∧cP_ P kt (kv k) es.toList (some (i,.int .i64 n)):=by
  obtain⟨i,hi⟩:=List.getElem?_of_mem hk
  have hlt:i<es.toList.length:=by
    have:=(List.getElem?_eq_some_iff.1 hi).1
    have e:=congrArg List.length h.keys
    simp only[List.length_map]at e
    omega
  have hx:=List.getElem?_eq_getElem hlt
  have hv:=congrArg (fun l=>l[i]?) h.vals
  simp only[List.getElem?_map,hx,Option.map_some]at hv
  cases hn:vs[i]? with
  | none=>rw[hn]at hv;simp at hv
  | some n =>
    rw[hn]at hv
    simp only[Option.map_some,Option.some.injEq]at hv
    refine⟨i,n,hi,hn,?_⟩
    have:=hK.sf k es.toList ks i _ h.keys h.nd hi hx
    rwa [hv]at this
theorem IntE.no (hK:KeyT P kt kv) (h:IntE kv es ks vs) {k:K} (hk:k ∉ ks):cP_ P kt (kv k) es.toList none:=hK.nf k es.toList ks h.keys hk
theorem IntE.push (h:IntE kv es ks vs) {k:K} (hk:k ∉ ks) (n:Int) (c:Nat):IntE kv (es.push ⟨kv k,.int .i64 n,c⟩) (ks++[k]) (vs++[n]):=by
  refine⟨by simp[h.keys],by simp[h.vals],?_⟩
  rw[List.nodup_append];exact⟨h.nd,by simp,fun a ha b hb e=>by simp at hb;subst hb;subst e;exact hk ha⟩
end
section ops
variable {P:Program} {N:Nf} {v0:Vw} {H0:Hp} {R:Exit→Act→World→Prop} {Kk:List Kt} {fr:Fr} {H:Hp} {Γ:List Fct}
variable {ops:Array Oper} {lo:List Oper} {d:Nat} {ty:TypeId} {ps:String} {af:Array Edge}
variable {K:Type} [DecidableEq K] {kv:K→Value}
theorem oZ_ {o:Op} {t kt et:TypeId} {x y z:Operand} {mb c:Nat} (j:Nat) {es:Array MapEntry} {ks:List K} {vs:List Int} {k:K} {n:Int} (hK:KeyT P kt kv) (ho:o=.insert t x y z∨o=.mapUpdate t x y z) (hu:∀ w,(underlying t).run P w=.ok (.map kt et) w)
    (hx:Fr.ev fr x=some (.map (some mb))) (hy:Fr.ev fr y=some (kv k)) (hz:Fr.ev fr z=some (.int .i64 n)) (hi:H[j]? = some (mb,.map es c)) (hE:IntE kv es ks vs) (hk:k ∉ ks)
    (hkk:∀ es' c',IntE kv es' (ks++[k]) (vs++[n])→Ops P R N v0 H0 ops lo Kk fr (H.set j (mb,.map es' c')) Γ):Ops P R N v0 H0 ops (⟨none,o,ty,ps,af,none⟩::lo) Kk fr H Γ :=
  aW_ j ho hu hx hy hz hi (hK.ok k) (hE.no hK hk) (hkk _ _ (hE.push hk n c))
end ops
def iot (n:Nat):List Int:=(List.range n).map Int.ofNat
theorem qi_ {n i:Nat} {m:Int} (h:(iot n)[i]? = some m):m=i:=by
  unfold iot at h
  rw[List.getElem?_map]at h
  cases hq:(List.range n)[i]? with
  | none=>rw[hq]at h;simp at h
  | some j =>
    rw[hq]at h
    obtain⟨h1,h2⟩:=List.getElem?_eq_some_iff.1 hq
    simp at h2 h
    omega
theorem ie_ (n:Nat):iot (n+1)=iot n++[(n:Int)]:=by simp[iot,List.range_succ]
theorem uG_ (n:Nat):(iot n).length=n:=by simp[iot]
end Go.Sx
namespace Go.Sx
open Go
section
variable {P:Program} {N:Nf} {v0:Vw} {H0:Hp} {R:Exit→Act→World→Prop} {K:List Kt} {fr:Fr} {H F:Hp} {Γ:List Fct} {ops:Array Oper} {l:List Oper} {d:Nat} {ty:TypeId} {ps:String} {af:Array Edge} {e:TypeId} {sz n:Nat} {sv:Value} {xs:List Value} {Hr:Hp}
theorem nN_ {x y:Operand} {t tn:TypeId} {by':Nat} {k kn:IntKind} (he:Elt P t e sz by') (htn:P.underlying tn=some (.int kn)) (hx:Fr.ev fr x=some (.slice none 0 0)) (hy:Fr.ev fr y=some (.int k (n:Int))) (h0:0<n) (hb:n*by'≤140737488355328) (h63:n≤maxLen) (hN:Nat.blt d N.n=true)
    (hk:∀ (y:Nat×Array Value) (b:Nat),(n≤y.1∧y.1≤maxLen∧y.2.size=y.1*sz)→Ops P R N v0 H0 ops l K ((d,.slice (some ⟨b,0,none⟩) n y.1)::fr) ((b,.cells y.2 e (0,0))::H) Γ) :
    Ops P R N v0 H0 ops (⟨some d,.call ⟨.builtin .append,#[x,y],#[t,tn]⟩,ty,ps,af,none⟩::l) K fr H Γ :=
  kg_ (β:=Nat×Array Value) (x:=fun y b=>.slice (some ⟨b,0,none⟩) n y.1) (o:=fun y=>.cells y.2 e (0,0)) (fun y=>n≤y.1∧y.1≤maxLen∧y.2.size=y.1*sz) hN
    (fun a v h1 h2 h4=>by
      obtain⟨i,z,hi,hz,es,eb,ez⟩:=he.info
      subst es eb
      have hr:=Lib.run_append_nil_zeros (P:=P) v.w t tn ty e i z k kn he.und htn hi hz n h0 he.pos (by simp only[maxLen]at h63;omega) (by omega)
      have h1':=grownCap_ge v.w n 0 e
      have h2':=grownCap_le_maxLen v.w n 0 e h63
      refine⟨(grownCap v.w n 0 e,Builtin.zeroCells z.cells n++Builtin.zeroCells z.cells (grownCap v.w n 0 e - n)),v.w.drew.alloc (.cells (Builtin.zeroCells z.cells n++Builtin.zeroCells z.cells (grownCap v.w n 0 e - n)) e),⟨h1',h2',?_⟩,?_,rfl,rfl,rfl,rfl,by simp⟩
      · simp only[Array.size_append,size_zeroCells,ez,← Nat.add_mul]
        congr 1
        omega
      · simp only[execOp,resolve,invoke,builtin,Sem.run_bind,Sem.run_pure,Result.andThen_ok,List.map_toArray,List.map_cons,List.map_nil,h1.ev hx,h1.ev hy,hr])
    hk
theorem nc_ {x:Operand} {t:TypeId} {ad:Option Addr} {len cap:Nat} (hu:∀ w,(underlying t).run P w=.ok (.slice e) w) (hx:Fr.ev fr x=some (.slice ad len cap)) :
    Yld P N fr H Γ (.call ⟨.builtin .cap,#[x],#[t]⟩) ty (.int .i64 (cap:Int)) :=
  fun a v h1 _ _ _ _ _=>by simp[execOp,resolve,invoke,builtin,Builtin.cap_,hu,h1.ev hx,goInt]
theorem qO_ {b cap:Nat} {cur:Array Value} (h1:cap≤maxLen) (h2:cur.size=cap*sz):ar_ e sz (.slice (some ⟨b,0,none⟩) 0 cap) 0 [] [(b,.cells cur e (0,0))] :=
  ⟨by simp,.inr ⟨b,cap,cur,rfl,rfl,Nat.zero_le _,h1,h2,by simp⟩⟩
end
end Go.Sx
namespace Go.Sx
open Go
theorem tc_ {P:Program} {kt:TypeId} {kd:IntKind} (hu:P.underlying kt=some (.int kd)):KeyT P kt (fun n:Int=>.int kd n) where
  ok:=fun k=>bD_ hu
  nf:=fun k es ks h hk=>aP_ hu (by
    have:∀ (ks:List Int) (es:List MapEntry) (i:Nat),es.map (·.key)=ks.map (fun n:Int=>Value.int kd n)→k ∉ ks→Instr.findNow (.int kd) (.int kd k) es i=some none:=by
      intro ks
      induction ks with
      | nil => intro es i h _; have : es = [] := by simpa using h
               subst this;rfl
      | cons q ks ih =>
        intro es i h hk
        cases es with
        | nil=>simp at h
        | cons e es =>
          simp only[List.map_cons,List.cons.injEq]at h
          simp only[List.mem_cons,not_or]at hk
          have hs:Instr.sameNow (.int kd) (.int kd k) e.key=some false:=by
            rw[h.1];simp[Instr.sameNow,hk.1]
          simp only[Instr.findNow,hs]
          exact ih es (i+1) h.2 hk.2
    exact this ks es 0 h hk)
  sf:=fun k es ks i e h hn hi he=>aP_ hu (by
    have:∀ (ks:List Int) (es:List MapEntry) (j i:Nat),es.map (·.key)=ks.map (fun n:Int=>Value.int kd n)→ks.Nodup→ks[i]? = some k→es[i]? = some e→Instr.findNow (.int kd) (.int kd k) es j=some (some (j+i,e.val)):=by
      intro ks
      induction ks with
      | nil=>intro es j i _ _ h;simp at h
      | cons q ks ih =>
        intro es j i h hn hi he
        cases es with
        | nil=>simp at h
        | cons x es =>
          simp only[List.map_cons,List.cons.injEq]at h
          rw[List.nodup_cons]at hn
          cases i with
          | zero =>
            simp only[List.getElem?_cons_zero,Option.some.injEq]at hi he
            subst hi;subst he
            have hs:Instr.sameNow (.int kd) (.int kd q) x.key=some true:=by
              rw[h.1];simp[Instr.sameNow]
            simp only[Instr.findNow,hs,Nat.add_zero]
          | succ i =>
            simp only[List.getElem?_cons_succ]at hi he
            have hne:k≠q:=fun e=>hn.1 (e▸List.mem_of_getElem? hi)
            have hs:Instr.sameNow (.int kd) (.int kd k) x.key=some false:=by
              rw[h.1];simp[Instr.sameNow,hne]
            simp only[Instr.findNow,hs]
            rw[ih es (j+1) i h.2 hn.2 hi he,show j+1+i=j+(i+1) by omega]
    have:=this ks es 0 i h hn hi he
    rwa [Nat.zero_add]at this)
  same:=fun k=>ns_ 10000 k
end Go.Sx
namespace Go.Sx
open Go
section
variable {P:Program} {N:Nat} {v0:Vw} {H0:Hp} {R:Exit→Act→World→Prop} {Kk:List Kt} {fr:Fr} {H:Hp} {Γ:List Fct}
variable {ops:Array Oper} {lo:List Oper} {d:Nat} {ty:TypeId} {ps:String} {af:Array Edge}
variable {K:Type} [DecidableEq K] {kv:K→Value}
theorem rq_ {o:Op} {t kt et:TypeId} {x y z:Operand} {b c:Nat} (n:Nat) {es:Array MapEntry} {q:List K} {k:K} (hK:KeyT P kt kv) (ho:o=.insert t x y z∨o=.mapUpdate t x y z) (hu:∀ w,(underlying t).run P w=.ok (.map kt et) w)
    (hx:Fr.ev fr x=some (.map (some b))) (hy:Fr.ev fr y=some (kv k)) (hz:Fr.ev fr z=some (.bool true)) (hi:H[n]? = some (b,.map es c)) (hq:SetE kv es q)
    (hkk:∀ es' c',SetE kv es' (if k∈q then q else q++[k])→(Born es c→Born es' c')→Ops P R N v0 H0 ops lo Kk fr (H.set n (b,.map es' c')) Γ):Ops P R N v0 H0 ops (⟨none,o,ty,ps,af,none⟩::lo) Kk fr H Γ:=by
  by_cases hk:k∈q
  · obtain⟨i,e,g1,g2,g3,g4,g5⟩:=hq.yes hK hk
    refine fU_ n hK ho hu hx hy hz hi g5 g2 g3 ?_
    rw[jc_ g2 g3 g4]
    exact hkk es c (by rw[if_pos hk];exact hq) id
  · exact aW_ n ho hu hx hy hz hi (hK.ok k) (hq.no hK hk) (hkk _ _ (by rw[if_neg hk];exact hq.push hk c) (fun hB=>hB.push _ _))
theorem lt_ {t kt et:TypeId} {x:Operand} {b c:Nat} (n:Nat) {es:Array MapEntry} (hu:P.underlying t=some (.map kt et)) (hx:Fr.ev fr x=some (.map (some b))) (hi:H[n]? = some (b,.map es c)) (hN:Nat.blt d N=true)
    (hk:∀ r,Ops P R N v0 H0 ops lo Kk ((d,.pointer (some ⟨r,0,none⟩))::fr) ((r,.mapIter (some b) c #[] c)::H) Γ):Ops P R N v0 H0 ops (⟨some d,.range t x,ty,ps,af,none⟩::lo) Kk fr H Γ :=
  gT_ (x:=fun b=>.pointer (some ⟨b,0,none⟩)) hN (fun a v h1 h2 _=>by
    have hb:=(h2.own _ (List.mem_of_getElem? hi)).1
    simp[execOp,h1.ev hx,run_range_map v.w t kt et b es c hu hb]) hk
theorem nM_ {it:Operand} {b r c since c0:Nat} {es:Array MapEntry} {seen:Array Nat} (n m:Nat) (hit:Fr.ev fr it=some (.pointer (some ⟨r,0,none⟩))) (hr:H[n]? = some (r,.mapIter (some b) since seen c0)) (hb:H[m]? = some (b,.map es c)) (hold:∀ x∈es.toList,x.born<since) (hsc:since≤c0) (hN:Nat.blt d N=true)
    (h0:(leftOf es seen).size=0→Ops P R N v0 H0 ops lo Kk ((d,.tuple #[.bool false])::fr) H Γ)
    (hk:∀ e,e∈(leftOf es seen).toList→Ops P R N v0 H0 ops lo Kk ((d,.tuple #[.bool true,e.key,e.val])::fr) (H.set n (r,.mapIter (some b) since (seen.push e.born) c)) Γ):Ops P R N v0 H0 ops (⟨some d,.next it false,ty,ps,af,none⟩::lo) Kk fr H Γ :=
  cF_ rfl fun a v h1 h2 h3 h4=>by
    have hrr:=(h2.own _ (List.mem_of_getElem? hr)).1
    have hbb:=(h2.own _ (List.mem_of_getElem? hb)).1
    unfold Oper.wp
    rcases run_next_at (P:=P) v.w ty r b since c0 seen es c hrr hbb hold hsc with⟨e0,hrun⟩|⟨e,he,w1,hal,hrun⟩
    · have hx:(execOp a.eval ⟨some d,.next it false,ty,ps,af,none⟩).run P v.w=.ok (.value (.tuple #[.bool false])) v.w:=by simp[execOp,h1.ev hit,hrun]
      rw[hx]
      exact h0 e0 _ v (h1.put hN) h2 h3 h4
    · have hx:(execOp a.eval ⟨some d,.next it false,ty,ps,af,none⟩).run P v.w=.ok (.value (.tuple #[.bool true,e.key,e.val])) (ChangeMaps.setBlock w1 r (.mapIter (some b) since (seen.push e.born) c)):=by simp[execOp,h1.ev hit,hrun]
      rw[hx]
      have hr1:w1.heap[r]? = some (.mapIter (some b) since seen c0):=by rcases hal with rfl|rfl<;>exact hrr
      have hlt:r<w1.heap.size:=(Array.getElem?_eq_some_iff.1 hr1).1
      have hw:w1.heap=v.w.heap:=by rcases hal with rfl|rfl<;>rfl
      have hdr:v.w.drawn≤w1.drawn:=by
        rcases hal with rfl|rfl
        · exact Nat.le_refl _
        · exact Nat.le_succ _
      obtain⟨g1,g2⟩:=eR_ (w':=ChangeMaps.setBlock w1 r (.mapIter (some b) since (seen.push e.born) c)) h2 hr (by rcases hal with rfl|rfl<;>rfl) (by rcases hal with rfl|rfl<;>rfl) (by rcases hal with rfl|rfl<;>rfl) hdr (by simp[ChangeMaps.setBlock,hw])
        (by simp only[ChangeMaps.setBlock];rw[Array.getElem?_setIfInBounds_self_of_lt hlt]) (fun k hk=>by simp only[ChangeMaps.setBlock];rw[Array.getElem?_setIfInBounds_ne (Ne.symm hk),hw])
      exact hk e he _ ⟨v.im,_,v.sl⟩ (h1.put hN) g1 (h3.trans g2) (aD_ (g2.le h2) h4)
theorem kX_ {it:Operand} {b r c since:Nat} {es:Array MapEntry} {seen:Array Nat} {e:MapEntry} (n m:Nat) (hit:Fr.ev fr it=some (.pointer (some ⟨r,0,none⟩))) (hr:H[n]? = some (r,.mapIter (some b) since (seen.push e.born) c)) (hb:H[m]? = some (b,.map es c)) (he:e∈es.toList) (hB:Born es c) :
    Yld P N fr H Γ (.entry it) ty (.tuple #[e.key,e.val]) :=
  fun a v h1 h2 _ _ _ _=>by
    have:=run_entry_at (P:=P) v.w r b since seen es c e (h2.own _ (List.mem_of_getElem? hr)).1 (h2.own _ (List.mem_of_getElem? hb)).1 he hB.nd
    simp[execOp,h1.ev hit,this]
structure ItS (kv:K→Value) (es:Array MapEntry) (seen:Array Nat) (done:List K):Prop where
  nd:done.Nodup
  mem:∀ e∈es.toList,seen.contains e.born=true↔∃ k∈done,e.key=kv k
  sub:∀ k∈done,∃ e∈es.toList,e.key=kv k
theorem ItS.nil {es:Array MapEntry}:ItS kv es #[] []:=⟨List.nodup_nil,fun e _=>by simp,fun k hk=>by simp at hk⟩
theorem SetE.entry {es:Array MapEntry} {q:List K} (hE:SetE kv es q) (hi:∀ x y,kv x=kv y→x=y) {x e:MapEntry} (hx:x∈es.toList) (he:e∈es.toList) (h:x.key=e.key):x=e:=by
 obtain⟨i,hi1,hi2⟩:=List.getElem_of_mem hx
 obtain⟨j,hj1,hj2⟩:=List.getElem_of_mem he
 have hl:=congrArg List.length hE.keys
 simp only[List.length_map]at hl
 have key:∀ (k:Nat) (hk:k<es.toList.length),es.toList[k].key=kv (q[k]'(by omega)):=fun k hk=>by
   have:=congrArg (fun l=>l[k]?) hE.keys
   simp only[List.getElem?_map]at this
   rw[List.getElem?_eq_getElem hk,List.getElem?_eq_getElem (by omega)]at this
   simpa using this
 have e1:=key i hi1
 have e2:=key j hj1
 rw[hi2]at e1
 rw[hj2]at e2
 have e3:=hi _ _ (e1.symm.trans (h.trans e2))
 have hij:i=j:=by
   rcases Nat.lt_trichotomy i j with h1|h1|h1
   · exact absurd e3 (List.pairwise_iff_getElem.1 hE.nd i j (by omega) (by omega) h1)
   · exact h1
   · exact absurd e3.symm (List.pairwise_iff_getElem.1 hE.nd j i (by omega) (by omega) h1)
 subst hij
 rw[← hi2,← hj2]
theorem SetE.ofKey {es:Array MapEntry} {q:List K} (hE:SetE kv es q) {e:MapEntry} (he:e∈es.toList):∃ k∈q,e.key=kv k:=by
  have:e.key∈es.toList.map (·.key):=List.mem_map_of_mem he
  rw[hE.keys]at this
  obtain⟨k,hk,h⟩:=List.mem_map.1 this
  exact⟨k,hk,h.symm⟩
theorem ItS.step {es:Array MapEntry} {q:List K} {c:Nat} {seen:Array Nat} {done:List K} {e:MapEntry} (hi:∀ x y,kv x=kv y→x=y) (hE:SetE kv es q) (hB:Born es c) (h:ItS kv es seen done) (he:e∈(leftOf es seen).toList) :
    ∃ k,k∈q∧k ∉ done∧e.key=kv k∧e∈es.toList∧ItS kv es (seen.push e.born) (done++[k]):=by
  unfold leftOf at he
  rw[Array.toList_filter,List.mem_filter]at he
  obtain⟨h1,h2⟩:=he
  obtain⟨k,hk,hkv⟩:=hE.ofKey h1
  have hnd:k ∉ done:=fun hm=>by
    have:=(h.mem e h1).2 ⟨k,hm,hkv⟩
    rw[this]at h2
    simp at h2
  refine⟨k,hk,hnd,hkv,h1,⟨?_,fun x hx=>?_,fun y hy=>?_⟩⟩
  · rw[List.nodup_append];exact⟨h.nd,by simp,fun a ha b hb e=>by simp at hb;subst hb;subst e;exact hnd ha⟩
  · rw[Array.contains_push,Bool.or_eq_true,h.mem x hx,beq_iff_eq]
    constructor
    · rintro (⟨y,hy,hyv⟩|h3)
      · exact⟨y,by simp[hy],hyv⟩
      · have:x=e:=by
          have hn:=hB.nd
          obtain⟨i,hi1,hi2⟩:=List.getElem_of_mem hx
          obtain⟨j,hj1,hj2⟩:=List.getElem_of_mem h1
          have hij:i=j:=by
            rcases Nat.lt_trichotomy i j with g|g|g
            · exact ((List.pairwise_iff_getElem.1 hn i j (by simpa using hi1) (by simpa using hj1) g) (by simp only[List.getElem_map,hi2,hj2,h3])).elim
            · exact g
            · exact ((List.pairwise_iff_getElem.1 hn j i (by simpa using hj1) (by simpa using hi1) g) (by simp only[List.getElem_map,hi2,hj2,h3])).elim
          subst hij
          rw[← hi2,← hj2]
        exact⟨k,by simp,this▸hkv⟩
    · rintro ⟨y,hy,hyv⟩
      rcases List.mem_append.1 hy with hy|hy
      · exact .inl ⟨y,hy,hyv⟩
      · rw[List.mem_singleton]at hy
        subst hy
        exact .inr (congrArg MapEntry.born (hE.entry hi hx h1 (hyv.trans hkv.symm)))
  · rcases List.mem_append.1 hy with hy|hy
    · exact h.sub y hy
    · rw[List.mem_singleton]at hy
      subst hy
      exact⟨e,h1,hkv⟩
theorem ItS.end {es:Array MapEntry} {q:List K} {seen:Array Nat} {done:List K} (hi:∀ x y,kv x=kv y→x=y) (hE:SetE kv es q) (h:ItS kv es seen done) (h0:(leftOf es seen).size=0):done.Perm q:=by
 refine (List.perm_ext_iff_of_nodup h.nd hE.nd).2 fun k=>⟨fun hk=>?_,fun hk=>?_⟩
 ·obtain⟨e,he,hkv⟩:=h.sub k hk
  obtain⟨k',hk',hkv'⟩:=hE.ofKey he
  exact hi _ _ (hkv.symm.trans hkv')▸hk'
 have:kv k∈es.toList.map (·.key):=by rw[hE.keys];exact List.mem_map_of_mem hk
 obtain⟨e,he,hkv⟩:=List.mem_map.1 this
 have hs:seen.contains e.born=true:=by
   cases hc:seen.contains e.born
   · exfalso
     have:e∈(leftOf es seen).toList:=by unfold leftOf;rw[Array.toList_filter,List.mem_filter];exact⟨he,by simp only[hc];rfl⟩
     have h1:=List.length_pos_of_mem this
     simp only[Array.length_toList]at h1
     omega
   · rfl
 obtain⟨k',hk',hkv'⟩:=(h.mem e he).1 hs
 exact hi _ _ (hkv.symm.trans hkv')▸hk'
end
section
variable {P:Program} {N:Nat} {v0:Vw} {H0:Hp} {R:Exit→Act→World→Prop} {K:List Kt} {fr:Fr} {H F:Hp} {Γ:List Fct}
def mX_ {σ:Type} (v0:Vw) (H0:Hp) (Hj:σ→Hp) (ok:σ→Prop) (HL:Hp):Exit→Act→World→Prop
  | .normal,_,w=>∃ s' v,ok s'∧v.w=w∧v.sat (Hj s'++HL)∧v0.to H0 v (Hj s'++HL)
  | _,_,_=>False
theorem gm_ {σ ι:Type} {l D:Nat} {rec:Loop} {pm:Nat} {x:Value} {Hj:σ→Hp} {s:σ} {ok:σ→Prop} (frA:ι→Fr) (HA:ι→Hp)
    (hp:rec.params=#[pm]) (hst:rec.state=.ready) (hpe:rec.pending=none) (ht:Fr.sat N fr ⟨rec.tmps,[]⟩) (hpm:Nat.blt pm N=true)
    (hassign:∀ n v0 H0 HL,gj_ (Fence.wide.inRound l) n P (Mid N v0 H0 frA (fun i=>HA i++HL) (fun _=>Γ)) N [] v0 H0 rec.assign [] ((pm,x)::fr) (Hj s++HL) Γ)
    (hbody:∀ n v0 H0 HL i,gj_ (Fence.wide.inRound l) n P (mX_ v0 H0 Hj ok HL) N [] v0 H0 rec.body [] (frA i) (HA i++HL) Γ) :
    hE_ P l x (Hj s++HLp l D rec) Γ (fun _:{s':σ // ok s'}=>.bool true) (fun s'=>Hj s'.1++HLp l D rec) (fun _=>[]):=by
  intro v hs hΓ
  have hpl:∀ (X:Hp) r,(X++HLp l D r).Perm ((l,.loop r)::(X++[(D,.deferred (some []))])):=fun X r=>by
    unfold HLp
    exact List.perm_middle
  have hl:v.w.heap[l]? = some (.loop rec):=((hs.perm (hpl _ _)).own _ List.mem_cons_self).1
  refine⟨rec.fn,_,rec.assign,rec.body,run_yield hl (by simp[hp]),fun n=>roundIn_of_wpIn trivial ?_⟩
  have htm:(rec.params.zip #[x]).foldl (fun tmps (t,a)=>tmps.setIfInBounds t a) rec.tmps=rec.tmps.setIfInBounds pm x:=by simp[hp]
  rw[htm]
  have hsat:Fr.sat N ((pm,x)::fr) ⟨rec.tmps.setIfInBounds pm x,[]⟩:=ht.put hpm
  refine wpIn_mono (cT_.1 (hassign n v (Hj s++HLp l D rec) (HLp l D rec)) ⟨rec.tmps.setIfInBounds pm x,[]⟩ v hsat hs (Vw.to.refl _ _) hΓ) ?_
  rintro e a1 w1 ⟨rfl,i,v1,rfl,k1,k2,k3,k4⟩
  have k2':=k2.perm (hpl _ _)
  have hl1:=(k2'.own _ List.mem_cons_self).1
  obtain⟨m1,m2⟩:=eS_ (o':=.loop { rec with state:=.busy }) k2'
  refine⟨_,run_beginRound hl1 hst,?_⟩
  have m3:=m1.perm (hpl (HA i) { rec with state:=.busy }).symm
  have m4:v.to (Hj s++HLp l D rec) ⟨v1.im,v1.w.putObj l (.loop { rec with state:=.busy }),v1.sl⟩ (HA i++HLp l D { rec with state:=.busy }) :=
    (k3.trans ((m2.permL (hpl _ _).symm).subR fun b hb=>((hpl (HA i) { rec with state:=.busy }).map Prod.fst).mem_iff.1 hb))
  have k4':=aD_ (m2.le k2') k4
  refine wpIn_mono (cT_.1 (hbody n v (Hj s++HLp l D rec) (HLp l D { rec with state:=.busy }) i) a1 ⟨v1.im,_,v1.sl⟩ k1 m3 m4 k4') ?_
  intro e2 a2 w2 hq
  cases e2 with
  | normal =>
    obtain⟨s',v2,hok,rfl,q1,q2⟩:=hq
    have q1':=q1.perm (hpl _ _)
    have hl2:=(q1'.own _ List.mem_cons_self).1
    obtain⟨z1,z2⟩:=eS_ (o':=.loop rec) q1'
    have er:({ rec with state:=.ready,pending:=none }:Loop)=rec:=by cases rec;simp_all
    refine⟨_,_,run_endRound none hl2,⟨s',hok⟩,⟨v2.im,v2.w.putObj l (.loop rec),v2.sl⟩,rfl,?_,z1.perm (hpl _ _).symm,trivial,q2.trans ((z2.permL (hpl _ _).symm).subR fun b hb=>((hpl (Hj s') rec).map Prod.fst).mem_iff.1 hb)⟩
    simp[er]
  | ret=>exact hq.elim
  | exit id=>exact hq.elim
  | goto t=>exact hq.elim
  | panic c=>exact hq.elim
  | outgrown=>exact hq.elim
theorem fS_ {σ:Type} {Hj:σ→Hp} {HL G:Hp} {ok:σ→Prop} (s':σ) (hr:ok s') (hH:H.Perm (Hj s'++HL++G)):OkD N [] v0 H0 (mX_ v0 H0 Hj ok HL .normal) fr H Γ :=
  hY_ (Γ':=[]) hH (fun _ _ _=>trivial) fun a v h1 h2 h3 _=>⟨s',v,hr,rfl,h2,h3⟩
theorem gx_ {σ α:Type} {g:Operand} {pm:Nat} {assign body:Code} {gf:FuncId} {caps:List Value} {Hj:σ→Hp} {Hc:Hp} {Γi:List Fct} (Γx:List Fct) {xv:α→Value} {good:σ→α→Prop} {nx:α→σ→σ→Prop} {Rc:σ→Prop}
    (s0:σ) (hg:Fr.ev fr g=some (.func (.func gf) #[] caps.toArray)) (hH:H.Perm (Hc++Hj s0)) (hΓi:∀ v,v.sat H→ag_ Γ v→ag_ Γi v)
    (hround:∀ l D (rec:Loop),rec.params=#[pm]→rec.state=.ready→rec.pending=none→Fr.sat N fr ⟨rec.tmps,[]⟩→rec.assign=assign→rec.body=body→∀ s x,good s x →
      hE_ P l (xv x) (Hj s++HLp l D rec) Γx (fun _:{s':σ // nx x s s'}=>.bool true) (fun s'=>Hj s'.1++HLp l D rec) (fun _=>[]))
    (hit:∀ l (Gj:σ→Hp),(∀ s x,good s x→hE_ P l (xv x) (Gj s) Γx (fun _:{s':σ // nx x s s'}=>.bool true) (fun s'=>Gj s'.1) (fun _=>[])) →
      Tri P gf (.func (.yield l) #[] #[]::caps).toArray (Hc++Gj s0) Γi (fun _:{s':σ // Rc s'}=>.tuple #[]) (fun s'=>Hc++Gj s'.1) (fun _=>[]))
    (hnext:∀ s',Rc s'→∀ D l r,pD_ Fence.wide 0 P R N (pi_ D) v0 H0 K fr (Hc++Hj s'++HLp l D r) Γ) :
    Run P R N v0 H0 (.rangeFunc g #[pm] assign body) K fr H Γ:=by
  intro a v h1 h2 h3 h4
  refine wpIn_wide (n:=0) |>.1 (wpIn_mono (Q:=eh_ Fence.wide 0 P R K) (wpIn_rangeFunc fun fn _=>?_) fun e a w hq=>bh_ K e a w hq)
  obtain⟨a1,a2⟩:=fR_ (w':=v.w.alloc (.deferred (some []))) (o:=.deferred (some [])) h2 rfl rfl rfl rfl (Nat.le_refl _)
  obtain⟨rec,hrec⟩:∃ rec:Loop,rec={ state:=.ready,pending:=none,fn,tmps:=a.tmps,params:=#[pm],assign,body,defers:=v.w.heap.size }:=⟨_,rfl⟩
  obtain⟨b1,b2⟩:=fR_ (w':=(v.w.alloc (.deferred (some []))).alloc (.loop rec)) (o:=.loop rec) a1 rfl rfl rfl rfl (Nat.le_refl _)
  have hsz:(v.w.alloc (Obj.deferred (some []))).heap.size=v.w.heap.size+1:=by simp
  have b1':(⟨v.im,(v.w.alloc (.deferred (some []))).alloc (.loop rec),v.sl⟩:Vw).sat ((v.w.heap.size+1,.loop rec)::(v.w.heap.size,.deferred (some []))::H):=hsz▸b1
  have b2':v.to H ⟨v.im,(v.w.alloc (.deferred (some []))).alloc (.loop rec),v.sl⟩ ((v.w.heap.size+1,.loop rec)::(v.w.heap.size,.deferred (some []))::H):=a2.trans (hsz▸b2)
  have hperm:((v.w.heap.size+1,Obj.loop rec)::(v.w.heap.size,.deferred (some []))::H).Perm (Hc++(Hj s0++HLp (v.w.heap.size+1) v.w.heap.size rec)):=by
    rw[← List.append_assoc]
    exact (List.perm_append_comm (l₁:=HLp (v.w.heap.size+1) v.w.heap.size rec) (l₂:=H)).trans (hH.append_right _)
  have hT:=hit (v.w.heap.size+1) (fun s=>Hj s++HLp (v.w.heap.size+1) v.w.heap.size rec)
    (hround _ _ rec (by rw[hrec]) (by rw[hrec]) (by rw[hrec]) (by rw[hrec];exact⟨h1.size,rfl,h1.val⟩) (by rw[hrec]) (by rw[hrec]))
  have hΓ2:=aD_ (b2'.le h2) (hΓi v h2 h4)
  have hΓ3:=aD_ (b2'.le h2) h4
  have he:=h1.ev hg
  refine⟨v.w.heap.size+1,pi_ v.w.heap.size,(v.w.alloc (.deferred (some []))).alloc (.loop rec),⟨.fn (.func gf) caps.toArray,#[.func (.yield (v.w.heap.size+1)) #[] #[]]⟩,(v.w.alloc (.deferred (some []))).alloc (.loop rec),gf,(.func (.yield (v.w.heap.size+1)) #[] #[]::caps).toArray,_,?_,?_,fun _ _=>trivial,?_,fun h=>(by cases h),callsIn_wide.2 ((hT.run ⟨v.im,_,v.sl⟩ (b1'.perm hperm) hΓ2).mono ?_)⟩
  · rw[hrec];exact run_enterLoop_outer _ _ _ _ _
  · simp only[resolve,rangeCall,List.map_toArray,List.map_cons,List.map_nil,he,Deferred.ofValue]
    rfl
  · have:=hT.callable (.func (.yield (v.w.heap.size+1)) #[] #[]::caps).toArray ((v.w.alloc (.deferred (some []))).alloc (.loop rec))
    simpa [invoke] using this
  · rintro e w' ⟨⟨s',hRc⟩,v',rfl,rfl,g1,g2,g3⟩
    have g3':=b2'.trans (g3.permL hperm.symm)
    have hΓ4:=aD_ (g3'.le h2) h4
    have hsd:∀ D',SatD N D' fr { a with defers:=D'++a.defers }:=fun D'=>⟨⟨h1.size,rfl,h1.val⟩,by show D'++a.defers=D';rw[h1.defers];simp⟩
    have hpl:∀ (X Y:Hp) r,(Y++(X++HLp (v.w.heap.size+1) v.w.heap.size r)).Perm ((v.w.heap.size+1,.loop r)::(Y++X++[(v.w.heap.size,.deferred (some []))])):=fun X Y r=>by
      unfold HLp
      rw[← List.append_assoc]
      exact List.perm_middle
    have q:=g1.perm (hpl (Hj s') Hc rec)
    have hl:=(q.own _ List.mem_cons_self).1
    obtain⟨z1,z2⟩:=eS_ (o':=.loop { rec with state:=.exhausted }) q
    have zp:((v.w.heap.size+1,Obj.loop { rec with state:=.exhausted })::(Hc++Hj s'++[(v.w.heap.size,.deferred (some []))])).Perm (Hc++Hj s'++HLp (v.w.heap.size+1) v.w.heap.size { rec with state:=.exhausted }):=by
      have:=(hpl (Hj s') Hc { rec with state:=.exhausted }).symm
      rw[← List.append_assoc]at this
      exact this
    refine⟨rec.pending,_,run_endLoop hl (by rw[hrec];simp),?_⟩
    have hpn:rec.pending=none:=by rw[hrec]
    split
    case h_2=>rename_i c hc;rw[hpn]at hc;cases hc
    exact hnext s' hRc _ _ _ _ ⟨v'.im,_,v'.sl⟩ (hsd _) (z1.perm zp) (h3.trans (g3'.trans ((z2.permL (hpl _ _ _).symm).subR fun b hb=>(zp.map Prod.fst).mem_iff.2 hb))) (aD_ (z2.le q) hΓ4)
theorem oL_ {σ α:Type} {g:Operand} {pm:Nat} {assign body:Code} {gf:FuncId} {caps:List Value} {Hj:σ→Hp} {Hc:Hp} {Γi:List Fct} {xv:α→Value} {good:σ→α→Prop} {nx:α→σ→σ→Prop} {Rc:σ→Prop}
    (s0:σ) (hg:Fr.ev fr g=some (.func (.func gf) #[] caps.toArray)) (hH:H.Perm (Hc++Hj s0)) (hΓi:∀ v,v.sat H→ag_ Γ v→ag_ Γi v)
    (hround:∀ l D (rec:Loop),rec.params=#[pm]→rec.state=.ready→rec.pending=none→Fr.sat N fr ⟨rec.tmps,[]⟩→rec.assign=assign→rec.body=body→∀ s x,good s x →
      hE_ P l (xv x) (Hj s++HLp l D rec) [] (fun _:{s':σ // nx x s s'}=>.bool true) (fun s'=>Hj s'.1++HLp l D rec) (fun _=>[]))
    (hit:∀ l (Gj:σ→Hp),(∀ s x,good s x→hE_ P l (xv x) (Gj s) [] (fun _:{s':σ // nx x s s'}=>.bool true) (fun s'=>Gj s'.1) (fun _=>[])) →
      Tri P gf (.func (.yield l) #[] #[]::caps).toArray (Hc++Gj s0) Γi (fun _:{s':σ // Rc s'}=>.tuple #[]) (fun s'=>Hc++Gj s'.1) (fun _=>[]))
    (hnext:∀ s',Rc s'→∀ D l r,pD_ Fence.wide 0 P R N (pi_ D) v0 H0 K fr (Hc++Hj s'++HLp l D r) Γ) :
    Run P R N v0 H0 (.rangeFunc g #[pm] assign body) K fr H Γ:=
  gx_ [] s0 hg hH hΓi hround hit hnext
end
section
variable {Fc:Fence} {n:Nat} {P:Program} {N:Nat} {D:List Deferred} {v0:Vw} {H0:Hp} {R:Exit→Act→World→Prop} {K:List Kt} {fr:Fr} {H:Hp} {Γ:List Fct}
variable {ops:Array Oper} {l:List Oper} {d:Nat} {ty:TypeId} {ps:String} {af:Array Edge}
theorem lw_ {t e:TypeId} {len sz:Nat} {parts:List (Nat×Operand)} {vs:List (Nat×Value)} {zv:Value} {cs:List Value} (hF:Opn Fc) (hu:∀ w,(underlying t).run P w=.ok (.slice e) w) (hs:∀ w,(sizeOf e).run P w=.ok sz w) (hz:∀ w,(zeroValue e).run P w=.ok zv w)
    (hzl:zv.cells.toList.length=sz) (hp:Nat.blt 0 (len*sz)=true) (hle:Nat.ble (len*sz) 16777216=true) (hx:Fr.evp fr parts=some vs) (hf:kw_ (fun i=>some (i*sz,sz)) (ha_ zv.cells.toList len) vs=some cs) (hN:Nat.blt d N=true)
    (hk:∀ b,ez_ Fc n P R N D v0 H0 ops l K ((d,.slice (some ⟨b,0,none⟩) len len)::fr) ((b,.cells cs.toArray e (0,0))::H) Γ):ez_ Fc n P R N D v0 H0 ops (⟨some d,.buildSlice t len parts.toArray,ty,ps,af,none⟩::l) K fr H Γ :=
  dR_ rfl fun a v h1 h2 h3 h4=>by
    refine⟨fun f _=>hF.fn f,?_⟩
    rw[semAt_eq rfl]
    have he:(execOp a.eval ⟨some d,.buildSlice t len parts.toArray,ty,ps,af,none⟩).run P v.w=.ok (.value (.slice (some ⟨v.w.heap.size,0,none⟩) len len)) (v.w.alloc (.cells cs.toArray e (0,0))):=by
      have hx':=h1.sat.evp hx
      have hf':=ii_ _ _ _ _ hf
      have hpos:0<len*sz:=by simpa [Nat.blt_eq] using hp
      have hszp:0<sz:=Nat.pos_of_mul_pos_left hpos
      have hle':len*sz≤16777216:=Nat.le_of_ble_eq_true hle
      have hr:=hv_ zv.cells.toList (by omega) len
      rw[hzl]at hr
      simp only[Array.toArray_toList]at hr
      rw[← hr]at hf'
      have hx2:(parts.map fun (i,x)=>(i,a.eval x))=vs:=hx'
      simp only[execOp,Instr.buildSlice,Sem.run_bind,hu,Result.andThen_ok,hs,List.map_toArray,hx2]
      rw[if_neg (by omega),if_neg (by omega)]
      simp only[Sem.run_bind,Sem.run_pure,hz,Result.andThen_ok,hf']
      rfl
    rw[he]
    obtain⟨g1,g2⟩:=fR_ (w':=v.w.alloc (.cells cs.toArray e (0,0))) (o:=.cells cs.toArray e (0,0)) h2 rfl rfl rfl rfl (Nat.le_refl _)
    exact hk v.w.heap.size _ ⟨v.im,_,v.sl⟩ (h1.put hN) g1 (h3.trans g2) (aD_ (g2.le h2) h4)
theorem nR_ {k:Act→World→Prop} {H':Hp} (hH:H.Perm H') (h:OkD N D v0 H0 k fr H' Γ):OkD N D v0 H0 k fr H Γ :=
  fun a v h1 h2 h3 h4=>h a v h1 (h2.perm hH) (h3.subR fun b hb=>(hH.map Prod.fst).mem_iff.2 hb) h4
theorem hg_ {t e:TypeId} {x y:Operand} {b off sz m:Nat} {sv:Value} {xs:List Value} {Hr:Hp} (hF:Opn Fc) (i:Nat) {cur:Array Value} {T:TypeId} (hrow:ar_ e sz sv m xs Hr) (hs:∀ w,(sizeOf t).run P w=.ok 1 w)
    (hx:Fr.ev fr x=some (.pointer (some ⟨b,off,none⟩))) (hy:Fr.ev fr y=some sv) (hi:H[i]? = some (b,.cells cur T (0,0))) (hf:Nat.ble (off+1) cur.size=true)
    (hk:ez_ Fc n P R N D v0 H0 ops l K fr (H.set i (b,.cells (cur.toList.take off++[sv]++cur.toList.drop (off+1)).toArray T (0,0))) Γ):ez_ Fc n P R N D v0 H0 ops (⟨none,.store t x y,ty,ps,af,none⟩::l) K fr H Γ :=
  dQ_ hF i hs hx hy hi (by rw[(db_ hrow).1];rfl) hf (by rw[(db_ hrow).1];simp[(db_ hrow).2]) (by rw[(db_ hrow).1];exact hk)
theorem ja_ {x y:Operand} {t e:TypeId} {sz by' m k c:Nat} {sv:Value} {xs news:List Value} {Hr F:Hp} {ad:Addr} (hF:Opn Fc) (he:Elt P t e sz by') (hrow:ar_ e sz sv m xs Hr)
    (hx:Fr.ev fr x=some sv) (hy:Fr.ev fr y=some (.slice (some ad) k c)) (hH:H.Perm (Hr++F)) (hl:news.length=k*sz) (hnews:∀ v,v.sat H→ag_ Γ v→∀ j u,news[j]? = some u→v.w.cell? (ad.add j)=some u) (h1c:∀ u∈news,u.oneCell'=true)
    (h63:m+k≤maxLen) (hb:(m+k)*by'≤140737488355328) (hN:Nat.blt d N=true)
    (hk:∀ sv' Hr',ar_ e sz sv' (m+k) (xs++news) Hr'→ez_ Fc n P R N D v0 H0 ops l K ((d,sv')::fr) (Hr'++F) Γ) :
    ez_ Fc n P R N D v0 H0 ops (⟨some d,.call ⟨.builtin .append,#[x,y],#[t,t]⟩,ty,ps,af,none⟩::l) K fr H Γ :=
  dR_ rfl fun a v h1 h2 h3 h4=>by
    refine⟨fun f _=>hF.fn f,?_⟩
    rw[semAt_eq rfl]
    obtain⟨i,z,hi,hz,es,eb,ez⟩:=he.info
    have g:=h2.perm hH
    have hn:=hnews v h2 h4
    have ho:=hrow.owns g
    obtain⟨v',w',hr,q1,q2,_⟩:=run_append_own (P:=P) v.w 0 t ty e i z sz by' he.und hi hz es eb ez he.pos sv m xs ho ad k c news hl hn h1c h63 hb (Nat.zero_le _)
    obtain⟨a1,a2⟩:=ir_ v.w he.und hi hz es ho hl hn h1c h63 (by rw[eb];exact hb) hr
    obtain⟨Hr',k1,k2,k3⟩:=lG_ hrow g q1 q2 a1 a2
    have e1:a.eval x=sv:=h1.sat.ev hx
    have e2:a.eval y=.slice (some ad) k c:=h1.sat.ev hy
    have hxx:(execOp a.eval ⟨some d,.call ⟨.builtin .append,#[x,y],#[t,t]⟩,ty,ps,af,none⟩).run P v.w=.ok (.value v') w':=by
      simp only[execOp,resolve,invoke,builtin,Sem.run_bind,Sem.run_pure,Result.andThen_ok,List.map_toArray,List.map_cons,List.map_nil,e1,e2,hr]
    rw[hxx]
    exact hk v' Hr' k1 _ ⟨v.im,w',v.sl⟩ (h1.put hN) k2 (h3.trans (k3.permL hH.symm)) (aD_ ((k3.permL hH.symm).le h2) h4)
end
end Go.Sx
namespace Go.Vs
open Go Go.Sx
abbrev RSt:=Str×Str×Bool
def jq_ (l:List Str) (x:Str):List Str:=if x∈l then l else l++[x]
def jK_ (l:List Str):List Str:=l.foldl jq_ []
theorem oC_ (l:List Str) (x:Str):jK_ (l++[x])=jq_ (jK_ l) x:=by simp[jK_]
theorem tM_ {l:List Str} {x y:Str}:y∈jq_ l x↔y∈l∨y=x:=by
 unfold jq_
 split
 ·rename_i h
  exact⟨.inl,fun q=>q.elim id fun e=>e▸h⟩
 simp
theorem uX_ {l:List Str} {x:Str} (h:l.Nodup):(jq_ l x).Nodup:=by
 unfold jq_
 split
 ·exact h
 rename_i hx
 rw[List.nodup_append]
 exact⟨h,by simp,fun a ha b hb e=>by simp at hb;subst hb;subst e;exact hx ha⟩
theorem jJ_ (l:List Str):(jK_ l).Nodup∧∀ y,y∈jK_ l↔y∈l:=by
  unfold jK_
  have key:∀ (l acc:List Str),acc.Nodup→(l.foldl jq_ acc).Nodup∧∀ y,y∈l.foldl jq_ acc↔y∈acc∨y∈l:=by
    intro l
    induction l with
    | nil=>intro acc h;exact⟨h,fun y=>by simp⟩
    | cons x l ih =>
      intro acc h
      obtain⟨h1,h2⟩:=ih (jq_ acc x) (uX_ h)
      refine⟨h1,fun y=>?_⟩
      rw[List.foldl_cons,h2,tM_,List.mem_cons,or_assoc]
  obtain⟨h1,h2⟩:=key l [] List.nodup_nil
  exact⟨h1,fun y=>by rw[h2];simp⟩
def ik (S:List RSt) (r:Str):List Str:=jK_ ((S.filter fun z=>decide (z.1=r)).map (·.2.1))
def flg (S:List RSt) (r s:Str):Bool:=S.any fun z=>decide (z.1=r)&&(decide (z.2.1=s)&&z.2.2)
theorem ks_ {S:List RSt} {r s:Str}:s∈ik S r↔∃ c,(r,s,c)∈S:=by
 unfold ik
 rw[(jJ_ _).2,List.mem_map]
 constructor
 ·rintro ⟨⟨a,b,c⟩,h,rfl⟩
  rw[List.mem_filter,decide_eq_true_eq]at h
  obtain⟨h1,rfl⟩:=h
  exact⟨c,h1⟩
 rintro ⟨c,h⟩
 exact⟨(r,s,c),by rw[List.mem_filter];exact⟨h,by simp⟩,rfl⟩
theorem vg_ (S:List RSt) (r:Str):(ik S r).Nodup:=(jJ_ _).1
theorem mB_ (S:List RSt) (r s:Str) (c:Bool) (q:Str):ik (S++[(r,s,c)]) q=if r=q then jq_ (ik S q) s else ik S q:=by
 unfold ik
 rw[List.filter_append,List.map_append]
 by_cases h:r=q
 ·rw[if_pos h]
  simp only[List.filter_cons,h,decide_true,if_true,List.filter_nil,List.map_cons,List.map_nil]
  exact oC_ _ _
 rw[if_neg h]
 simp[h]
theorem ku_ {S:List RSt} {r s:Str}:flg S r s=true↔(r,s,true)∈S:=by
 unfold flg
 rw[List.any_eq_true]
 constructor
 ·rintro ⟨⟨a,b,c⟩,h,e⟩
  simp only[Bool.and_eq_true,decide_eq_true_eq]at e
  obtain⟨rfl,rfl,rfl⟩:=e
  exact h
 exact fun h=>⟨_,h,by simp⟩
theorem kv_ (S:List RSt) (r s:Str) (c:Bool) (q t:Str):flg (S++[(r,s,c)]) q t=(flg S q t||(decide (r=q)&&(decide (s=t)&&c))):=by
  unfold flg
  rw[List.any_append]
  simp
theorem flg_no {S:List RSt} {r s:Str} (h:s ∉ ik S r):flg S r s=false:=by
 cases e:flg S r s
 ·rfl
 exact absurd (ks_.2 ⟨true,ku_.1 e⟩) h
end Go.Vs
namespace Go.Sx
open Go Go.Vs
structure BolE (es:Array MapEntry) (ks:List Str) (g:Str→Bool):Prop where
  keys:es.toList.map (·.key)=ks.map str
  vals:es.toList.map (·.val)=ks.map fun k=>Value.bool (g k)
  nd:ks.Nodup
section
variable {P:Program} {kt:TypeId} {es:Array MapEntry} {ks:List Str} {g:Str→Bool}
theorem BolE.nil {g:Str→Bool}:BolE #[] [] g:=⟨rfl,rfl,List.nodup_nil⟩
theorem BolE.no (hK:KeyT P kt str) (h:BolE es ks g) {k:Str} (hk:k ∉ ks):cP_ P kt (str k) es.toList none:=hK.nf k es.toList ks h.keys hk
theorem BolE.yes (hK:KeyT P kt str) (h:BolE es ks g) {k:Str} (hk:k∈ks):∃ i e,ks[i]? = some k∧es[i]? = some e∧e.key=str k∧e.val=.bool (g k)∧cP_ P kt (str k) es.toList (some (i,.bool (g k))):=by
  obtain⟨i,hi⟩:=List.getElem?_of_mem hk
  have hlt:i<es.toList.length:=by
    have:=(List.getElem?_eq_some_iff.1 hi).1
    have e:=congrArg List.length h.keys
    simp only[List.length_map]at e
    omega
  have hx:=List.getElem?_eq_getElem hlt
  have hv:=congrArg (fun l=>l[i]?) h.vals
  simp only[List.getElem?_map,hx,Option.map_some,hi,Option.some.injEq]at hv
  have hk2:=congrArg (fun l=>l[i]?) h.keys
  simp only[List.getElem?_map,hx,Option.map_some,hi,Option.some.injEq]at hk2
  refine⟨i,es.toList[i],hi,by rw[← Array.getElem?_toList];exact hx,hk2,hv,?_⟩
  have:=hK.sf k es.toList ks i _ h.keys h.nd hi hx
  rwa [hv]at this
theorem BolE.push (h:BolE es ks g) {k:Str} (hk:k ∉ ks) (b:Bool) (c:Nat) {g':Str→Bool} (h1:g' k=b) (h2:∀ q,q∈ks→g' q=g q):BolE (es.push ⟨str k,.bool b,c⟩) (ks++[k]) g':=by
 refine⟨by simp[h.keys],?_,?_⟩
 ·rw[Array.toList_push,List.map_append,h.vals,List.map_append]
  simp only[List.map_cons,List.map_nil,h1]
  rw[show List.map (fun q=>Value.bool (g q)) ks=List.map (fun q=>Value.bool (g' q)) ks from List.map_congr_left fun q hq=>by rw[h2 q hq]]
 rw[List.nodup_append];exact⟨h.nd,by simp,fun a ha b hb e=>by simp at hb;subst hb;subst e;exact hk ha⟩
theorem BolE.set (h:BolE es ks g) {k:Str} {i:Nat} (hi:ks[i]? = some k) (b:Bool) {g':Str→Bool} (h1:g' k=b) (h2:∀ q,q≠k→g' q=g q):BolE (es.modify i fun y=>{ y with key:=str k,val:=.bool b }) ks g':=by
 have hlk:=congrArg List.length h.keys
 simp only[List.length_map]at hlk
 refine⟨?_,?_,h.nd⟩
 ·rw[← h.keys]
  apply List.ext_getElem?
  intro j
  simp only[List.getElem?_map,Array.getElem?_toList,Array.getElem?_modify]
  by_cases hij:i=j
  ·subst hij
   rw[if_pos rfl]
   have hk:=congrArg (fun l=>l[i]?) h.keys
   simp only[List.getElem?_map,hi,Option.map_some,Array.getElem?_toList]at hk
   cases he:es[i]? with
   | none=>rfl
   | some e=>rw[he]at hk;simpa using hk.symm
  rw[if_neg hij]
 apply List.ext_getElem?
 intro j
 have hv:=congrArg (fun l=>l[j]?) h.vals
 simp only[List.getElem?_map,Array.getElem?_toList,Array.getElem?_modify]at hv ⊢
 by_cases hij:i=j
 ·subst hij
  have hlt:i<es.size:=by
    have:=(List.getElem?_eq_some_iff.1 hi).1
    rw[Array.length_toList]at hlk
    omega
  rw[if_pos rfl,Array.getElem?_eq_getElem hlt,hi]
  simp[h1]
 rw[if_neg hij,hv]
 cases hq:ks[j]? with
 | none=>rfl
 | some q =>
   have:q≠k:=fun e=>by
     subst e
     have hil:=(List.getElem?_eq_some_iff.1 hi).1
     have hjl:=(List.getElem?_eq_some_iff.1 hq).1
     have e1:=(List.getElem?_eq_some_iff.1 hi).2
     have e2:=(List.getElem?_eq_some_iff.1 hq).2
     have hn:=h.nd
     unfold List.Nodup at hn
     rw[List.pairwise_iff_getElem]at hn
     rcases Nat.lt_trichotomy i j with g1|g1|g1
     · exact hn i j hil hjl g1 (e1.trans e2.symm)
     · exact hij g1
     · exact hn j i hjl hil g1 (e2.trans e1.symm)
   simp[h2 q this]
end
def fk_ (E:Str→Array MapEntry×Nat) (p:Str×Nat):Nat×Obj:=(p.2,.map (E p.1).1 (E p.1).2)
def jm_ (o:Option Nat):Value:=.map o
structure MmE (ks:List (Str×Nat)) (S:List RSt) (es:Array MapEntry) (c:Nat) (E:Str→Array MapEntry×Nat):Prop where
  keys:es.toList.map (·.key)=(ks.map (·.1)).map str
  vals:es.toList.map (·.val)=ks.map fun p=>jm_ (some p.2)
  nd:(ks.map (·.1)).Nodup
  all:∀ z∈S,z.1∈ks.map (·.1)
  born:Born es c
  inn:∀ k∈ks.map (·.1),BolE (E k).1 (ik S k) (flg S k)∧Born (E k).1 (E k).2
def MmO (mb:Nat) (ks:List (Str×Nat)) (S:List RSt) (H:Hp):Prop:=∃ es c E,H=(mb,.map es c)::ks.map (fk_ E)∧MmE ks S es c E
theorem MmO.nil (mb c:Nat):MmO mb [] [] [(mb,.map #[] c)]:=⟨#[],c,fun _=>(#[],0),rfl,rfl,rfl,List.nodup_nil,by simp,Born.nil c,by simp⟩
section
variable {P:Program} {kt:TypeId} {mb:Nat} {ks:List (Str×Nat)} {S:List RSt} {es:Array MapEntry} {c:Nat} {E:Str→Array MapEntry×Nat} {H:Hp}
theorem MmE.no (hK:KeyT P kt str) (h:MmE ks S es c E) {k:Str} (hk:eQ_ ks k=none):cP_ P kt (str k) es.toList none:=hK.nf k es.toList _ h.keys (eu_ hk)
theorem MmE.yes (hK:KeyT P kt str) (h:MmE ks S es c E) {k:Str} {b:Nat} (hk:eQ_ ks k=some b):∃ i,cP_ P kt (str k) es.toList (some (i,jm_ (some b))):=by
  obtain⟨i,hi⟩:=List.getElem?_of_mem (gP_ hk)
  have hv:=congrArg (fun l=>l[i]?) h.vals
  simp only[List.getElem?_map,hi,Option.map_some]at hv
  cases hx:es.toList[i]? with
  | none=>rw[hx]at hv;simp at hv
  | some x =>
    rw[hx]at hv
    simp only[Option.map_some,Option.some.injEq]at hv
    refine⟨i,?_⟩
    have:=hK.sf k es.toList _ i x h.keys h.nd (by rw[List.getElem?_map,hi];rfl) hx
    rwa [hv]at this
theorem MmO.at (h:MmO mb ks S H) {k:Str} {b:Nat} (hk:eQ_ ks k=some b):∃ es c Hr,H.Perm ((b,.map es c)::Hr)∧BolE es (ik S k) (flg S k)∧Born es c ∧
    ∀ s d es' c',BolE es' (ik (S++[(k,s,d)]) k) (flg (S++[(k,s,d)]) k)→Born es' c'→∃ H',MmO mb ks (S++[(k,s,d)]) H'∧((b,Obj.map es' c')::Hr).Perm H':=by
  obtain⟨es,c,E,rfl,hE⟩:=h
  have hm:=gP_ hk
  have hkm:k∈ks.map (·.1):=List.mem_map_of_mem hm
  obtain⟨l1,l2,rfl⟩:=List.append_of_mem hm
  refine⟨(E k).1,(E k).2,(mb,.map es c)::(l1++l2).map (fk_ E),?_,(hE.inn k hkm).1,(hE.inn k hkm).2,fun s d es' c' hB hBo=>?_⟩
  · rw[List.map_append,List.map_cons,List.map_append]
    exact (List.Perm.cons _ List.perm_middle).trans (.swap _ _ _)
  · have hnd:=hE.nd
    rw[List.map_append,List.map_cons,List.nodup_append,List.nodup_cons]at hnd
    have e1:l1.map (fk_ fun q=>if q=k then (es',c') else E q)=l1.map (fk_ E):=List.map_congr_left fun p hp=>by
      unfold fk_
      dsimp only
      rw[if_neg fun e=>hnd.2.2 p.1 (List.mem_map_of_mem hp) k (by simp) e]
    have e2:l2.map (fk_ fun q=>if q=k then (es',c') else E q)=l2.map (fk_ E):=List.map_congr_left fun p hp=>by
      unfold fk_
      dsimp only
      rw[if_neg fun e=>hnd.2.1.1 (List.mem_map.2 ⟨p,hp,e⟩)]
    refine⟨(mb,.map es c)::(l1++(k,b)::l2).map (fk_ fun q=>if q=k then (es',c') else E q),⟨es,c,_,rfl,hE.keys,hE.vals,hE.nd,fun z hz=>?_,hE.born,fun q hq=>?_⟩,?_⟩
    · rcases List.mem_append.1 hz with hz|hz
      · exact hE.all z hz
      · rw[List.mem_singleton]at hz;subst hz;exact hkm
    · by_cases e:q=k
      · subst e;rw[if_pos rfl];exact⟨hB,hBo⟩
      · rw[if_neg e,mB_,if_neg (Ne.symm e)]
        have:flg (S++[(k,s,d)]) q=flg S q:=funext fun t=>by rw[kv_,decide_eq_false (Ne.symm e)];simp
        rw[this]
        exact hE.inn q hq
    · have e3:fk_ (fun q=>if q=k then (es',c') else E q) (k,b)=(b,.map es' c'):=by unfold fk_;dsimp only;rw[if_pos rfl]
      rw[List.map_append,List.map_append,List.map_cons,e1,e2,e3]
      exact ((List.Perm.cons _ List.perm_middle).trans (.swap _ _ _)).symm
theorem MmE.push (h:MmE ks S es c E) {k:Str} (hk:eQ_ ks k=none) (b c0:Nat):MmE (ks++[(k,b)]) S (es.push ⟨str k,jm_ (some b),c⟩) (c+1) (fun q=>if q=k then (#[],c0) else E q):=by
 have hkn:=eu_ hk
 refine⟨by simp[h.keys],by simp[h.vals],?_,fun x hx=>by simp only[List.map_append,List.mem_append];exact .inl (h.all x hx),h.born.push _ _,fun q hq=>?_⟩
 ·rw[List.map_append,List.nodup_append]
  exact⟨h.nd,by simp,fun a ha q hq e=>by simp at hq;subst hq;subst e;exact hkn ha⟩
 by_cases e:q=k
 ·subst e
  rw[if_pos rfl]
  have:ik S q=[]:=List.eq_nil_iff_forall_not_mem.2 fun s hs=>by
    obtain⟨d,hd⟩:=ks_.1 hs
    exact hkn (h.all _ hd)
  rw[this]
  exact⟨BolE.nil,Born.nil _⟩
 rw[if_neg e]
 refine h.inn q ?_
 rw[List.map_append,List.mem_append]at hq
 rcases hq with hq|hq
 ·exact hq
 simp at hq;exact absurd hq e
end
section ops
variable {P:Program} {N:Nf} {v0:Vw} {H0:Hp} {R:Exit→Act→World→Prop} {K:List Kt} {fr:Fr} {H F:Hp} {Γ:List Fct}
variable {ops:Array Oper} {l:List Oper} {d:Nat} {ty:TypeId} {ps:String} {af:Array Edge}
variable {mb:Nat} {ks:List (Str×Nat)} {S:List RSt} {Hx:Hp}
theorem ep_ {t kt et:TypeId} {x y:Operand} {k:Str} (hK:KeyT P kt str) (hu:∀ w,(underlying t).run P w=.ok (.map kt et) w) (hz:∀ w,(zeroValue et).run P w=.ok (.map none) w) (hT:MmO mb ks S Hx) (hx:Fr.ev fr x=some (.map (some mb))) (hy:Fr.ev fr y=some (str k)) (hp:H.Perm (Hx++F)) :
    Yld P N fr H Γ (.lookup t x y false) ty (jm_ (eQ_ ks k)):=by
  obtain⟨es,c,E,rfl,hE⟩:=hT
  have hm:∀ v:Vw,v.sat H→ag_ Γ v→v.w.heap[mb]? = some (.map es c):=fun v h _=>(h.own (mb,.map es c) (hp.mem_iff.2 (by simp))).1
  cases hk:eQ_ ks k with
  | none=>exact eP_ hu hz hx hy hm (hK.ok k) (hE.no hK hk)
  | some b =>
    obtain⟨i,hf⟩:=hE.yes hK hk
    exact eo_ hu hx hy hm (hK.ok k) hf
theorem rX_ {t t' kt e:TypeId} {x y:Operand} {o:Option Nat} (hu:P.underlying t=some (.map kt e)) (hx:Fr.ev fr x=some (jm_ o)) (hy:Fr.ev fr y=some (.map none)):Yld P N fr H Γ (.binOp .eql t x y t') ty (.bool (decide (o=none))) :=
  fun a v h1 _ _ _ _ _=>by
    have he:decide (o=none)=o.isNone:=by cases o<;>simp
    rw[he]
    have:=run_eql_map_nil (P:=P) v.w t kt e o hu
    simp[execOp,h1.ev hx,h1.ev hy,eqGuard,jm_,this]
theorem hl_ {t kt et:TypeId} {x y:Operand} {k s:Str} {b:Nat} (hK:KeyT P kt str) (hu:∀ w,(underlying t).run P w=.ok (.map kt et) w) (hz:∀ w,(zeroValue et).run P w=.ok (.bool false) w) (hT:MmO mb ks S Hx) (hk:eQ_ ks k=some b) (hx:Fr.ev fr x=some (.map (some b))) (hy:Fr.ev fr y=some (str s)) (hp:H.Perm (Hx++F)) :
    Yld P N fr H Γ (.lookup t x y false) ty (.bool (flg S k s)):=by
  obtain⟨es,c,Hr,h1,h2,_,_⟩:=hT.at hk
  have hm:∀ v:Vw,v.sat H→ag_ Γ v→v.w.heap[b]? = some (.map es c):=fun v h _=>(h.own _ (hp.mem_iff.2 (List.mem_append_left _ (h1.mem_iff.2 List.mem_cons_self)))).1
  by_cases hs:s∈ik S k
  · obtain⟨_,_,_,_,_,_,hf⟩:=h2.yes hK hs
    exact eo_ hu hx hy hm (hK.ok s) hf
  · rw[flg_no hs]
    exact eP_ hu hz hx hy hm (hK.ok s) (h2.no hK hs)
theorem sM_ {o:Op} {t kt et:TypeId} {x y z:Operand} {k:Str} {b c0:Nat} (hK:KeyT P kt str) (ho:o=.insert t x y z∨o=.mapUpdate t x y z) (hu:∀ w,(underlying t).run P w=.ok (.map kt et) w) (hT:MmO mb ks S Hx) (hk:eQ_ ks k=none)
    (hx:Fr.ev fr x=some (.map (some mb))) (hy:Fr.ev fr y=some (str k)) (hz:Fr.ev fr z=some (.map (some b))) (hp:H.Perm ((b,.map #[] c0)::(Hx++F)))
    (hkk:∀ H',MmO mb (ks++[(k,b)]) S H'→Ops P R N v0 H0 ops l K fr (H'++F) Γ):Ops P R N v0 H0 ops (⟨none,o,ty,ps,af,none⟩::l) K fr H Γ:=by
  obtain⟨es,c,E,rfl,hE⟩:=hT
  have e1:ks.map (fk_ fun q=>if q=k then (#[],c0) else E q)=ks.map (fk_ E):=List.map_congr_left fun p hp=>by
    unfold fk_
    dsimp only
    rw[if_neg fun e:p.1=k=>eu_ hk (e▸List.mem_map_of_mem hp)]
  have e3:fk_ (fun q=>if q=k then (#[],c0) else E q) (k,b)=(b,.map #[] c0):=by unfold fk_;dsimp only;rw[if_pos rfl]
  have hp2:H.Perm ((mb,.map es c)::((ks++[(k,b)]).map (fk_ fun q=>if q=k then (#[],c0) else E q)++F)):=by
    refine hp.trans ?_
    rw[List.map_append,List.map_cons,List.map_nil,e1,e3,List.cons_append]
    refine (List.Perm.swap _ _ _).trans (.cons _ ?_)
    rw[List.append_assoc]
    exact List.perm_middle.symm
  refine u_ hp2 ?_
  refine aW_ 0 ho hu hx hy hz rfl (hK.ok k) (hE.no hK hk) ?_
  simp only[List.set_cons_zero]
  exact hkk _ ⟨_,_,_,rfl,hE.push hk b c0⟩
theorem hX_ {o:Op} {t kt et:TypeId} {x y z:Operand} {k s:Str} {b:Nat} {e e':Bool} (hK:KeyT P kt str) (ho:o=.insert t x y z∨o=.mapUpdate t x y z) (hu:∀ w,(underlying t).run P w=.ok (.map kt et) w) (hT:MmO mb ks S Hx) (hk:eQ_ ks k=some b) (he:e'=(flg S k s||e))
    (hx:Fr.ev fr x=some (.map (some b))) (hy:Fr.ev fr y=some (str s)) (hz:Fr.ev fr z=some (.bool e')) (hp:H.Perm (Hx++F))
    (hkk:∀ H',MmO mb ks (S++[(k,s,e)]) H'→Ops P R N v0 H0 ops l K fr (H'++F) Γ):Ops P R N v0 H0 ops (⟨none,o,ty,ps,af,none⟩::l) K fr H Γ:=by
  subst he
  obtain⟨es,c,Hr,h1,h2,h3,h4⟩:=hT.at hk
  have gk:flg (S++[(k,s,e)]) k s=(flg S k s||e):=by rw[kv_];simp
  have gq:∀ q,q≠s→flg (S++[(k,s,e)]) k q=flg S k q:=fun q hq=>by rw[kv_,decide_eq_false (Ne.symm hq)];simp
  refine u_ (hp.trans (h1.append_right F)) ?_
  by_cases hs:s∈ik S k
  · obtain⟨i,en,g1,g2,g3,g4,g5⟩:=h2.yes hK hs
    obtain⟨H',q1,q2⟩:=h4 s e (es.modify i fun y=>{ y with key:=str s,val:=.bool (flg S k s||e) }) c (by rw[mB_,if_pos rfl,jq_,if_pos hs];exact h2.set g1 _ gk gq) (h3.modify i _ fun _=>rfl)
    exact fU_ 0 hK ho hu hx hy hz rfl g5 g2 g3 (u_ (q2.append_right F) (hkk H' q1))
  · obtain⟨H',q1,q2⟩:=h4 s e (es.push ⟨str s,.bool (flg S k s||e),c⟩) (c+1) (by rw[mB_,if_pos rfl,jq_,if_neg hs];exact h2.push hs (flg S k s||e) c gk fun q hq=>gq q (fun e=>hs (e▸hq))) (h3.push _ _)
    exact aW_ 0 ho hu hx hy hz rfl (hK.ok s) (h2.no hK hs) (u_ (q2.append_right F) (hkk H' q1))
end ops
end Go.Sx
namespace Go.Vs
open Go Go.Sx
def Ax.selfs (x:Ax):Nat:=x.roles.countP fun r=>decide (r=x.role)
def Ax.exm (x:Ax) (i:Nat):Bool:=decide (x.roles[i]? = some x.role)&&((decide (x.selfs=1)&&(decide (i=0)||decide (i+1=x.roles.length)))||(decide (x.selfs=2)&&decide (x.roles.length=2)))
def Ax.chs (x:Ax):Nat→List RSt
  | 0=>[]
  | i+1=>x.chs i++(match x.roles[i]? with|some r=>if x.exm i=true then [] else [(r,x.role,true)]|none=>[])
def Ax.steps (x:Ax):List RSt :=
  if x.kind=5 then (match x.roles[0]? with|some r=>if r=x.role then [] else [(r,x.role,false)]|none=>[])
  else if x.kind=6 then x.chs x.roles.length else []
def da_ (l:List Ax):List RSt:=l.flatMap Ax.steps
theorem oK_ {l m:List Ax} (h:∀ x∈l,x∈m):∀ z∈da_ l,z∈da_ m:=fun z hz=>by
  unfold da_ at hz ⊢
  rw[List.mem_flatMap]at hz ⊢
  obtain⟨x,hx,hz⟩:=hz
  exact⟨x,h x hx,hz⟩
theorem dd_ {l:List Ax} {i:Nat} {x:Ax} (h:l[i]? = some x):da_ (l.take (i+1))=da_ (l.take i)++x.steps:=by
  unfold da_
  rw[List.take_add_one,h,List.flatMap_append]
  simp
theorem Ax.steps_five {x:Ax} {r:Str} (hk:x.kind=5) (h:x.roles[0]? = some r) (hn:r≠x.role):x.steps=[(r,x.role,false)]:=by unfold Ax.steps;rw[if_pos hk,h];dsimp only;rw[if_neg hn]
theorem Ax.steps_same {x:Ax} {r:Str} (hk:x.kind=5) (h:x.roles[0]? = some r) (hn:r=x.role):x.steps=[]:=by unfold Ax.steps;rw[if_pos hk,h];dsimp only;rw[if_pos hn]
theorem Ax.steps_six {x:Ax} (hk:x.kind=6):x.steps=x.chs x.roles.length:=by unfold Ax.steps;rw[if_neg (by omega),if_pos hk]
theorem Ax.steps_no {x:Ax} (h5:x.kind≠5) (h6:x.kind≠6):x.steps=[]:=by unfold Ax.steps;rw[if_neg h5,if_neg h6]
theorem Ax.chs_yes {x:Ax} {i:Nat} {r:Str} (h:x.roles[i]? = some r) (he:x.exm i=true):x.chs (i+1)=x.chs i:=by rw[Ax.chs,h];dsimp only;rw[if_pos he,List.append_nil]
theorem Ax.chs_no {x:Ax} {i:Nat} {r:Str} (h:x.roles[i]? = some r) (he:x.exm i=false):x.chs (i+1)=x.chs i++[(r,x.role,true)]:=by rw[Ax.chs,h];dsimp only;rw[if_neg (by rw[he];simp)]
def Frm (ks:List (Str×Nat)) (S:List RSt):Prop:=∀ k∈ks.map (·.1),∃ s c,(k,s,c)∈S
theorem Frm.nil {S:List RSt}:Frm [] S:=fun k hk=>by simp at hk
theorem Frm.more {ks:List (Str×Nat)} {S T:List RSt} (h:Frm ks S):Frm ks (S++T):=fun k hk=>by
  obtain⟨s,c,h1⟩:=h k hk
  exact⟨s,c,List.mem_append_left _ h1⟩
theorem Frm.add {ks ks':List (Str×Nat)} {S:List RSt} {r s:Str} {e:Bool} (h:Frm ks S) (h2:∀ k∈ks'.map (·.1),k∈ks.map (·.1)∨k=r):Frm ks' (S++[(r,s,e)]):=fun k hk=>by
 rcases h2 k hk with h3|rfl
 ·obtain⟨t,c,h1⟩:=h k h3
  exact⟨t,c,List.mem_append_left _ h1⟩
 exact⟨s,e,by simp⟩
def sE (S:List RSt) (r s:Str) (c:Bool):Prop:=(r,s,c)∈S
def rV_ (S:List RSt):Prop:=∃ n,Clo (sE S) n
theorem Clo.sub {α:Type} {E F:α→α→Bool→Prop} {n:Nat} (h:∀ x y c,E x y c→F x y c):Clo E n→Clo F n:=fun⟨f,c,h1,h2,h3,h4⟩=>⟨f,c,h1,h2,fun m hm=>h _ _ _ (h3 m hm),h4⟩
theorem rV_.sub {S T:List RSt} (h:∀ z∈S,z∈T):rV_ S→rV_ T:=fun⟨n,hn⟩=>⟨n,hn.sub fun x y c hz=>h _ hz⟩
theorem sO_ {α:Type} {l:List α} (hn:l.Nodup) {i j:Nat} {x:α} (hi:l[i]? = some x) (hj:l[j]? = some x):i=j:=by
 have hil:=(List.getElem?_eq_some_iff.1 hi).1
 have hjl:=(List.getElem?_eq_some_iff.1 hj).1
 have e1:=(List.getElem?_eq_some_iff.1 hi).2
 have e2:=(List.getElem?_eq_some_iff.1 hj).2
 unfold List.Nodup at hn
 rw[List.pairwise_iff_getElem]at hn
 rcases Nat.lt_trichotomy i j with g|g|g
 ·exact absurd (e1.trans e2.symm) (hn i j hil hjl g)
 ·exact g
 exact absurd (e2.trans e1.symm) (hn j i hjl hil g)
structure GrO (S:List RSt) (R:List Str) (G:List (List (Nat×Bool))):Prop where
  len:G.length=R.length
  nd:R.Nodup
  mem:∀ r,r∈R↔∃ s c,(r,s,c)∈S
  row:∀ (i:Nat) (r:Str) (l:List (Nat×Bool)),R[i]? = some r→G[i]? = some l→∀ (j:Nat) (c:Bool),(j,c)∈l↔∃ s,R[j]? = some s∧(∃ c',(r,s,c')∈S)∧c=flg S r s
theorem GrO.to {S:List RSt} {R:List Str} {G:List (List (Nat×Bool))} (h:GrO S R G):∀ (i:Nat) (l:List (Nat×Bool)),G[i]? = some l→∀ s∈l,s.1<G.length:=by
  intro i l hl s hs
  have hil:=(List.getElem?_eq_some_iff.1 hl).1
  rw[h.len]at hil
  obtain⟨t,ht,_⟩:=(h.row i _ l (List.getElem?_eq_getElem hil) hl s.1 s.2).1 hs
  rw[h.len]
  exact (List.getElem?_eq_some_iff.1 ht).1
theorem GrO.circ {S:List RSt} {R:List Str} {G:List (List (Nat×Bool))} (h:GrO S R G):rV_ S↔∃ n,Clo (gE G) n:=by
 constructor
 ·rintro ⟨n,f,c,h0,h1,h2,m0,hm0,hc0⟩
  have hR:∀ m,∃ j,m≤n→R[j]? = some (f m):=fun m=>by
    by_cases g:m≤n
    · by_cases g2:m<n
      · obtain⟨j,hj⟩:=List.getElem?_of_mem ((h.mem (f m)).2 ⟨_,_,h2 m g2⟩)
        exact⟨j,fun _=>hj⟩
      · obtain⟨j,hj⟩:=List.getElem?_of_mem ((h.mem (f 0)).2 ⟨_,_,h2 0 h0⟩)
        exact⟨j,fun _=>by rw[show m=n by omega,h1];exact hj⟩
    · exact⟨0,fun q=>absurd q g⟩
  obtain⟨g,hg⟩:=Classical.axiomOfChoice hR
  refine⟨n,g,fun m=>flg S (f m) (f (m+1)),h0,?_,fun m hm=>?_,m0,hm0,?_⟩
  ·have e1:=hg n (Nat.le_refl _)
   have e2:=hg 0 (Nat.zero_le _)
   rw[h1]at e1
   exact sO_ h.nd e1 e2
  ·have e1:=hg m (by omega)
   have hlt:g m<G.length:=by rw[h.len];exact (List.getElem?_eq_some_iff.1 e1).1
   exact⟨_,List.getElem?_eq_getElem hlt,(h.row (g m) (f m) _ e1 (List.getElem?_eq_getElem hlt) _ _).2 ⟨f (m+1),hg (m+1) (by omega),⟨_,h2 m hm⟩,rfl⟩⟩
  have:=h2 m0 hm0
  rw[hc0]at this
  exact ku_.2 this
 rintro ⟨n,g,c,h0,h1,h2,m0,hm0,hc0⟩
 have key:∀ m,m<n→∃ d,((R[g m]?).getD [],(R[g (m+1)]?).getD [],d)∈S∧(c m=true→d=true):=fun m hm=>by
   obtain⟨l,hl,hs⟩:=h2 m hm
   have hil:g m<R.length:=by rw[← h.len];exact (List.getElem?_eq_some_iff.1 hl).1
   obtain⟨s,e1,⟨c',e2⟩,e3⟩:=(h.row (g m) _ l (List.getElem?_eq_getElem hil) hl _ _).1 hs
   rw[List.getElem?_eq_getElem hil,e1]
   simp only[Option.getD_some]
   cases hc:c m
   · exact⟨c',e2,fun q=>by cases q⟩
   · rw[hc]at e3
     exact⟨true,ku_.1 e3.symm,fun _=>rfl⟩
 have hd:∀ m,∃ d,m<n→((R[g m]?).getD [],(R[g (m+1)]?).getD [],d)∈S∧(c m=true→d=true):=fun m=>by
   by_cases g:m<n
   · obtain⟨d,hd⟩:=key m g
     exact⟨d,fun _=>hd⟩
   · exact⟨false,fun q=>absurd q g⟩
 obtain⟨d,hd⟩:=Classical.axiomOfChoice hd
 exact⟨n,fun m=>(R[g m]?).getD [],d,h0,by dsimp only;rw[h1],fun m hm=>(hd m hm).1,m0,hm0,(hd m0 hm0).2 hc0⟩
end Go.Vs
