/-
  Part of the proof of the law ProofToolsSpec over this seat: the small logic, the data, the contracts of functions (no condition).
-/
import Derived.Test.YtkeanlfhghlgiaaGreatDoorQProofToolsSpec4
import Derived.Test.YtkeanlfhghlgiaaGreatDoorQProofToolsSpec1
import Derived.Scope
import Derived.Test.YtkeanlfhghlgiaaGreatDoorQProofToolsSpec5
import Derived.Test.YtkeanlfhghlgiaaGreatDoorQProofToolsSpec2
import Derived.Maps.RangeRun
set_option linter.unusedVariables false
set_option linter.unusedSimpArgs false
set_option linter.unusedSectionVars false
set_option maxHeartbeats 1000000
namespace Go.Sx
open Go Go.Vs
theorem mP_ {P:Program} {f:FuncId} {args:Array Value} {H:Hp} {Γ Γ0:List Fct} {ι:Type} {ret:ι→Value} {H':ι→Hp} (B:Hp) (hT:Tri P f args H Γ ret H' (fun _=>[]))
    (hΓ:∀ v:Vw,(∀ p∈B,v.im p.1∧v.w.heap[p.1]? = some p.2)→am_ Γ0 v→am_ Γ v):Tri P f args (B++H) Γ0 ret (fun x=>B++H' x) (fun _=>[]):=by
  refine⟨hT.callable,fun v hs hv=>?_⟩
  have hnd:=hs.nodup
  rw[List.map_append,List.nodup_append]at hnd
  have hlt:∀ p∈B,p.1<v.w.heap.size:=fun p hp=>(Array.getElem?_eq_some_iff.1 (hs.own p (List.mem_append_left _ hp)).1).1
  have h1:(⟨fun b=>v.im b∨b∈B.map Prod.fst,v.w,v.sl⟩:Vw).sat H:=by
    refine⟨fun p hp=>⟨(hs.own p (List.mem_append_right _ hp)).1,fun hi=>?_⟩,hnd.2.1,fun b hb=>?_⟩
    · rcases hi with hi|hi
      · exact (hs.own p (List.mem_append_right _ hp)).2 hi
      · exact hnd.2.2 _ hi _ (List.mem_map_of_mem hp) rfl
    · rcases hb with hb|hb
      · exact hs.lt b hb
      · obtain⟨p,hp,rfl⟩:=List.mem_map.1 hb
        exact hlt p hp
  have hle:v.le ⟨fun b=>v.im b∨b∈B.map Prod.fst,v.w,v.sl⟩:=⟨fun b h=>.inl h,fun _ _=>rfl,rfl⟩
  have h2:=hΓ ⟨fun b=>v.im b∨b∈B.map Prod.fst,v.w,v.sl⟩ (fun p hp=>⟨.inr (List.mem_map_of_mem hp),(hs.own p (List.mem_append_left _ hp)).1⟩) (bf_ hle hv)
  refine (hT.run _ h1 h2).mono ?_
  rintro e w' ⟨x,v',rfl,rfl,g1,_,g3⟩
  have hB:∀ b,b∈B.map Prod.fst→v'.im b:=fun b hb=>g3.imUp b (.inr hb)
  refine⟨x,⟨fun b=>v'.im b∧b ∉ B.map Prod.fst,v'.w,v'.sl⟩,rfl,rfl,⟨fun p hp=>?_,?_,fun b hb=>g1.lt b hb.1⟩,trivial,?_⟩
  · rcases List.mem_append.1 hp with hp|hp
    · refine⟨?_,fun h=>h.2 (List.mem_map_of_mem hp)⟩
      have:=(g3.le h1).block p.1 (.inr (List.mem_map_of_mem hp))
      exact this.trans (hs.own p (List.mem_append_left _ hp)).1
    · exact⟨(g1.own p hp).1,fun h=>(g1.own p hp).2 h.1⟩
  · rw[List.map_append,List.nodup_append]
    refine⟨hnd.1,g1.nodup,fun a ha b hb e=>?_⟩
    subst e
    obtain⟨p,hp,rfl⟩:=List.mem_map.1 hb
    exact (g1.own p hp).2 (hB _ ha)
  · refine⟨g3.os,g3.tape,g3.output,g3.size,fun b hb hn=>g3.block b hb (fun hm=>hn ?_),fun b hb=>⟨g3.imUp b (.inl hb),fun hm=>?_⟩,fun b hb=>?_,fun b hb=>?_,g3.sl,g3.dr⟩
    · rw[List.map_append];exact List.mem_append_right _ hm
    · obtain⟨p,hp,rfl⟩:=List.mem_map.1 hm
      exact (hs.own p (List.mem_append_left _ hp)).2 hb
    · rcases g3.imNew b hb.1 with (h|h)|h|h
      · exact .inl h
      · exact absurd h hb.2
      · exact .inr (.inl (by rw[List.map_append];exact List.mem_append_right _ h))
      · exact .inr (.inr h)
    · rw[List.map_append]at hb ⊢
      rcases List.mem_append.1 hb with h|h
      · exact .inl (List.mem_append_left _ h)
      · exact (g3.hNew b h).imp (List.mem_append_right _) id
structure KeyT (P:Program) (kt:TypeId) {K:Type} [DecidableEq K] (kv:K→Value):Prop where
  ok:∀ k,hv_ P kt (kv k)
  nf:∀ (k:K) (es:List MapEntry) (ks:List K),es.map (·.key)=ks.map kv→k ∉ ks→dL_ P kt (kv k) es none
  sf:∀ (k:K) (es:List MapEntry) (ks:List K) (i:Nat) (e:MapEntry),es.map (·.key)=ks.map kv→ks.Nodup→ks[i]? = some k→es[i]? = some e→dL_ P kt (kv k) es (some (i,e.val))
  same:∀ k,Instr.sameBits 10000 (kv k) (kv k)=true
section
variable {P:Program}
theorem kS_ (a b:List UInt8):((⟨a.toArray⟩:ByteArray)==⟨b.toArray⟩)=decide (a=b):=by
  show (a.toArray==b.toArray)=_
  rw[Bool.eq_iff_iff]
  simp
theorem rW_ {kt:TypeId} (hu:P.underlying kt=some .string):KeyT P kt str where
  ok:=fun k e w=>by
    have key:∀ m,(Instr.checkKey e (m+1) kt (str k)).run P w=.ok () w:=fun m=>by simp[Instr.checkKey,run_underlying hu,str]
    exact key 9999
  nf:=fun k es ks h hk=>lP_ hu (by
    have:∀ (ks:List Str) (es:List MapEntry) (i:Nat),es.map (·.key)=ks.map str→k ∉ ks→Instr.findNow .string (str k) es i=some none:=by
      intro ks
      induction ks with
      | nil => intro es i h _; have : es = [] := by simpa using h
               subst this;rfl
      | cons q ks ih =>
        intro es i h hk
        cases es with
        | nil=>simp at h
        | cons e es =>
          simp only[List.map_cons,List.cons.injEq]at h
          simp only[List.mem_cons,not_or]at hk
          have hs:Instr.sameNow .string (str k) e.key=some false:=by
            rw[h.1]
            show some ((⟨k.toArray⟩:ByteArray)==⟨q.toArray⟩)=some false
            rw[kS_,decide_eq_false hk.1]
          simp only[Instr.findNow,hs]
          exact ih es (i+1) h.2 hk.2
    exact this ks es 0 h hk)
  sf:=fun k es ks i e h hn hi he=>lP_ hu (by
    have:∀ (ks:List Str) (es:List MapEntry) (j i:Nat),es.map (·.key)=ks.map str→ks.Nodup→ks[i]? = some k→es[i]? = some e→Instr.findNow .string (str k) es j=some (some (j+i,e.val)):=by
      intro ks
      induction ks with
      | nil=>intro es j i _ _ h;simp at h
      | cons q ks ih =>
        intro es j i h hn hi he
        cases es with
        | nil=>simp at h
        | cons x es =>
          simp only[List.map_cons,List.cons.injEq]at h
          rw[List.nodup_cons]at hn
          cases i with
          | zero =>
            simp only[List.getElem?_cons_zero,Option.some.injEq]at hi he
            subst hi;subst he
            have hs:Instr.sameNow .string (str q) x.key=some true:=by
              rw[h.1]
              show some ((⟨q.toArray⟩:ByteArray)==⟨q.toArray⟩)=some true
              rw[kS_,decide_eq_true rfl]
            simp only[Instr.findNow,hs,Nat.add_zero]
          | succ i =>
            simp only[List.getElem?_cons_succ]at hi he
            have hne:k≠q:=fun e=>hn.1 (e▸List.mem_of_getElem? hi)
            have hs:Instr.sameNow .string (str k) x.key=some false:=by
              rw[h.1]
              show some ((⟨k.toArray⟩:ByteArray)==⟨q.toArray⟩)=some false
              rw[kS_,decide_eq_false hne]
            simp only[Instr.findNow,hs]
            rw[ih es (j+1) i h.2 hn.2 hi he,show j+1+i=j+(i+1) by omega]
    have:=this ks es 0 i h hn hi he
    rwa [Nat.zero_add]at this)
  same:=fun k=>by
    have key:∀ m,Instr.sameBits m (str k) (str k)=true:=fun m=>by
      cases m<;>(show ((⟨k.toArray⟩:ByteArray)==⟨k.toArray⟩)=true;rw[kS_,decide_eq_true rfl])
    exact key 10000
theorem er_ {K:Type} [DecidableEq K] {kt:TypeId} {fs:Array Field} {kv:K→Value} (hu:P.underlying kt=some (.struct fs)) (hok:∀ k,hv_ P kt (kv k)) (heq:∀ p q w,(Op.equal kt (kv p) (kv q)).run P w=.ok (decide (p=q)) w) (hsame:∀ k,Instr.sameBits 10000 (kv k) (kv k)=true):KeyT P kt kv where
  ok:=hok
  nf:=fun k es ks h hk=>(mv_ hu heq k ks es h).1 hk
  sf:=fun k es ks i e h hn hi he=>by
    have key:∀ (ks:List K) (es:List MapEntry) (j i:Nat),es.map (·.key)=ks.map kv→ks.Nodup→ks[i]? = some k→es[i]? = some e→∀ w,(Instr.findAsking kt (kv k) es j).run P w=.ok (some (j+i,e.val)) w:=by
      intro ks
      induction ks with
      | nil=>intro es j i _ _ h;simp at h
      | cons q ks ih =>
        intro es j i h hn hi he w
        cases es with
        | nil=>simp at h
        | cons x es =>
          simp only[List.map_cons,List.cons.injEq]at h
          rw[List.nodup_cons]at hn
          cases i with
          | zero =>
            simp only[List.getElem?_cons_zero,Option.some.injEq]at hi he
            subst hi;subst he
            simp only[Instr.findAsking,Sem.run_bind,h.1,heq,Result.andThen_ok,decide_true,if_true,Sem.run_pure,Nat.add_zero]
          | succ i =>
            simp only[List.getElem?_cons_succ]at hi he
            have hne:k≠q:=fun e=>hn.1 (e▸List.mem_of_getElem? hi)
            simp only[Instr.findAsking,Sem.run_bind,h.1,heq,Result.andThen_ok,hne,decide_false,Bool.false_eq_true,if_false]
            rw[ih es (j+1) i h.2 hn.2 hi he w,show j+1+i=j+(i+1) by omega]
    intro w
    have hnow:∀ (x:MapEntry) (r:List MapEntry),Instr.findNow (.struct fs) (kv k) (x::r) 0=none:=fun x r=>by simp[Instr.findNow,Instr.sameNow]
    cases es with
    | nil=>simp at he
    | cons x r =>
      simp only[Instr.findKey,Sem.run_bind,run_underlying hu,Result.andThen_ok,hnow]
      have:=key ks (x::r) 0 i h hn hi he w
      rwa [Nat.zero_add]at this
  same:=hsame
end
theorem ex_ (n:Nat) {k:IntKind} (i:Int):Instr.sameBits n (.int k i) (.int k i)=true:=by
  cases n<;>simp[Instr.sameBits]
theorem cw_ (n:Nat) (s:List UInt8):Instr.sameBits n (str s) (str s)=true:=by
  cases n<;>(show ((⟨s.toArray⟩:ByteArray)==⟨s.toArray⟩)=true;rw[kS_,decide_eq_true rfl])
theorem ge_ {n:Nat} {l:List Value} (h:∀ v∈l,Instr.sameBits n v v=true):Instr.sameBits (n+1) (.agg l.toArray) (.agg l.toArray)=true:=by
 simp only[Instr.sameBits,BEq.rfl,Bool.true_and,List.all_eq_true]
 intro p hp
 have:∀ (l:List Value),(∀ v∈l,Instr.sameBits n v v=true)→∀ p∈l.zip l,Instr.sameBits n p.1 p.2=true:=by
   intro l
   induction l with
   | nil=>intro _ p hp;simp at hp
   | cons a l ih =>
     intro h p hp
     simp only[List.zip_cons_cons,List.mem_cons]at hp
     rcases hp with rfl|hp
     · exact h a (by simp)
     · exact ih (fun v hv=>h v (by simp[hv])) p hp
 exact this l h p hp
structure Born (es:Array MapEntry) (c:Nat):Prop where
  lt:∀ x∈es.toList,x.born<c
  nd:(es.toList.map (·.born)).Nodup
theorem Born.nil (c:Nat):Born #[] c:=⟨by simp,by simp⟩
theorem Born.push {es:Array MapEntry} {c:Nat} (h:Born es c) (key val:Value):Born (es.push ⟨key,val,c⟩) (c+1):=by
 refine⟨fun x hx=>?_,?_⟩
 ·rw[Array.toList_push,List.mem_append]at hx
  rcases hx with hx|hx
  ·exact Nat.lt_succ_of_lt (h.lt x hx)
  rw[List.mem_singleton]at hx;rw[hx];exact Nat.lt_succ_self _
 rw[Array.toList_push,List.map_append,List.nodup_append]
 refine⟨h.nd,by simp,fun a ha b hb e=>?_⟩
 obtain⟨x,hx,rfl⟩:=List.mem_map.1 ha
 simp at hb
 have:=h.lt x hx
 omega
theorem Born.modify {es:Array MapEntry} {c:Nat} (h:Born es c) (i:Nat) (f:MapEntry→MapEntry) (hf:∀ e,(f e).born=e.born):Born (es.modify i f) c:=by
 have hb:(es.modify i f).toList.map (·.born)=es.toList.map (·.born):=by
   apply List.ext_getElem?
   intro j
   simp only[List.getElem?_map,Array.getElem?_toList,Array.getElem?_modify]
   split
   · cases es[j]? <;> simp[hf]
   · rfl
 refine⟨fun x hx=>?_,by rw[hb];exact h.nd⟩
 have:x.born∈(es.modify i f).toList.map (·.born):=List.mem_map_of_mem hx
 rw[hb]at this
 obtain⟨y,hy,e⟩:=List.mem_map.1 this
 rw[← e];exact h.lt y hy
theorem Born.find {es:Array MapEntry} {c i:Nat} {x:MapEntry} (h:Born es c) (hx:es[i]? = some x):es.findIdx? (fun e=>(e.born:Int)==(x.born:Int))=some i:=by
  rw[Array.findIdx?_eq_some_iff_getElem]
  obtain⟨hi,rfl⟩:=Array.getElem?_eq_some_iff.1 hx
  refine⟨hi,by simp,fun j hj=>?_⟩
  simp only[beq_eq_false_iff_ne,ne_eq,Bool.not_eq_true]
  intro e
  have hji:j<es.size:=Nat.lt_trans hj hi
  have:=h.nd
  rw[List.nodup_iff_pairwise_ne,List.pairwise_iff_getElem]at this
  have:=this j i (by simpa using hji) (by simpa using hi) hj
  simp at this
  exact this (by exact_mod_cast e)
section
variable {K D:Type} [DecidableEq K] (kv:K→Value) (cells:D→List Value) (e:TypeId) (sz:Nat) (l:List (K×D))
def gy_:List K→List MapEntry→Hp→Prop
  | [],[],H=>H=[]
  | k::ks,x::es,H=>∃ Hk Hr,H=Hk++Hr∧x.key=kv k∧aE_ e sz x.val (lat l k).length ((lat l k).flatMap cells) Hk∧gy_ ks es Hr
  | _,_,_=>False
def aS_ (mb:Nat) (H:Hp):Prop:=∃ ks es c Hr,H=(mb,.map es c)::Hr∧ks.Nodup∧(∀ x∈l,x.1∈ks)∧gy_ kv cells e sz l ks es.toList Hr∧Born es c
end
section
variable {K D:Type} [DecidableEq K] {kv:K→Value} {cells:D→List Value} {e:TypeId} {sz:Nat} {l:List (K×D)}
theorem gy_.keys:∀ {ks:List K} {es:List MapEntry} {H:Hp},gy_ kv cells e sz l ks es H→es.map (·.key)=ks.map kv
  | [],[],_,_=>rfl
  | k::ks,x::es,_,h=>by
    obtain⟨Hk,Hr,_,h1,_,h2⟩:=h
    simp[h1,h2.keys]
  | [],_::_,_,h=>h.elim
  | _::_,[],_,h=>h.elim
theorem gy_.congr {l':List (K×D)}:∀ {ks:List K} {es:List MapEntry} {H:Hp},(∀ k∈ks,lat l' k=lat l k)→gy_ kv cells e sz l ks es H→gy_ kv cells e sz l' ks es H
  | [],[],_,_,h=>h
  | k::ks,x::es,_,hl,h=>by
    obtain⟨Hk,Hr,h0,h1,h2,h3⟩:=h
    exact⟨Hk,Hr,h0,h1,by rw[hl k (by simp)];exact h2,h3.congr fun q hq=>hl q (by simp[hq])⟩
  | [],_::_,_,_,h=>h.elim
  | _::_,[],_,_,h=>h.elim
theorem gy_.get : ∀ {ks : List K} {es : List MapEntry} {H : Hp} {i : Nat} {k : K}, gy_ kv cells e sz l ks es H → ks.Nodup → ks[i]? = some k → ∃ x Hk Hr, es[i]? = some x ∧ H.Perm (Hk ++ Hr) ∧ x.key = kv k ∧ aE_ e sz x.val (lat l k).length ((lat l k).flatMap cells) Hk ∧
      ∀ (l':List (K×D)) (y:MapEntry) (Hk':Hp),y.key=kv k→(∀ q,q≠k→lat l' q=lat l q)→aE_ e sz y.val (lat l' k).length ((lat l' k).flatMap cells) Hk'→∃ H',gy_ kv cells e sz l' ks (es.set i y) H'∧H'.Perm (Hk'++Hr)
  | [],_,_,_,_,_,_,h=>by simp at h
  | _::_,[],_,_,_,h,_,_=>h.elim
  | q::ks,x::es,H,0,k,h,hn,hi=>by
    simp only[List.getElem?_cons_zero,Option.some.injEq]at hi
    subst hi
    rw[List.nodup_cons]at hn
    obtain⟨Hk,Hr,h0,h1,h2,h3⟩:=h
    exact⟨x,Hk,Hr,rfl,h0▸.refl _,h1,h2,fun l' y Hk' g1 g2 g3=>⟨Hk'++Hr,⟨Hk',Hr,rfl,g1,g3,h3.congr fun z hz=>g2 z (fun e=>hn.1 (e▸hz))⟩,.refl _⟩⟩
  | q::ks,x::es,H,i+1,k,h,hn,hi=>by
    simp only[List.getElem?_cons_succ]at hi
    rw[List.nodup_cons]at hn
    obtain⟨Hq,Ho,h0,h1,h2,h3⟩:=h
    obtain⟨y,Hk,Hr,i1,i2,i3,i4,i5⟩:=h3.get hn.2 hi
    have hne:q≠k:=fun e=>hn.1 (e▸List.mem_of_getElem? hi)
    refine⟨y,Hk,Hq++Hr,i1,?_,i3,i4,fun l' z Hk' g1 g2 g3=>?_⟩
    · rw[h0]
      refine (List.Perm.append_left Hq i2).trans ?_
      rw[← List.append_assoc,← List.append_assoc]
      exact List.perm_append_comm.append_right _
    · obtain⟨H',j1,j2⟩:=i5 l' z Hk' g1 g2 g3
      refine⟨Hq++H',⟨Hq,H',rfl,h1,by rw[g2 q hne];exact h2,j1⟩,(List.Perm.append_left Hq j2).trans ?_⟩
      rw[← List.append_assoc,← List.append_assoc]
      exact List.perm_append_comm.append_right _
theorem gy_.push:∀ {ks:List K} {es:List MapEntry} {H:Hp} {k:K} {x:MapEntry} {Hk:Hp},gy_ kv cells e sz l ks es H→x.key=kv k→aE_ e sz x.val (lat l k).length ((lat l k).flatMap cells) Hk→gy_ kv cells e sz l (ks++[k]) (es++[x]) (H++Hk)
  | [],[],_,k,x,Hk,h,h1,h2=>by subst h;exact⟨Hk,[],by simp,h1,h2,rfl⟩
  | q::ks,y::es,_,k,x,Hk,h,h1,h2=>by
    obtain⟨Hq,Hr,rfl,g1,g2,g3⟩:=h
    exact⟨Hq,Hr++Hk,by simp,g1,g2,g3.push h1 h2⟩
  | [],_::_,_,_,_,_,h,_,_=>h.elim
  | _::_,[],_,_,_,_,h,_,_=>h.elim
theorem hE_ {k q:K} {d:D} (h:q≠k):lat (l++[(k,d)]) q=lat l q:=by
  rw[kv_];simp[lat,Ne.symm h]
theorem bg_ {k:K} {d:D}:lat (l++[(k,d)]) k=lat l k++[d]:=by
  rw[kv_];simp[lat]
theorem aS_.open {P:Program} {kt:TypeId} (hK:KeyT P kt kv) {mb:Nat} {H:Hp} (h:aS_ kv cells e sz l mb H) (k:K) :
    ∃ es c sv Hk Hr,H.Perm ((mb,.map es c)::(Hk++Hr))∧aE_ e sz sv (lat l k).length ((lat l k).flatMap cells) Hk ∧
      ((dL_ P kt (kv k) es.toList none∧sv=.slice none 0 0∧∀ d sv' Hk',aE_ e sz sv' (lat (l++[(k,d)]) k).length ((lat (l++[(k,d)]) k).flatMap cells) Hk'→∃ H',aS_ kv cells e sz (l++[(k,d)]) mb H'∧H'.Perm ((mb,.map (es.push ⟨kv k,sv',c⟩) (c+1))::(Hk'++Hr))) ∨
       (∃ i x,dL_ P kt (kv k) es.toList (some (i,sv))∧es[i]? = some x∧x.key=kv k∧x.val=sv∧∀ d sv' Hk',aE_ e sz sv' (lat (l++[(k,d)]) k).length ((lat (l++[(k,d)]) k).flatMap cells) Hk'→∃ H',aS_ kv cells e sz (l++[(k,d)]) mb H'∧H'.Perm ((mb,.map (es.modify i fun y=>{ y with key:=kv k,val:=sv' }) c)::(Hk'++Hr)))):=by
  obtain⟨ks,es,c,Ho,rfl,hn,hl,hm,hbn⟩:=h
  by_cases hk:k∈ks
  · obtain⟨i,hi⟩:=List.getElem?_of_mem hk
    obtain⟨x,Hk,Hr,g1,g2,g3,g4,g5⟩:=hm.get hn hi
    have hx:es[i]? = some x:=by rw[← Array.getElem?_toList];exact g1
    refine⟨es,c,x.val,Hk,Hr,.cons _ g2,g4,.inr ⟨i,x,hK.sf k es.toList ks i x hm.keys hn hi g1,hx,g3,rfl,fun d sv' Hk' hs=>?_⟩⟩
    obtain⟨H',j1,j2⟩:=g5 (l++[(k,d)]) { x with key:=kv k,val:=sv' } Hk' rfl (fun q hq=>hE_ hq) hs
    refine⟨(mb,.map (es.modify i fun y=>{ y with key:=kv k,val:=sv' }) c)::H',⟨ks,_,c,H',rfl,hn,fun y hy=>?_,?_,hbn.modify i _ fun _=>rfl⟩,.cons _ j2⟩
    · rcases List.mem_append.1 hy with hy|hy
      · exact hl y hy
      · simp at hy;rw[hy];exact hk
    · have e1:(es.modify i fun y=>{ y with key:=kv k,val:=sv' }).toList=es.toList.set i { x with key:=kv k,val:=sv' }:=by
        apply List.ext_getElem?
        intro j
        rw[Array.getElem?_toList,Array.getElem?_modify,List.getElem?_set,Array.getElem?_toList]
        by_cases hij:i=j
        · subst hij
          have hlt:i<es.toList.length:=(List.getElem?_eq_some_iff.1 g1).1
          simp only[if_true,hx,Option.map_some,if_pos hlt]
        · simp[hij]
      rw[e1];exact j1
  · have hlat:lat l k=[]:=by
      apply List.eq_nil_iff_forall_not_mem.2
      intro d hd
      exact hk (hl _ (bb_.1 hd))
    refine⟨es,c,.slice none 0 0,[],Ho,.refl _,by rw[hlat];exact aE_.nil _ _,.inl ⟨hK.nf k es.toList ks hm.keys hk,rfl,fun d sv' Hk' hs=>?_⟩⟩
    refine⟨(mb,.map (es.push ⟨kv k,sv',c⟩) (c+1))::(Ho++Hk'),⟨ks++[k],_,_,_,rfl,?_,fun y hy=>?_,?_,hbn.push _ _⟩,.cons _ List.perm_append_comm⟩
    · rw[List.nodup_append];exact⟨hn,by simp,fun a ha b hb e=>by simp at hb;subst hb;subst e;exact hk ha⟩
    · rcases List.mem_append.1 hy with hy|hy
      · exact List.mem_append_left _ (hl y hy)
      · simp at hy;simp[hy]
    · rw[Array.toList_push]
      exact (hm.congr fun q hq=>hE_ (fun (e:q=k)=>hk (e▸hq))).push rfl hs
structure MOpn (kv:K→Value) (cells:D→List Value) (e:TypeId) (sz:Nat) (l:List (K×D)) (mb:Nat) (k:K) (es:Array MapEntry) (c i:Nat) (st:Int) (Hr:Hp):Prop where
  find:es.findIdx? (fun x=>(x.born:Int)==st)=some i
  close:∀ d sv' Hk',aE_ e sz sv' (lat (l++[(k,d)]) k).length ((lat (l++[(k,d)]) k).flatMap cells) Hk'→∃ H',aS_ kv cells e sz (l++[(k,d)]) mb H'∧H'.Perm ((mb,.map (es.modify i fun y=>{ y with val:=sv' }) c)::(Hk'++Hr))
theorem op_ {es:Array MapEntry} {i:Nat} {x:MapEntry} {key:Value} (hx:es[i]? = some x) (hk:x.key=key):(es.modify i fun y=>{ y with key:=key })=es:=by
 apply Array.ext_getElem?
 intro j
 rw[Array.getElem?_modify]
 by_cases hij:i=j
 ·subst hij;rw[if_pos rfl,hx];simp only[Option.map_some];rw[← hk]
 rw[if_neg hij]
theorem aS_.entry {P:Program} {kt:TypeId} (hK:KeyT P kt kv) {mb:Nat} {H:Hp} (h:aS_ kv cells e sz l mb H) (k:K) :
    ∃ es c es' c' i st sv Hk Hr,H.Perm ((mb,.map es c)::(Hk++Hr))∧aE_ e sz sv (lat l k).length ((lat l k).flatMap cells) Hk∧MOpn kv cells e sz l mb k es' c' i st Hr ∧
      ((dL_ P kt (kv k) es.toList none∧sv=.slice none 0 0∧es'=es.push ⟨kv k,.slice none 0 0,c⟩∧c'=c+1∧st=(c:Int))∨(∃ j x,dL_ P kt (kv k) es.toList (some (j,sv))∧es[j]? = some x∧x.key=kv k∧es'=es∧c'=c∧st=(x.born:Int))):=by
  have h0:=h
  obtain⟨ks,es,c,Ho,rfl,hn,hl,hm,hbn⟩:=h0
  by_cases hk:k∈ks
  · obtain⟨i,hi⟩:=List.getElem?_of_mem hk
    obtain⟨x,Hk,Hr,g1,g2,g3,g4,g5⟩:=hm.get hn hi
    have hx:es[i]? = some x:=by rw[← Array.getElem?_toList];exact g1
    refine⟨es,c,es,c,i,x.born,x.val,Hk,Hr,.cons _ g2,g4,⟨hbn.find hx,fun d sv' Hk' hs=>?_⟩,.inr ⟨i,x,hK.sf k es.toList ks i x hm.keys hn hi g1,hx,g3,rfl,rfl,rfl⟩⟩
    obtain⟨H',j1,j2⟩:=g5 (l++[(k,d)]) { x with key:=kv k,val:=sv' } Hk' rfl (fun q hq=>hE_ hq) hs
    refine⟨(mb,.map (es.modify i fun y=>{ y with val:=sv' }) c)::H',⟨ks,_,c,H',rfl,hn,fun y hy=>?_,?_,hbn.modify i _ fun _=>rfl⟩,.cons _ j2⟩
    · rcases List.mem_append.1 hy with hy|hy
      · exact hl y hy
      · simp at hy;rw[hy];exact hk
    · have e1:(es.modify i fun y=>{ y with val:=sv' }).toList=es.toList.set i { x with key:=kv k,val:=sv' }:=by
        apply List.ext_getElem?
        intro j
        rw[Array.getElem?_toList,Array.getElem?_modify,List.getElem?_set,Array.getElem?_toList]
        by_cases hij:i=j
        · subst hij
          have hlt:i<es.toList.length:=(List.getElem?_eq_some_iff.1 g1).1
          simp only[if_true,hx,Option.map_some,if_pos hlt]
          rw[← g3]
        · simp[hij]
      rw[e1];exact j1
  · have hlat:lat l k=[]:=by
      apply List.eq_nil_iff_forall_not_mem.2
      intro d hd
      exact hk (hl _ (bb_.1 hd))
    have hb2:=hbn.push (kv k) (.slice none 0 0)
    have hget:(es.push ⟨kv k,.slice none 0 0,c⟩)[es.size]? = some ⟨kv k,.slice none 0 0,c⟩:=by simp
    refine⟨es,c,es.push ⟨kv k,.slice none 0 0,c⟩,c+1,es.size,(c:Int),.slice none 0 0,[],Ho,.refl _,by rw[hlat];exact aE_.nil _ _,⟨hb2.find hget,fun d sv' Hk' hs=>?_⟩,.inl ⟨hK.nf k es.toList ks hm.keys hk,rfl,rfl,rfl,rfl⟩⟩
    have e2:((es.push ⟨kv k,.slice none 0 0,c⟩).modify es.size fun y=>{ y with val:=sv' })=es.push ⟨kv k,sv',c⟩:=by
      apply Array.ext_getElem?
      intro j
      rw[Array.getElem?_modify,Array.getElem?_push,Array.getElem?_push]
      by_cases hj:j=es.size
      · subst hj;simp
      · rw[if_neg (fun q=>hj q.symm),if_neg hj,if_neg hj]
    rw[e2]
    refine⟨(mb,.map (es.push ⟨kv k,sv',c⟩) (c+1))::(Ho++Hk'),⟨ks++[k],_,_,_,rfl,?_,fun y hy=>?_,?_,hbn.push _ _⟩,.cons _ List.perm_append_comm⟩
    · rw[List.nodup_append];exact⟨hn,by simp,fun a ha b hb e=>by simp at hb;subst hb;subst e;exact hk ha⟩
    · rcases List.mem_append.1 hy with hy|hy
      · exact List.mem_append_left _ (hl y hy)
      · simp at hy;simp[hy]
    · rw[Array.toList_push]
      exact (hm.congr fun q hq=>hE_ (fun (e:q=k)=>hk (e▸hq))).push rfl hs
theorem aS_.nil (mb:Nat) (c:Nat):aS_ kv cells e sz ([]:List (K×D)) mb [(mb,.map #[] c)]:=⟨[],#[],c,[],rfl,List.nodup_nil,by simp,rfl,Born.nil c⟩
def mlF (P:Program) (kt:TypeId) (kv:K→Value) (cells:D→List Value) (mb:Nat) (l:List (K×D)) (adr:K→Option Addr×Nat):Fct where
  p:=fun v=>v.im mb∧∃ es c,v.w.heap[mb]? = some (.map es c)∧∀ k,bv_ v (adr k).1 ((lat l k).flatMap cells) ∧
    ((dL_ P kt (kv k) es.toList none∧Value.slice (adr k).1 (lat l k).length (adr k).2=.slice none 0 0)∨∃ i,dL_ P kt (kv k) es.toList (some (i,.slice (adr k).1 (lat l k).length (adr k).2)))
  mono:=fun v v' h ⟨h1,es,c,h2,h3⟩=>⟨h.imUp mb h1,es,c,by rw[h.block mb h1];exact h2,fun k=>⟨(af_ _ _).mono v v' h (h3 k).1,(h3 k).2⟩⟩
theorem aw_ {P:Program} {kt:TypeId} {mb:Nat} {adr:K→Option Addr×Nat} {v:Vw} (h:(mlF P kt kv cells mb l adr).p v) (k:K):bv_ v (adr k).1 ((lat l k).flatMap cells):=by
  obtain⟨_,_,_,_,h⟩:=h
  exact (h k).1
theorem lo_ {sv:Value} {n:Nat} {xs:List Value} {Hr:Hp} {v:Vw} (h:aE_ e sz sv n xs Hr) (hv:∀ p∈Hr,v.im p.1∧v.w.heap[p.1]? = some p.2):∃ ad cap,sv=.slice ad n cap∧n≤cap∧cap≤maxLen∧(n≠0→∃ b,ad=some ⟨b,0,none⟩)∧bv_ v ad xs:=by
 rcases h.2 with⟨rfl,rfl,rfl⟩|⟨g,cap,cur,rfl,rfl,h3,h4,h5,h6⟩
 ·have:xs=[]:=List.eq_nil_of_length_eq_zero (by simpa using h.1)
  exact⟨none,0,rfl,Nat.le_refl _,by simp[maxLen],fun h=>absurd rfl h,.inl this⟩
 obtain⟨g1,g2⟩:=hv _ (List.mem_singleton.2 rfl)
 refine⟨some ⟨g,0,none⟩,cap,rfl,h3,h4,fun _=>⟨g,rfl⟩,.inr ⟨g,0,cur,e,(0,0),rfl,g1,g2,fun j x hj=>?_⟩⟩
 rw[← h6,List.getElem?_take]at hj
 split at hj
 ·rw[Nat.zero_add,← Array.getElem?_toList];exact hj
 cases hj
theorem aS_.lent {P:Program} {kt:TypeId} (hK:KeyT P kt kv) {mb:Nat} {H:Hp} (h:aS_ kv cells e sz l mb H):∃ adr,∀ v:Vw,(∀ p∈H,v.im p.1∧v.w.heap[p.1]? = some p.2)→(mlF P kt kv cells mb l adr).p v:=by
 have h0:=h
 obtain⟨ks,es,c,Ho,rfl,hn,hl,hm,_⟩:=h0
 have key:∀ k,∃ q:Option Addr×Nat,∀ v:Vw,(∀ p∈(mb,Obj.map es c)::Ho,v.im p.1∧v.w.heap[p.1]? = some p.2)→bv_ v q.1 ((lat l k).flatMap cells)∧((dL_ P kt (kv k) es.toList none∧Value.slice q.1 (lat l k).length q.2=.slice none 0 0)∨∃ i,dL_ P kt (kv k) es.toList (some (i,.slice q.1 (lat l k).length q.2))):=fun k=>by
   by_cases hk:k∈ks
   · obtain⟨i,hi⟩:=List.getElem?_of_mem hk
     obtain⟨x,Hk,Hr,g1,g2,g3,g4,_⟩:=hm.get hn hi
     have hf:=hK.sf k es.toList ks i x hm.keys hn hi g1
     have hsl:∃ ad cap,x.val=.slice ad (lat l k).length cap:=by
       rcases g4.2 with⟨q1,q2,_⟩|⟨g,cap,cur,q1,_⟩
       · exact⟨none,0,by rw[q1,q2]⟩
       · exact⟨_,cap,q1⟩
     obtain⟨ad,cap,hx⟩:=hsl
     refine⟨(ad,cap),fun v hv=>⟨?_,.inr ⟨i,by rw[← hx];exact hf⟩⟩⟩
     obtain⟨ad',cap',e1,_,_,_,hr⟩:=lo_ g4 fun p hp=>hv p (List.mem_cons_of_mem _ (g2.mem_iff.2 (List.mem_append_left _ hp)))
     rw[hx]at e1
     simp only[Value.slice.injEq]at e1
     rw[e1.1];exact hr
   · have hlat:lat l k=[]:=by
       apply List.eq_nil_iff_forall_not_mem.2
       intro d hd
       exact hk (hl _ (bb_.1 hd))
     exact⟨(none,0),fun v hv=>⟨.inl (by rw[hlat];rfl),.inl ⟨hK.nf k es.toList ks hm.keys hk,by rw[hlat];rfl⟩⟩⟩
 refine⟨fun k=>(key k).choose,fun v hv=>?_⟩
 obtain⟨g1,g2⟩:=hv _ List.mem_cons_self
 exact⟨g1,es,c,g2,fun k=>(key k).choose_spec v hv⟩
end
section
variable {P:Program} {K:Type} [DecidableEq K] {kv:K→Value} {kt:TypeId}
structure SetE (kv:K→Value) (es:Array MapEntry) (q:List K):Prop where
  keys:es.toList.map (·.key)=q.map kv
  vals:∀ x∈es.toList,x.val=.bool true
  nd:q.Nodup
theorem SetE.nil:SetE kv #[] ([]:List K):=⟨rfl,by simp,List.nodup_nil⟩
theorem SetE.size {es:Array MapEntry} {q:List K} (h:SetE kv es q):es.size=q.length:=by
  have:=congrArg List.length h.keys
  simpa using this
theorem SetE.yes (hK:KeyT P kt kv) {es:Array MapEntry} {q:List K} (h:SetE kv es q) {k:K} (hk:k∈q):∃ i x,q[i]? = some k∧es[i]? = some x∧x.key=kv k∧x.val=.bool true∧dL_ P kt (kv k) es.toList (some (i,.bool true)):=by
  obtain⟨i,hi⟩:=List.getElem?_of_mem hk
  have hlt:i<es.toList.length:=by
    have:=(List.getElem?_eq_some_iff.1 hi).1
    have e:=congrArg List.length h.keys
    simp at e this ⊢;omega
  have hx:=List.getElem?_eq_getElem hlt
  have hv:=h.vals _ (List.getElem_mem hlt)
  have hkey:es.toList[i].key=kv k:=by
    have:=congrArg (fun l=>l[i]?) h.keys
    simp only[List.getElem?_map,hx,hi,Option.map_some,Option.some.injEq]at this
    exact this
  refine⟨i,es.toList[i],hi,by rw[← Array.getElem?_toList];exact hx,hkey,hv,?_⟩
  have:=hK.sf k es.toList q i _ h.keys h.nd hi hx
  rwa [hv]at this
theorem SetE.no (hK:KeyT P kt kv) {es:Array MapEntry} {q:List K} (h:SetE kv es q) {k:K} (hk:k ∉ q):dL_ P kt (kv k) es.toList none:=hK.nf k es.toList q h.keys hk
theorem SetE.push {es:Array MapEntry} {q:List K} (h:SetE kv es q) {k:K} (hk:k ∉ q) (c:Nat):SetE kv (es.push ⟨kv k,.bool true,c⟩) (q++[k]):=by
 refine⟨by simp[h.keys],fun x hx=>?_,?_⟩
 ·rw[Array.toList_push,List.mem_append]at hx
  rcases hx with hx|hx
  ·exact h.vals x hx
  simp at hx;rw[hx]
 rw[List.nodup_append];exact⟨h.nd,by simp,fun a ha b hb e=>by simp at hb;subst hb;subst e;exact hk ha⟩
end
section ops
variable {P:Program} {N:Nf} {v0:Vw} {H0:Hp} {R:Exit→Act→World→Prop} {Kk:List Kt} {fr:Fr} {H:Hp} {Γ:List Fct}
variable {ops:Array Oper} {lo:List Oper} {d:Nat} {ty:TypeId} {ps:String} {af:Array Edge}
variable {K D:Type} [DecidableEq K] {kv:K→Value} {cells:D→List Value}
theorem aR_ {t kt et:TypeId} {x y:Operand} {mb:Nat} {l:List (K×D)} {adr:K→Option Addr×Nat} {k:K} (hK:KeyT P kt kv) (hu:∀ w,(underlying t).run P w=.ok (.map kt et) w) (hz:∀ w,(zeroValue et).run P w=.ok (.slice none 0 0) w) (hx:Fr.ev fr x=some (.map (some mb))) (hy:Fr.ev fr y=some (kv k))
    (hm:∀ v,v.sat H→am_ Γ v→(mlF P kt kv cells mb l adr).p v):Yld P N fr H Γ (.lookup t x y false) ty (.slice (adr k).1 (lat l k).length (adr k).2) :=
  fun a v h1 h2 h4 _ _ _=>by
    obtain⟨_,es,c,g1,g2⟩:=hm v h2 h4
    have hb:=MapKept.run_getObj_map (P:=P) g1
    rcases (g2 k).2 with⟨q5,q6⟩|⟨i,q5⟩
    · rw[q6];simp[execOp,h1.ev hx,h1.ev hy,Instr.lookup,hu,hb,hK.ok _ _ _,q5 _,hz]
    · simp[execOp,h1.ev hx,h1.ev hy,Instr.lookup,hu,hb,hK.ok _ _ _,q5 _]
theorem fG_ {t kt et:TypeId} {x y:Operand} {mb c:Nat} {es:Array MapEntry} {q:List K} {k:K} (hK:KeyT P kt kv) (hu:∀ w,(underlying t).run P w=.ok (.map kt et) w) (hz:∀ w,(zeroValue et).run P w=.ok (.bool false) w) (hx:Fr.ev fr x=some (.map (some mb))) (hy:Fr.ev fr y=some (kv k))
    (hq:SetE kv es q) (hm:∀ v,v.sat H→am_ Γ v→v.w.heap[mb]? = some (.map es c)):Yld P N fr H Γ (.lookup t x y false) ty (.bool (decide (k∈q))):=by
  by_cases hk:k∈q
  · obtain⟨i,_,_,_,_,_,hf⟩:=hq.yes hK hk
    rw[decide_eq_true hk]
    exact jQ_ hu hx hy hm (hK.ok k) hf
  · rw[decide_eq_false hk]
    exact im_ hu hz hx hy hm (hK.ok k) (hq.no hK hk)
theorem qC_ {t kt et:TypeId} {x:Operand} {mb c:Nat} {es:Array MapEntry} (hu:∀ w,(underlying t).run P w=.ok (.map kt et) w) (hx:Fr.ev fr x=some (.map (some mb))) (hm:∀ v,v.sat H→am_ Γ v→v.w.heap[mb]? = some (.map es c)) :
    Yld P N fr H Γ (.call ⟨.builtin .len,#[x],#[t]⟩) ty (.int .i64 (es.size:Int)) :=
  fun a v h1 h2 h4 _ _ _=>by
    have hb:=MapKept.run_getObj_map (P:=P) (hm v h2 h4)
    simp[execOp,resolve,invoke,builtin,Builtin.len_,h1.ev hx,hu,hb,goInt]
theorem kj_ {o:Op} {t kt et:TypeId} {x y z:Operand} {b c i:Nat} (n:Nat) {es:Array MapEntry} {e:MapEntry} {k:K} {u u':Value} (hK:KeyT P kt kv) (ho:o=.insert t x y z∨o=.mapUpdate t x y z) (hu:∀ w,(underlying t).run P w=.ok (.map kt et) w)
    (hx:Fr.ev fr x=some (.map (some b))) (hy:Fr.ev fr y=some (kv k)) (hz:Fr.ev fr z=some u) (hi:H[n]? = some (b,.map es c)) (hf:dL_ P kt (kv k) es.toList (some (i,u'))) (he:es[i]? = some e) (hek:e.key=kv k)
    (hkk:Ops P R N v0 H0 ops lo Kk fr (H.set n (b,.map (es.modify i fun y=>{ y with key:=kv k,val:=u }) c)) Γ):Ops P R N v0 H0 ops (⟨none,o,ty,ps,af,none⟩::lo) Kk fr H Γ :=
  dy_ rfl fun a v h1 h2 h3 h4=>by
    have hb:=(h2.own _ (List.mem_of_getElem? hi)).1
    have hg:=MapKept.run_getObj_map (P:=P) hb
    have hs:=MapKept.run_setObj_map (P:=P) (.map (es.modify i fun y=>{ y with key:=kv k,val:=u }) c) hb
    have he:(execOp a.eval ⟨none,o,ty,ps,af,none⟩).run P v.w=.ok .skip { v.w with heap:=v.w.heap.setIfInBounds b (.map (es.modify i fun y=>{ y with key:=kv k,val:=u }) c) }:=by
      rcases ho with rfl|rfl<;>simp[execOp,h1.ev hx,h1.ev hy,h1.ev hz,Instr.mapUpdate,hu,hg,hK.ok _ _ _,hf _,hs,Instr.keyThatStays,he,hek,hK.same]
    unfold Oper.wp
    rw[he]
    have hh:=MapKept.heap_set (o':=.map (es.modify i fun y=>{ y with key:=kv k,val:=u }) c) hb
    obtain⟨g1,g2⟩:=gG_ (w':={ v.w with heap:=v.w.heap.setIfInBounds b (.map (es.modify i fun y=>{ y with key:=kv k,val:=u }) c) }) h2 hi rfl rfl rfl (Nat.le_refl _) (by simp) hh.1 (fun k hk=>hh.2 k hk)
    exact hkk a _ h1 g1 (h3.trans g2) (bf_ (g2.le h2) h4)
theorem nn_ {es:Array MapEntry} {i:Nat} {e:MapEntry} {key val:Value} (he:es[i]? = some e) (hk:e.key=key) (hv:e.val=val):(es.modify i fun y=>{ y with key:=key,val:=val })=es:=by
 apply Array.ext_getElem?
 intro j
 rw[Array.getElem?_modify]
 by_cases hij:i=j
 ·subst hij;rw[if_pos rfl,he];simp only[Option.map_some];rw[← hk,← hv]
 rw[if_neg hij]
theorem kl_ {o:Op} {t kt et:TypeId} {x y z:Operand} {b c:Nat} (n:Nat) {es:Array MapEntry} {q:List K} {k:K} (hK:KeyT P kt kv) (ho:o=.insert t x y z∨o=.mapUpdate t x y z) (hu:∀ w,(underlying t).run P w=.ok (.map kt et) w)
    (hx:Fr.ev fr x=some (.map (some b))) (hy:Fr.ev fr y=some (kv k)) (hz:Fr.ev fr z=some (.bool true)) (hi:H[n]? = some (b,.map es c)) (hq:SetE kv es q)
    (hkk:∀ es' c',SetE kv es' (if k∈q then q else q++[k])→Ops P R N v0 H0 ops lo Kk fr (H.set n (b,.map es' c')) Γ):Ops P R N v0 H0 ops (⟨none,o,ty,ps,af,none⟩::lo) Kk fr H Γ:=by
  by_cases hk:k∈q
  · obtain⟨i,e,g1,g2,g3,g4,g5⟩:=hq.yes hK hk
    refine kj_ n hK ho hu hx hy hz hi g5 g2 g3 ?_
    rw[nn_ g2 g3 g4]
    exact hkk es c (by rw[if_pos hk];exact hq)
  · exact hZ_ n ho hu hx hy hz hi (hK.ok k) (hq.no hK hk) (hkk _ _ (by rw[if_neg hk];exact hq.push hk c))
theorem bH_ {t kt et:TypeId} {x y:Operand} {mb:Nat} {e:TypeId} {sz:Nat} {l:List (K×D)} {k:K} {Hm F:Hp} (hK:KeyT P kt kv) (hm:aS_ kv cells e sz l mb Hm) (hu:∀ w,(underlying t).run P w=.ok (.map kt et) w) (hz:∀ w,(zeroValue et).run P w=.ok (.slice none 0 0) w)
    (hx:Fr.ev fr x=some (.map (some mb))) (hy:Fr.ev fr y=some (kv k)) (hH:H.Perm (Hm++F)) (hN:Nat.blt d N.n=true)
    (hk:∀ es c i st sv Hk Hr,MOpn kv cells e sz l mb k es c i st Hr→aE_ e sz sv (lat l k).length ((lat l k).flatMap cells) Hk→Ops P R N v0 H0 ops lo Kk ((d,.tuple #[sv,.int .i64 st])::fr) ((mb,.map es c)::(Hk++(Hr++F))) Γ) :
    Ops P R N v0 H0 ops (⟨some d,.mapEntry t x y,ty,ps,af,none⟩::lo) Kk fr H Γ:=by
  obtain⟨es,c,es',c',i,st,sv,Hk,Hr,p1,p2,p3,p4⟩:=hm.entry hK k
  refine dy_ rfl fun a v h1 h2 h3 h4=>?_
  have hp:H.Perm ((mb,.map es c)::(Hk++(Hr++F))):=hH.trans (by
    have:=p1.append_right F
    simpa [List.append_assoc] using this)
  have h2':=h2.perm hp
  have hb:=(h2'.own _ List.mem_cons_self).1
  have hg:=MapKept.run_getObj_map (P:=P) hb
  have he:(execOp a.eval ⟨some d,.mapEntry t x y,ty,ps,af,none⟩).run P v.w=.ok (.value (.tuple #[sv,.int .i64 st])) { v.w with heap:=v.w.heap.setIfInBounds mb (.map es' c') }:=by
    rcases p4 with⟨q1,rfl,rfl,rfl,rfl⟩|⟨j,z,q1,q2,q3,rfl,rfl,rfl⟩
    · have hs:=MapKept.run_setObj_map (P:=P) (.map (es.push ⟨kv k,.slice none 0 0,c⟩) (c+1)) hb
      simp[execOp,h1.ev hx,h1.ev hy,Instr.mapEntry,hu,hg,hK.ok _ _ _,q1 _,hz,hs,goInt]
    · have hs:=MapKept.run_setObj_map (P:=P) (.map es' c') hb
      simp[execOp,h1.ev hx,h1.ev hy,Instr.mapEntry,hu,hg,hK.ok _ _ _,q1 _,Instr.keyThatStays,q2,q3,hK.same,op_ q2 q3,hs,goInt]
  unfold Oper.wp
  rw[he]
  have hh:=MapKept.heap_set (o':=.map es' c') hb
  obtain⟨g1,g2⟩:=gG_ (i:=0) (o':=.map es' c') (w':={ v.w with heap:=v.w.heap.setIfInBounds mb (.map es' c') }) h2' rfl rfl rfl rfl (Nat.le_refl _) (by simp) hh.1 (fun k hk=>hh.2 k hk)
  simp only[List.set_cons_zero]at g1 g2
  exact hk es' c' i st sv Hk Hr p3 p2 _ _ (h1.put hN) g1 (h3.trans (g2.permL hp.symm)) (bf_ (g2.le h2') h4)
theorem aG_ {t:TypeId} {x y z:Operand} {mb c i:Nat} {e:TypeId} {sz:Nat} {l:List (K×D)} {k:K} {dd:D} {es:Array MapEntry} {st:Int} {sv:Value} {Hk Hr F:Hp} (ho:MOpn kv cells e sz l mb k es c i st Hr) (hr:aE_ e sz sv (lat (l++[(k,dd)]) k).length ((lat (l++[(k,dd)]) k).flatMap cells) Hk)
    (hx:Fr.ev fr x=some (.map (some mb))) (hy:Fr.ev fr y=some (.int .i64 st)) (hz:Fr.ev fr z=some sv) (hH:H.Perm ((mb,.map es c)::(Hk++(Hr++F))))
    (hk:∀ H',aS_ kv cells e sz (l++[(k,dd)]) mb H'→Ops P R N v0 H0 ops lo Kk fr (H'++F) Γ):Ops P R N v0 H0 ops (⟨none,.entryStore t x y z,ty,ps,af,none⟩::lo) Kk fr H Γ:=by
  obtain⟨H',q1,q2⟩:=ho.close dd sv Hk hr
  refine dy_ rfl fun a v h1 h2 h3 h4=>?_
  have h2':=h2.perm hH
  have hb:=(h2'.own _ List.mem_cons_self).1
  have hg:=MapKept.run_getObj_map (P:=P) hb
  have hs:=MapKept.run_setObj_map (P:=P) (.map (es.modify i fun y=>{ y with val:=sv }) c) hb
  have he:(execOp a.eval ⟨none,.entryStore t x y z,ty,ps,af,none⟩).run P v.w=.ok .skip { v.w with heap:=v.w.heap.setIfInBounds mb (.map (es.modify i fun y=>{ y with val:=sv }) c) }:=by
    have hf:=ho.find
    simp[execOp,h1.ev hx,h1.ev hy,h1.ev hz,Instr.entryStore,hg,hs,asInt,asIntOf,hf]
  unfold Oper.wp
  rw[he]
  have hh:=MapKept.heap_set (o':=.map (es.modify i fun y=>{ y with val:=sv }) c) hb
  obtain⟨g1,g2⟩:=gG_ (i:=0) (o':=.map (es.modify i fun y=>{ y with val:=sv }) c) (w':={ v.w with heap:=v.w.heap.setIfInBounds mb (.map (es.modify i fun y=>{ y with val:=sv }) c) }) h2' rfl rfl rfl rfl (Nat.le_refl _) (by simp) hh.1 (fun k hk=>hh.2 k hk)
  simp only[List.set_cons_zero]at g1 g2
  have pp:((mb,Obj.map (es.modify i fun y=>{ y with val:=sv }) c)::(Hk++(Hr++F))).Perm (H'++F):=by
    have:=(q2.append_right F).symm
    simpa [List.append_assoc] using this
  exact hk H' q1 _ _ h1 (g1.perm pp) (h3.trans ((g2.permL hH.symm).subR fun b hb=>((pp.map Prod.fst).mem_iff).2 hb)) (bf_ (g2.le h2') h4)
def MOp (P:Program) (kt:TypeId) (kv:K→Value) (cells:D→List Value) (e:TypeId) (sz:Nat) (l:List (K×D)) (mb:Nat) (k:K) (es:Array MapEntry) (c:Nat) (sv:Value) (Hr:Hp):Prop :=
  (dL_ P kt (kv k) es.toList none∧sv=.slice none 0 0∧∀ d sv' Hk',aE_ e sz sv' (lat (l++[(k,d)]) k).length ((lat (l++[(k,d)]) k).flatMap cells) Hk'→∃ H',aS_ kv cells e sz (l++[(k,d)]) mb H'∧H'.Perm ((mb,.map (es.push ⟨kv k,sv',c⟩) (c+1))::(Hk'++Hr))) ∨
  (∃ i x,dL_ P kt (kv k) es.toList (some (i,sv))∧es[i]? = some x∧x.key=kv k∧x.val=sv∧∀ d sv' Hk',aE_ e sz sv' (lat (l++[(k,d)]) k).length ((lat (l++[(k,d)]) k).flatMap cells) Hk'→∃ H',aS_ kv cells e sz (l++[(k,d)]) mb H'∧H'.Perm ((mb,.map (es.modify i fun y=>{ y with key:=kv k,val:=sv' }) c)::(Hk'++Hr)))
theorem iz_ {k0:Act→World→Prop} {kt:TypeId} {mb:Nat} {e:TypeId} {sz:Nat} {l:List (K×D)} {Hm F:Hp} (hK:KeyT P kt kv) (k:K) (hm:aS_ kv cells e sz l mb Hm) (hH:H.Perm (Hm++F))
    (h:∀ es c sv Hk Hr,aE_ e sz sv (lat l k).length ((lat l k).flatMap cells) Hk→MOp P kt kv cells e sz l mb k es c sv Hr→Ok N v0 H0 k0 fr ((mb,.map es c)::(Hk++(Hr++F))) Γ):Ok N v0 H0 k0 fr H Γ:=by
  obtain⟨es,c,sv,Hk,Hr,p1,p2,p3⟩:=hm.open hK k
  refine u_ (hH.trans (by
    have:=p1.append_right F
    simpa [List.append_assoc] using this)) (h es c sv Hk Hr p2 p3)
theorem cN_ {t kt et:TypeId} {x y:Operand} {mb c:Nat} {e:TypeId} {sz:Nat} {l:List (K×D)} {k:K} {es:Array MapEntry} {sv:Value} {Hr:Hp} (hK:KeyT P kt kv) (ho:MOp P kt kv cells e sz l mb k es c sv Hr) (hu:∀ w,(underlying t).run P w=.ok (.map kt et) w) (hz:∀ w,(zeroValue et).run P w=.ok (.slice none 0 0) w)
    (hx:Fr.ev fr x=some (.map (some mb))) (hy:Fr.ev fr y=some (kv k)) (i:Nat) (hi:H[i]? = some (mb,.map es c)):Yld P N fr H Γ (.lookup t x y false) ty sv:=by
  have hm:∀ v,v.sat H→am_ Γ v→v.w.heap[mb]? = some (.map es c):=fun v h _=>(h.own _ (List.mem_of_getElem? hi)).1
  rcases ho with⟨h1,rfl,_⟩|⟨i,z,h1,_⟩
  · exact im_ hu hz hx hy hm (hK.ok k) h1
  · exact jQ_ hu hx hy hm (hK.ok k) h1
theorem da_ {o:Op} {t kt et:TypeId} {x y z:Operand} {mb c:Nat} {e:TypeId} {sz:Nat} {l:List (K×D)} {k:K} {dd:D} {es:Array MapEntry} {sv sv':Value} {Hk Hr F:Hp} (hK:KeyT P kt kv) (ho:MOp P kt kv cells e sz l mb k es c sv Hr) (hr:aE_ e sz sv' (lat (l++[(k,dd)]) k).length ((lat (l++[(k,dd)]) k).flatMap cells) Hk)
    (hop:o=.insert t x y z∨o=.mapUpdate t x y z) (hu:∀ w,(underlying t).run P w=.ok (.map kt et) w) (hx:Fr.ev fr x=some (.map (some mb))) (hy:Fr.ev fr y=some (kv k)) (hz:Fr.ev fr z=some sv') (hH:H.Perm ((mb,.map es c)::(Hk++(Hr++F))))
    (hk:∀ H',aS_ kv cells e sz (l++[(k,dd)]) mb H'→Ops P R N v0 H0 ops lo Kk fr (H'++F) Γ):Ops P R N v0 H0 ops (⟨none,o,ty,ps,af,none⟩::lo) Kk fr H Γ:=by
  refine u_ hH ?_
  rcases ho with⟨h1,_,h2⟩|⟨i,q,h1,h3,h4,_,h2⟩
  · obtain⟨H',q1,q2⟩:=h2 dd sv' Hk hr
    refine hZ_ 0 hop hu hx hy hz rfl (hK.ok k) h1 ?_
    simp only[List.set_cons_zero]
    exact u_ (by have:=(q2.append_right F).symm;simpa [List.append_assoc] using this) (hk H' q1)
  · obtain⟨H',q1,q2⟩:=h2 dd sv' Hk hr
    refine kj_ 0 hK hop hu hx hy hz rfl h1 h3 h4 ?_
    simp only[List.set_cons_zero]
    exact u_ (by have:=(q2.append_right F).symm;simpa [List.append_assoc] using this) (hk H' q1)
theorem aW_ {b:Nat×Obj} {O Q F:Hp} (h:H.Perm ((b::(O++Q))++F)):H.Perm (b::(O++(Q++F))):=by simpa [List.append_assoc] using h
theorem ak_ {b:Nat×Obj} {F:Hp} (h:H.Perm ([b]++F)):H.Perm (b::F):=h
theorem q_ {b:Nat×Obj} {F F':Hp} (h:H.Perm ([b]++F)) (h2:F.Perm F'):H.Perm (b::F'):=List.Perm.trans h (h2.cons b)
theorem pE_ {fn:Func} {Rr:Ending→World→Prop} {c:Code} (h:Run P (bodyPost P fn Rr) N v0 H0 c [] fr H Γ):Run P (bodyPost P fn Rr) N v0 H0 (.scope c) [] fr H Γ :=
  fun a v h1 h2 h3 h4=>wp_scope_straight (wp_mono (h a v h1 h2 h3 h4) fun e a w hq=>by cases e<;>exact hq)
theorem pF_ {c:Nat} (h:Fin P R N v0 H0 Kk fr H Γ):Run P R N v0 H0 (.label c) Kk fr H Γ :=
  fun a v h1 h2 h3 h4=>wp_label (h a v h1 h2 h3 h4)
end ops
end Go.Sx
namespace Go.Sx
open Go Go.Vs
structure IntE {K:Type} (kv:K→Value) (es:Array MapEntry) (ks:List K) (vs:List Int):Prop where
  keys:es.toList.map (·.key)=ks.map kv
  vals:es.toList.map (·.val)=vs.map fun n=>Value.int .i64 n
  nd:ks.Nodup
section
variable {P:Program} {K:Type} [DecidableEq K] {kv:K→Value} {kt:TypeId} {es:Array MapEntry} {ks:List K} {vs:List Int}
theorem IntE.nil:IntE kv #[] ([]:List K) []:=⟨rfl,rfl,List.nodup_nil⟩
theorem IntE.len (h:IntE kv es ks vs):vs.length=ks.length:=by
  have h1:=congrArg List.length h.keys
  have h2:=congrArg List.length h.vals
  simp only[List.length_map]at h1 h2
  omega
theorem IntE.yes (hK:KeyT P kt kv) (h:IntE kv es ks vs) {k:K} (hk:k∈ks):∃ (i:Nat) (n:Int),ks[i]? = some k∧vs[i]? = some n∧dL_ P kt (kv k) es.toList (some (i,.int .i64 n)):=by
  obtain⟨i,hi⟩:=List.getElem?_of_mem hk
  have hlt:i<es.toList.length:=by
    have:=(List.getElem?_eq_some_iff.1 hi).1
    have e:=congrArg List.length h.keys
    simp only[List.length_map]at e
    omega
  have hx:=List.getElem?_eq_getElem hlt
  have hv:=congrArg (fun l=>l[i]?) h.vals
  simp only[List.getElem?_map,hx,Option.map_some]at hv
  cases hn:vs[i]? with
  | none=>rw[hn]at hv;simp at hv
  | some n =>
    rw[hn]at hv
    simp only[Option.map_some,Option.some.injEq]at hv
    refine⟨i,n,hi,hn,?_⟩
    have:=hK.sf k es.toList ks i _ h.keys h.nd hi hx
    rwa [hv]at this
theorem IntE.no (hK:KeyT P kt kv) (h:IntE kv es ks vs) {k:K} (hk:k ∉ ks):dL_ P kt (kv k) es.toList none:=hK.nf k es.toList ks h.keys hk
theorem IntE.push (h:IntE kv es ks vs) {k:K} (hk:k ∉ ks) (n:Int) (c:Nat):IntE kv (es.push ⟨kv k,.int .i64 n,c⟩) (ks++[k]) (vs++[n]):=by
  refine⟨by simp[h.keys],by simp[h.vals],?_⟩
  rw[List.nodup_append];exact⟨h.nd,by simp,fun a ha b hb e=>by simp at hb;subst hb;subst e;exact hk ha⟩
end
section ops
variable {P:Program} {N:Nf} {v0:Vw} {H0:Hp} {R:Exit→Act→World→Prop} {Kk:List Kt} {fr:Fr} {H:Hp} {Γ:List Fct}
variable {ops:Array Oper} {lo:List Oper} {d:Nat} {ty:TypeId} {ps:String} {af:Array Edge}
variable {K:Type} [DecidableEq K] {kv:K→Value}
theorem eH_ {t kt et:TypeId} {x y:Operand} {mb c:Nat} {es:Array MapEntry} {ks:List K} {vs:List Int} {k:K} {F:Hp} (hK:KeyT P kt kv) (hu:∀ w,(underlying t).run P w=.ok (.map kt et) w) (hz:∀ w,(zeroValue et).run P w=.ok (.int .i64 0) w) (hx:Fr.ev fr x=some (.map (some mb))) (hy:Fr.ev fr y=some (kv k))
    (hE:IntE kv es ks vs) (hp:H.Perm ([(mb,.map es c)]++F)) (hN:Nat.blt d N.n=true)
    (hk:∀ (r:Bool) (n:Int),decide (k∈ks)=r→(r=true→∃ i:Nat,ks[i]? = some k∧vs[i]? = some n)→Ops P R N v0 H0 ops lo Kk ((d,.tuple #[.int .i64 n,.bool r])::fr) H Γ):Ops P R N v0 H0 ops (⟨some d,.lookup t x y true,ty,ps,af,none⟩::lo) Kk fr H Γ:=by
  have hm:∀ v:Vw,v.sat H→v.w.heap[mb]? = some (.map es c):=fun v h=>(h.own _ (hp.mem_iff.2 (List.mem_append_left _ (List.mem_singleton.2 rfl)))).1
  by_cases hkk:k∈ks
  · obtain⟨i,n,h1,h2,h3⟩:=hE.yes hK hkk
    refine i_ (x:=.tuple #[.int .i64 n,.bool true]) (fun a v g1 g2 g4 _ _ _=>?_) hN (hk true n (decide_eq_true hkk) fun _=>⟨i,h1,h2⟩)
    have hb:=MapKept.run_getObj_map (P:=P) (hm v g2)
    simp[execOp,g1.ev hx,g1.ev hy,Instr.lookup,hu,hb,hK.ok _ _ _,h3 _]
  · refine i_ (x:=.tuple #[.int .i64 0,.bool false]) (fun a v g1 g2 g4 _ _ _=>?_) hN (hk false 0 (decide_eq_false hkk) fun q=>by cases q)
    have hb:=MapKept.run_getObj_map (P:=P) (hm v g2)
    simp[execOp,g1.ev hx,g1.ev hy,Instr.lookup,hu,hb,hK.ok _ _ _,hE.no hK hkk _,hz]
theorem km_ {o:Op} {t kt et:TypeId} {x y z:Operand} {mb c:Nat} (j:Nat) {es:Array MapEntry} {ks:List K} {vs:List Int} {k:K} {n:Int} (hK:KeyT P kt kv) (ho:o=.insert t x y z∨o=.mapUpdate t x y z) (hu:∀ w,(underlying t).run P w=.ok (.map kt et) w)
    (hx:Fr.ev fr x=some (.map (some mb))) (hy:Fr.ev fr y=some (kv k)) (hz:Fr.ev fr z=some (.int .i64 n)) (hi:H[j]? = some (mb,.map es c)) (hE:IntE kv es ks vs) (hk:k ∉ ks)
    (hkk:∀ es' c',IntE kv es' (ks++[k]) (vs++[n])→Ops P R N v0 H0 ops lo Kk fr (H.set j (mb,.map es' c')) Γ):Ops P R N v0 H0 ops (⟨none,o,ty,ps,af,none⟩::lo) Kk fr H Γ :=
  hZ_ j ho hu hx hy hz hi (hK.ok k) (hE.no hK hk) (hkk _ _ (hE.push hk n c))
end ops
def iot (n:Nat):List Int:=(List.range n).map Int.ofNat
theorem tz_ {n i:Nat} {m:Int} (h:(iot n)[i]? = some m):m=i:=by
  unfold iot at h
  rw[List.getElem?_map]at h
  cases hq:(List.range n)[i]? with
  | none=>rw[hq]at h;simp at h
  | some j =>
    rw[hq]at h
    obtain⟨h1,h2⟩:=List.getElem?_eq_some_iff.1 hq
    simp at h2 h
    omega
theorem nx_ (n:Nat):iot (n+1)=iot n++[(n:Int)]:=by simp[iot,List.range_succ]
end Go.Sx
namespace Go.Vs
open Go Go.Sx
section
variable {p:List Pc} {A:List Str} {fm:List (Ky×Int)} {n:Nat} {l l' l3:List Stp} {x:Jx} {s t:Stp} {f:Fc} {z:Pc} {i j k m:Nat}
theorem bD_ (hl:l3=ii_ l s) (hE:Eng p A l) (hc:Cor p A l s.rule s.fact s.piece s.frm) (hr:s.rule≤14):Eng p A l3:=by rw[hl];exact hE.add hc hr
theorem bB_ (hl:l3=ii_ l s):l <+: l3:=by rw[hl];exact sI_ l s
theorem bC_ (hl:l3=ii_ l s):s.fact∈fcs l3:=by rw[hl];exact sJ_ l s
theorem dG_ (h:(l.take n)[i]? = some s):l[i]? = some s:=by
  have hi:=(List.getElem?_eq_some_iff.1 h).1
  simp at hi
  rw[List.getElem?_take_of_lt (by omega)]at h
  exact h
def eD_ (p:List Pc) (row:List Int) (i:Nat) (Q:Pc→Prop):Prop:=∀ j,j<i→∀ m,row[j]? = some m→∀ x,p[m.toNat]? = some x→Q x
theorem eD_.zero {row:List Int} {Q:Pc→Prop}:eD_ p row 0 Q:=fun j hj=>by omega
theorem eD_.step {row:List Int} {Q Q':Pc→Prop} (h:eD_ p row i Q) (hm:∀ x,Q x→Q' x) (hr:row[i]? = some (k:Int)) (hz:p[k]? = some z) (hq:Q' z):eD_ p row (i+1) Q':=fun j hj m hm' x hx=>by
 by_cases e:j=i
 ·subst e
  rw[hr]at hm';cases hm'
  simp only[Int.toNat_natCast]at hx
  rw[hz]at hx;cases hx
  exact hq
 exact hm x (h j (by omega) m hm' x hx)
theorem eD_.done {K:Ky} {Q:Pc→Prop} (h:eD_ p (lat fm K) i Q) (hi:¬ (i:Int)<((lat fm K).length:Int)):Und p fm K Q:=fun m hm x hx=>by
  obtain⟨j,hj⟩:=List.getElem?_of_mem hm
  exact h j (by have:=(List.getElem?_eq_some_iff.1 hj).1;omega) m hj x hx
def fD_ (l:List Stp) (row:List Int) (i:Nat) (Q:Stp→Prop):Prop:=∀ j,j<i→∀ m,row[j]? = some m→∀ x,l[m.toNat]? = some x→Q x
theorem fD_.zero {row:List Int} {Q:Stp→Prop}:fD_ l row 0 Q:=fun j hj=>by omega
theorem fD_.step {row:List Int} {Q Q':Stp→Prop} (h:fD_ l row i Q) (hm:∀ x,Q x→Q' x) (hr:row[i]? = some (k:Int)) (hz:l[k]? = some s) (hq:Q' s):fD_ l row (i+1) Q':=fun j hj m hm' x hx=>by
 by_cases e:j=i
 ·subst e
  rw[hr]at hm';cases hm'
  simp only[Int.toNat_natCast]at hx
  rw[hz]at hx;cases hx
  exact hq
 exact hm x (h j (by omega) m hm' x hx)
theorem fD_.done {row:List Int} {Q:Stp→Prop} (h:fD_ l row i Q) (hi:¬ (i:Int)<(row.length:Int)):hu_ l row Q:=fun m hm x hx=>by
  obtain⟨j,hj⟩:=List.getElem?_of_mem hm
  exact h j (by have:=(List.getElem?_eq_some_iff.1 hj).1;omega) m hj x hx
theorem Und.mono {K:Ky} {Q Q':Pc→Prop} (h:Und p fm K Q) (hm:∀ x,Q x→Q' x):Und p fm K Q':=fun m hm' x hx=>hm x (h m hm' x hx)
theorem hu_.mono {row:List Int} {Q Q':Stp→Prop} (h:hu_ l row Q) (hm:∀ x,Q x→Q' x):hu_ l row Q':=fun m hm' x hx=>hm x (h m hm' x hx)
theorem Eng.form (hE:Eng p A l) (hv:∀ z∈p,z.vok) (hs:l[i]? = some s):s.fact.form:=(hE.der _ (List.mem_map_of_mem (List.mem_of_getElem? hs))).form hv
theorem hj_ {g:Fc} {c:Int} (h:∃ q:Nat,(fcs l)[q]? = some g∧(iot l.length)[q]? = some c):∃ q:Nat,c=q∧At l q g:=by
  obtain⟨q,h1,h2⟩:=h
  refine⟨q,tz_ h2,?_⟩
  unfold fcs at h1
  rw[List.getElem?_map]at h1
  cases hq:l[q]? with
  | none=>rw[hq]at h1;simp at h1
  | some s=>rw[hq]at h1;exact⟨s,hq,by simpa using h1⟩
-- the rules
theorem cor3 (hz:p[i]? = some z) (hk:Ky.mk 1 [] f.b∈kys z) (h:At l n (C_ f.a f.b)):Cor p A l 3 (C_ f.a z.c) i [(n:Int)]:=by
  obtain⟨k1,k2⟩:=ky1.1 hk;rw[← k2]at h;exact .r3 hz k1 h
theorem cor4 (hz:p[i]? = some z) (hk:Ky.mk 2 [] f.b∈kys z) (h:At l j (C_ f.a z.a)) (h':At l k (C_ f.a z.b)):Cor p A l 4 (C_ f.a z.c) i [(j:Int),(k:Int)]:=.r4 hz (ky2.1 hk).1 h h'
theorem cor5 (hz:p[i]? = some z) (hk:Ky.mk 3 [] f.b∈kys z) (h:At l n (C_ f.a f.b)):Cor p A l 5 (I_ f.a z.r z.c) i [(n:Int)]:=by
  obtain⟨k1,k2⟩:=ky3.1 hk;rw[← k2]at h;exact .r5 hz k1 h
theorem cor11 (hz:p[i]? = some z) (hk:Ky.mk 8 [] f.b∈kys z) (h:At l n (C_ f.a f.b)):Cor p A l 11 (T_ f.a z.r z.lo z.hi) i [(n:Int)]:=by
  obtain⟨k1,k2⟩:=ky8.1 hk;rw[← k2]at h;exact .r11 hz k1 h
theorem iC_ (hE:Eng p A l) (hv:∀ z∈p,z.vok) (hs:l[j]? = some s) (hk:s.fact.kind=2):At l j (I_ s.fact.a s.fact.r s.fact.b):=⟨s,hs,(hm_ (hE.form hv hs) hk).1⟩
theorem qM_ (hE:Eng p A l) (hv:∀ z∈p,z.vok) (hs:l[j]? = some s) (hk:s.fact.kind=1):At l j (C_ s.fact.a s.fact.b):=⟨s,hs,jk_ (hE.form hv hs) hk⟩
theorem iu_ (hE:Eng p A l) (hv:∀ z∈p,z.vok) (hs:l[j]? = some s) (hk:s.fact.kind=3):At l j (T_ s.fact.a s.fact.r s.fact.lo s.fact.hi):=⟨s,hs,(gq_ (hE.form hv hs) hk).1⟩
theorem pk_ (hE:Eng p A l) (hv:∀ z∈p,z.vok) (hz:p[i]? = some z) (hk:Ky.mk 4 [] f.b∈kys z) (h:At l n (C_ f.a f.b)) (hs:l[j]? = some s) (hs2:s.fact.kind=2) (he:(s.fact.b,s.fact.r)=(f.a,z.r)):Cor p A l 8 (C_ s.fact.a z.c) i [(j:Int),(n:Int)]:=by
  obtain⟨k1,k2⟩:=(ky4 (hv z (List.mem_of_getElem? hz)).rok).1 hk
  have h2:=iC_ hE hv hs hs2
  simp only[Prod.mk.injEq]at he
  rw[he.1,he.2]at h2
  rw[← k2]at h
  exact .r8 hz k1 h2 h
theorem cor9a (hE:Eng p A l) (hv:∀ z∈p,z.vok) (h:At l n (C_ f.a f.b)) (hb:f.b=[33]) (hs:l[j]? = some s) (hs2:s.fact.kind=2) (he:s.fact.b=f.a):Cor p A l 9 (C_ s.fact.a [33]) (-1) [(j:Int),(n:Int)]:=by
  have h2:=iC_ hE hv hs hs2
  rw[he]at h2;rw[hb]at h
  exact .r9 h2 h
theorem cor6 (hz:p[i]? = some z) (hk:Ky.mk 5 f.r []∈kys z) (h:At l n (I_ f.a f.r f.b)):Cor p A l 6 (I_ f.a z.t f.b) i [(n:Int)]:=by
  obtain⟨k1,k2⟩:=ky5.1 hk;rw[← k2]at h;exact .r6 hz k1 h
theorem pm_ (hE:Eng p A l) (hv:∀ z∈p,z.vok) (hr:f.r≠[]) (hz:p[i]? = some z) (hk:Ky.mk 6 f.r []∈kys z) (h:At l n (I_ f.a f.r f.b)) (hs:l[j]? = some s) (hs2:s.fact.kind=2) (he:(s.fact.a,s.fact.r)=(f.b,z.s)):Cor p A l 7 (I_ f.a z.t s.fact.b) i [(n:Int),(j:Int)]:=by
  obtain⟨k1,k2⟩:=(ky6 hr).1 hk
  have h2:=iC_ hE hv hs hs2
  simp only[Prod.mk.injEq]at he
  rw[he.1,he.2]at h2
  rw[← k2]at h
  exact .r7 hz k1 h h2
theorem pl_ (hE:Eng p A l) (hv:∀ z∈p,z.vok) (hr:f.r≠[]) (hz:p[i]? = some z) (hk:Ky.mk 6 [] f.r∈kys z) (h:At l n (I_ f.a f.r f.b)) (hs:l[j]? = some s) (hs2:s.fact.kind=2) (he:(s.fact.b,s.fact.r)=(f.a,z.r)):Cor p A l 7 (I_ s.fact.a z.t f.b) i [(j:Int),(n:Int)]:=by
  obtain⟨k1,k2⟩:=(ky6' hr).1 hk
  have h2:=iC_ hE hv hs hs2
  simp only[Prod.mk.injEq]at he
  rw[he.1,he.2]at h2
  rw[← k2]at h
  exact .r7 hz k1 h2 h
theorem un_ (hE:Eng p A l) (hv:∀ z∈p,z.vok) (hr:f.r≠[]) (hs:l[j]? = some s) (hs1:s.fact.kind=1) (he:s.fact.a=f.b) (hz:p[i]? = some z) (hk:Ky.mk 4 f.r s.fact.b∈kys z) (h:At l n (I_ f.a f.r f.b)):Cor p A l 8 (C_ f.a z.c) i [(n:Int),(j:Int)]:=by
  obtain⟨k1,k2,k3⟩:=(ky4' hr).1 hk
  have h2:=qM_ hE hv hs hs1
  rw[he,← k3]at h2
  rw[← k2]at h
  exact .r8 hz k1 h h2
theorem cor9b (h:At l n (I_ f.a f.r f.b)) (h2:At l j (C_ f.b [33])):Cor p A l 9 (C_ f.a [33]) (-1) [(n:Int),(j:Int)]:=.r9 h h2
theorem up_ (hE:Eng p A l) (hv:∀ z∈p,z.vok) (h:At l n (T_ f.a f.r f.lo f.hi)) (hs:l[j]? = some s) (hs3:s.fact.kind=3) (he:(s.fact.a,s.fact.r)=(f.a,f.r)) (hl:¬ min f.hi s.fact.hi<max f.lo s.fact.lo):Cor p A l 12 (T_ f.a f.r (max f.lo s.fact.lo) (min f.hi s.fact.hi)) (-1) [(n:Int),(j:Int)]:=by
  have h2:=iu_ hE hv hs hs3
  simp only[Prod.mk.injEq]at he
  rw[he.1,he.2]at h2
  exact .r12 h h2 (by omega)
theorem uo_ (hE:Eng p A l) (hv:∀ z∈p,z.vok) (h:At l n (T_ f.a f.r f.lo f.hi)) (hs:l[j]? = some s) (hs3:s.fact.kind=3) (he:(s.fact.a,s.fact.r)=(f.a,f.r)) (hl:min f.hi s.fact.hi<max f.lo s.fact.lo):Cor p A l 13 (C_ f.a [33]) (-1) [(n:Int),(j:Int)]:=by
  have h2:=iu_ hE hv hs hs3
  simp only[Prod.mk.injEq]at he
  rw[he.1,he.2]at h2
  exact .r13 h h2 hl
theorem cor14 (hz:p[i]? = some z) (hk:Ky.mk 9 f.r []∈kys z) (h:At l n (T_ f.a f.r f.lo f.hi)) (h1:z.lo≤f.lo) (h2:f.hi≤z.hi):Cor p A l 14 (C_ f.a z.c) i [(n:Int)]:=by
  obtain⟨k1,k2⟩:=ky9.1 hk;rw[← k2]at h;exact .r14 hz k1 h h1 h2
end
end Go.Vs
namespace Go.Vs
open Go Go.Sx
def Fre (D:Nat→Prop) (l:List Stp):Prop:=∀ s∈l,s.frm≠[]→∀ b off,s.ad=some ⟨b,off,none⟩→¬ D b
theorem cd_ {D:Nat→Prop} {l l3:List Stp} {s:Stp} (hl:l3=ii_ l s) (h:Fre D l) (hs:s.frm≠[]→∀ b off,s.ad=some ⟨b,off,none⟩→¬ D b):Fre D l3:=by
 intro t ht
 rw[hl]at ht
 unfold ii_ at ht
 split at ht
 ·exact h t ht
 rcases List.mem_append.1 ht with ht|ht
 ·exact h t ht
 rw[List.mem_singleton]at ht;subst ht;exact hs
theorem bO_ {D:Nat→Prop} {b:Nat} (h:¬ D b):∀ b' off,(some ⟨b,0,none⟩:Option Addr)=some ⟨b',off,none⟩→¬ D b':=fun b' off e=>by
  simp only[Option.some.injEq,Addr.mk.injEq]at e
  rw[← e.1];exact h
def imF (D:Nat→Prop):Fct where
  p v:=∀ b,D b→v.im b
  mono v v' h hp b hb:=h.imUp b (hp b hb)
theorem cc_ {D:Nat→Prop} {v:Vw} {H F:Hp} {b:Nat} {o:Obj} (h:v.sat H) (hp:H.Perm ([(b,o)]++F)) (hi:(imF D).p v):¬ D b:=fun hd=>((h.perm hp).own (b,o) (by simp)).2 (hi b hd)
theorem iN_ {P:Program} {f:FuncId} {args:Array Value} {H:Hp} {Γ Γ0:List Fct} {ι:Type} {ret:ι→Value} {H':ι→Hp} {Γ':ι→List Fct} {l:List Stp} (B:Hp) (hc:dM_ P f)
    (hT:Fre (fun b=>b∈B.map Prod.fst) l→Tri P f args H Γ ret H' Γ') (hl:∀ v,am_ Γ0 v→(ax_ l).p v)
    (hΓ:∀ v:Vw,(∀ p∈B,v.im p.1∧v.w.heap[p.1]? = some p.2)→am_ Γ0 v→am_ Γ v) (hG:∀ x (v:Vw),am_ (Γ' x) v→am_ (Γ' x) ⟨fun b=>v.im b∧b ∉ B.map Prod.fst,v.w,v.sl⟩):Tri P f args (B++H) Γ0 ret (fun x=>B++H' x) Γ':=by
  refine⟨hc,fun v hs hv=>?_⟩
  have hF:Fre (fun b=>b∈B.map Prod.fst) l:=fun s hs' hn b off e hb=>by
    obtain⟨p,hp,rfl⟩:=List.mem_map.1 hb
    have ho:=hs.own p (List.mem_append_left _ hp)
    rcases hl v hv s hs' with h|⟨b',off',arr,T,fz,h1,h2,_⟩
    · exact hn (by cases hf:s.frm with
        | nil=>rfl
        | cons a r=>rw[hf]at h;simp[N_]at h)
    · rw[e]at h1
      simp only[Option.some.injEq,Addr.mk.injEq]at h1
      exact ho.2 (h1.1▸h2)
  have hT:=hT hF
  have hnd:=hs.nodup
  rw[List.map_append,List.nodup_append]at hnd
  have hlt:∀ p∈B,p.1<v.w.heap.size:=fun p hp=>(Array.getElem?_eq_some_iff.1 (hs.own p (List.mem_append_left _ hp)).1).1
  have h1:(⟨fun b=>v.im b∨b∈B.map Prod.fst,v.w,v.sl⟩:Vw).sat H:=by
    refine⟨fun p hp=>⟨(hs.own p (List.mem_append_right _ hp)).1,fun hi=>?_⟩,hnd.2.1,fun b hb=>?_⟩
    · rcases hi with hi|hi
      · exact (hs.own p (List.mem_append_right _ hp)).2 hi
      · exact hnd.2.2 _ hi _ (List.mem_map_of_mem hp) rfl
    · rcases hb with hb|hb
      · exact hs.lt b hb
      · obtain⟨p,hp,rfl⟩:=List.mem_map.1 hb
        exact hlt p hp
  have hle:v.le ⟨fun b=>v.im b∨b∈B.map Prod.fst,v.w,v.sl⟩:=⟨fun b h=>.inl h,fun _ _=>rfl,rfl⟩
  have h2:=hΓ ⟨fun b=>v.im b∨b∈B.map Prod.fst,v.w,v.sl⟩ (fun p hp=>⟨.inr (List.mem_map_of_mem hp),(hs.own p (List.mem_append_left _ hp)).1⟩) (bf_ hle hv)
  refine (hT.run _ h1 h2).mono ?_
  rintro e w' ⟨x,v',rfl,rfl,g1,g2,g3⟩
  have hB:∀ b,b∈B.map Prod.fst→v'.im b:=fun b hb=>g3.imUp b (.inr hb)
  refine⟨x,⟨fun b=>v'.im b∧b ∉ B.map Prod.fst,v'.w,v'.sl⟩,rfl,rfl,⟨fun p hp=>?_,?_,fun b hb=>g1.lt b hb.1⟩,hG x v' g2,?_⟩
  · rcases List.mem_append.1 hp with hp|hp
    · refine⟨?_,fun h=>h.2 (List.mem_map_of_mem hp)⟩
      have:=(g3.le h1).block p.1 (.inr (List.mem_map_of_mem hp))
      exact this.trans (hs.own p (List.mem_append_left _ hp)).1
    · exact⟨(g1.own p hp).1,fun h=>(g1.own p hp).2 h.1⟩
  · rw[List.map_append,List.nodup_append]
    refine⟨hnd.1,g1.nodup,fun a ha b hb e=>?_⟩
    subst e
    obtain⟨p,hp,rfl⟩:=List.mem_map.1 hb
    exact (g1.own p hp).2 (hB _ ha)
  · refine⟨g3.os,g3.tape,g3.output,g3.size,fun b hb hn=>g3.block b hb (fun hm=>hn ?_),fun b hb=>⟨g3.imUp b (.inl hb),fun hm=>?_⟩,fun b hb=>?_,fun b hb=>?_,g3.sl,g3.dr⟩
    · rw[List.map_append];exact List.mem_append_right _ hm
    · obtain⟨p,hp,rfl⟩:=List.mem_map.1 hm
      exact (hs.own p (List.mem_append_left _ hp)).2 hb
    · rcases g3.imNew b hb.1 with (h|h)|h|h
      · exact .inl h
      · exact absurd h hb.2
      · exact .inr (.inl (by rw[List.map_append];exact List.mem_append_right _ h))
      · exact .inr (.inr h)
    · rw[List.map_append]at hb ⊢
      rcases List.mem_append.1 hb with h|h
      · exact .inl (List.mem_append_left _ h)
      · exact (g3.hNew b h).imp (List.mem_append_right _) id
theorem iO_ {l:List Stp} {B:Hp} {v:Vw} (hF:Fre (fun b=>b∈B.map Prod.fst) l) (h:(ax_ l).p v):(ax_ l).p ⟨fun b=>v.im b∧b ∉ B.map Prod.fst,v.w,v.sl⟩:=fun s hs=>by
 rcases h s hs with h|⟨b,off,arr,T,fz,h1,h2,h3,h4⟩
 ·exact .inl h
 by_cases hn:s.frm=[]
 ·left;rw[hn];rfl
 exact .inr ⟨b,off,arr,T,fz,h1,⟨h2,hF s hs hn b off h1⟩,h3,h4⟩
end Go.Vs
namespace Go.Vs
open Go Go.Sx
section
variable {p:List Pc} {A:List Str} {n i:Nat} {l:List Stp} {x:Jx} {s:Stp}
theorem LoopP.addx (h:LoopP p A n l x) (hs:l[n]? = some s):(x.add s n).of (l.take (n+1))∧(x.add s n).len (n+1):=by
  have hn:=(List.getElem?_eq_some_iff.1 hs).1
  have e1:l.take (n+1)=l.take n++[s]:=by rw[List.take_add_one,hs];rfl
  have e3:(l.take n).length=n:=by rw[List.length_take];omega
  have:=Jx.of_add h.ix s
  rw[e3]at this
  exact⟨by rw[e1];exact this,Jx.len_add h.ixl s n⟩
def AtI (al:List Str) (i:Nat) (Q:Str→Prop):Prop:=∀ j,j<i→∀ a,al[j]? = some a→Q a
theorem AtI.zero {al:List Str} {Q:Str→Prop}:AtI al 0 Q:=fun j hj=>by omega
theorem AtI.step {al:List Str} {Q Q':Str→Prop} {a:Str} (h:AtI al i Q) (hm:∀ x,Q x→Q' x) (hr:al[i]? = some a) (hq:Q' a):AtI al (i+1) Q':=fun j hj b hb=>by
 by_cases e:j=i
 ·subst e;rw[hr]at hb;cases hb;exact hq
 exact hm b (h j (by omega) b hb)
theorem AtI.done {al:List Str} {Q:Str→Prop} (h:AtI al i Q) (hi:¬ (i:Int)<(al.length:Int)):∀ a∈al,Q a:=fun a ha=>by
  obtain⟨j,hj⟩:=List.getElem?_of_mem ha
  exact h j (by have:=(List.getElem?_eq_some_iff.1 hj).1;omega) a hj
def AtQ (p:List Pc) (fm:List (Ky×Int)) (l:List Stp) (a:Str):Prop:=C_ a a∈fcs l∧C_ a [42]∈fcs l∧Und p fm ⟨7,[],[]⟩ fun x=>I_ a x.r a∈fcs l
theorem AtQ.mono {fm:List (Ky×Int)} {l':List Stp} {a:Str} (hp:l <+: l') (h:AtQ p fm l a):AtQ p fm l' a:=⟨ai_ hp h.1,ai_ hp h.2.1,h.2.2.mono fun x hx=>ai_ hp hx⟩
theorem LoopP.start' {fm:List (Ky×Int)} (hf:Fnd p fm) (h:Eng p A l) (hs:∀ a∈A,AtQ p fm l a):LoopP p A 0 l Jx.nil :=
  LoopP.start h fun a ha=>⟨(hs a ha).1,(hs a ha).2.1,fun z hz hk=>by
    obtain⟨y,e,hq⟩:=(hs a ha).2.2.all hf hz (ky7.2 hk)
    rw[(ee_ e).2.2.2.2.1]at hq;exact hq⟩
theorem cor10 {z:Pc} {a:Str} {k:Nat} (hz:p[k]? = some z) (hk:Ky.mk 7 [] []∈kys z) (h:a∈A):Cor p A l 10 (I_ a z.r a) k []:=.r10 hz (ky7.1 hk) h
end
end Go.Vs
namespace Go.Vs
open Go Go.Sx
structure PrfL (p:List Pc) (A:List Str) (f:Fc) (L:List Stp):Prop where
  cor:∀ (n:Nat) s,L[n]? = some s→Cor p A (L.take n) s.rule s.fact s.piece s.frm
  last:(fcs L).getLast? = some f
  nd:(fcs L).Nodup
  low:∀ s∈L,s.rule≤14∨s.fact=f
theorem rl_ {p:List Pc} {A:List Str} {f:Fc} {l:List Stp} {k:Nat} (hE:Eng p A l) (h:At l k f):PrfL p A f (l.take (k+1)):=by
 obtain⟨s,hs,rfl⟩:=h
 have hk:=(List.getElem?_eq_some_iff.1 hs).1
 refine⟨fun n t ht=>?_,?_,?_,fun t ht=>?_⟩
 ·have hn:=(List.getElem?_eq_some_iff.1 ht).1
  simp at hn
  rw[List.getElem?_take_of_lt (by omega)]at ht
  rw[List.take_take,Nat.min_eq_left (by omega)]
  exact (hE.cor n t ht).1
 ·rw[List.take_add_one,hs,Option.toList_some,cA_];simp[fcs]
 ·have:fcs (l.take (k+1))=(fcs l).take (k+1):=by simp[fcs,List.map_take]
  rw[this];exact hE.nd.sublist (List.take_sublist _ _)
 obtain⟨j,hj⟩:=List.getElem?_of_mem (List.mem_of_mem_take ht)
 exact .inl (hE.cor j t hj).2
theorem nc_ {p:List Pc} {A:List Str} {l:List Stp} {s:Stp} (hE:Eng p A l) (hn:s.fact ∉ fcs l) (hc:Cor p A l s.rule s.fact s.piece s.frm):PrfL p A s.fact (l++[s]):=by
 refine⟨fun n t ht=>?_,by rw[cA_];simp[fcs],?_,fun t ht=>?_⟩
 ·by_cases hl:n<l.length
  ·rw[List.getElem?_append_left hl]at ht
   rw[List.take_append_of_le_length (by omega)]
   exact (hE.cor n t ht).1
  have e:n=l.length:=by have:=(List.getElem?_eq_some_iff.1 ht).1;simp at this;omega
  subst e
  rw[List.getElem?_append_right (by omega)]at ht
  simp at ht
  subst ht
  rw[List.take_left];exact hc
 ·rw[cA_,List.nodup_append]
  exact⟨hE.nd,by simp[fcs],fun a ha b hb e=>by simp[fcs]at hb;subst hb;subst e;exact hn ha⟩
 rcases List.mem_append.1 ht with ht|ht
 ·obtain⟨j,hj⟩:=List.getElem?_of_mem ht
  exact .inl (hE.cor j t hj).2
 rw[List.mem_singleton]at ht;subst ht;exact .inr rfl
def ui_ (l:List Stp) (f:Fc):Prop:=f∈fcs l∨C_ f.a [33]∈fcs l∨(f.kind=3∧∃ g∈fcs l,g.kind=3∧g.a=f.a∧g.r=f.r∧f.lo≤g.lo∧g.hi≤f.hi)
theorem tM_ {p:List Pc} {A:List Str} {l:List Stp} {x:Jx} {f:Fc} (h:LoopP p A l.length l x) (hd:ui_ l f) (h1:f ∉ fcs l) (h2:C_ f.a [33] ∉ fcs l) (h3:hu_ l (lat x.ranges (f.a,f.r)) fun u=>¬ (f.kind=3∧f.lo≤u.fact.lo∧u.fact.hi≤f.hi)):False:=by
 rcases hd with hd|hd|⟨hk,g,hg,g1,g2,g3,g4,g5⟩
 ·exact h1 hd
 ·exact h2 hd
 obtain⟨i,u,hu,e⟩:=gx_ hg
 have hix:=h.ix
 rw[List.take_length]at hix
 have:=hix.ranges.has hu (by rw[e];exact g1)
 rw[e,g2,g3]at this
 exact h3 _ this u (by simpa using hu) ⟨hk,by rw[e];exact g4,by rw[e];exact g5⟩
theorem cor16 {p:List Pc} {A:List Str} {l:List Stp} {f:Fc} {s:Stp} {m:Nat} (hE:Eng p A l) (hv:∀ z∈p,z.vok) (hs:l[m]? = some s) (hk:s.fact.kind=3) (he:(s.fact.a,s.fact.r)=(f.a,f.r)) (hf:f=T_ f.a f.r f.lo f.hi) (h1:f.lo≤s.fact.lo) (h2:s.fact.hi≤f.hi):Cor p A l 16 f (-1) [(m:Int)]:=by
  have h:=iu_ hE hv hs hk
  simp only[Prod.mk.injEq]at he
  rw[he.1,he.2]at h
  rw[hf];exact .r16 h h1 h2
end Go.Vs
namespace Go.Vs
open Go Go.Sx
theorem ml_ (x:Pc):kys x.zf=kys x:=by
 unfold kys bZ_ Pc.zf
 simp only[List.map_append]
 congr 1
 ·repeat' split
  all_goals rfl
 split<;>rfl
theorem tv_ (x:Pc):(kys x).length≤2:=by
 unfold kys bZ_
 simp only[List.length_map,List.length_append]
 by_cases h:x.kind=7
 ·simp[h]
 rw[if_neg h]
 repeat' split
 all_goals simp
theorem Fnd.nil:Fnd [] []:=⟨fun k m h=>by simp at h,fun z hz=>by simp at hz,by simp⟩
theorem gY_ {p:List Pc} {i j:Nat} {x:Pc} (h:(p.take i)[j]? = some x):(p.take (i+1))[j]? = some x:=by
  have hj:=(List.getElem?_eq_some_iff.1 h).1
  simp at hj
  rw[List.getElem?_take_of_lt (by omega)]at h ⊢
  exact h
theorem Fnd.new {p:List Pc} {fm:List (Ky×Int)} {i:Nat} {x:Pc} (h:Fnd (p.take i) fm) (hx:p[i]? = some x):Fnd (p.take (i+1)) (fm++(kys x.zf).map fun k=>(k,(i:Int))):=by
 have hi:=(List.getElem?_eq_some_iff.1 hx).1
 have e:p.take (i+1)=p.take i++[x]:=by rw[List.take_add_one,hx];rfl
 have hxi:(p.take (i+1))[i]? = some x:=by rw[List.getElem?_take_of_lt (by omega)];exact hx
 refine⟨fun k m hm=>?_,fun z hz=>?_,?_⟩
 ·rcases List.mem_append.1 hm with hm|hm
  ·obtain⟨j,y,e1,e2,e3⟩:=h.snd k m hm
   exact⟨j,y,e1,gY_ e2,e3⟩
  obtain⟨k',hk',e1⟩:=List.mem_map.1 hm
  cases e1
  rw[ml_]at hk'
  exact⟨i,x,rfl,hxi,hk'⟩
 ·rw[e]at hz
  rcases List.mem_append.1 hz with hz|hz
  ·obtain⟨j,y,e1,e2,e3⟩:=h.all z hz
   exact⟨j,y,gY_ e1,e2,fun k hk=>List.mem_append_left _ (e3 k hk)⟩
  rw[List.mem_singleton]at hz;subst hz
  exact⟨i,z,hxi,rfl,fun k hk=>List.mem_append_right _ (List.mem_map.2 ⟨k,by rw[ml_];exact hk,rfl⟩)⟩
 have h1:=h.len
 have h2:=tv_ x.zf
 rw[List.length_append,List.length_map]
 simp only[List.length_take]at h1 ⊢
 omega
theorem Fnd.old {p:List Pc} {fm:List (Ky×Int)} {i:Nat} {x:Pc} (h:Fnd (p.take i) fm) (hx:p[i]? = some x) (hz:∃ y∈p.take i,y.zf=x.zf):Fnd (p.take (i+1)) fm:=by
 have hi:=(List.getElem?_eq_some_iff.1 hx).1
 have e:p.take (i+1)=p.take i++[x]:=by rw[List.take_add_one,hx];rfl
 refine⟨fun k m hm=>?_,fun z hz'=>?_,?_⟩
 ·obtain⟨j,y,e1,e2,e3⟩:=h.snd k m hm
  exact⟨j,y,e1,gY_ e2,e3⟩
 ·rw[e]at hz'
  rcases List.mem_append.1 hz' with hz'|hz'
  ·obtain⟨j,y,e1,e2,e3⟩:=h.all z hz'
   exact⟨j,y,gY_ e1,e2,e3⟩
  rw[List.mem_singleton]at hz';subst hz'
  obtain⟨w,hw,ew⟩:=hz
  obtain⟨j,y,e1,e2,e3⟩:=h.all w hw
  have ek:kys w=kys z:=by rw[← ml_ w,ew,ml_]
  exact⟨j,y,gY_ e1,e2.trans ew,by rw[← ek];exact e3⟩
 have h1:=h.len
 simp only[List.length_take]at h1 ⊢
 omega
theorem qS_ {p:List Pc} {ks:List Pc} {i:Nat} {x:Pc} (h:∀ z,z∈ks↔∃ y∈p.take i,y.zf=z) (hx:p[i]? = some x):∀ z,z∈ks++[x.zf]↔∃ y∈p.take (i+1),y.zf=z:=fun z=>by
 have e0:p.take (i+1)=p.take i++[x]:=by rw[List.take_add_one,hx];rfl
 rw[e0,List.mem_append,h z,List.mem_singleton]
 constructor
 ·rintro (⟨y,hy,e⟩|rfl)
  ·exact⟨y,by simp[hy],e⟩
  exact⟨x,by simp,rfl⟩
 rintro ⟨y,hy,e⟩
 rcases List.mem_append.1 hy with hy|hy
 ·exact .inl ⟨y,hy,e⟩
 rw[List.mem_singleton]at hy;subst hy;exact .inr e.symm
theorem qR_ {p:List Pc} {ks:List Pc} {i:Nat} {x:Pc} (h:∀ z,z∈ks↔∃ y∈p.take i,y.zf=z) (hx:p[i]? = some x) (hm:x.zf∈ks):∀ z,z∈ks↔∃ y∈p.take (i+1),y.zf=z:=fun z=>by
 have e0:p.take (i+1)=p.take i++[x]:=by rw[List.take_add_one,hx];rfl
 rw[h z,e0]
 constructor
 ·rintro ⟨y,hy,e⟩;exact⟨y,by simp[hy],e⟩
 rintro ⟨y,hy,e⟩
 rcases List.mem_append.1 hy with hy|hy
 ·exact⟨y,hy,e⟩
 rw[List.mem_singleton]at hy;subst hy;rw[← e];exact (h _).1 hm
end Go.Vs
namespace Go.Sx
open Go
def iy_ (b:Nat) (F:Value→List Value) (T:TypeId):Fct where
  p:=fun v=>v.im b∧∃ u,v.w.heap[b]? = some (.cells (F u).toArray T (0,0))
  mono:=fun v v' h hp=>⟨h.imUp b hp.1,by rw[h.block b hp.1];exact hp.2⟩
section
variable {P:Program} {N:Nf} {v0:Vw} {H0:Hp} {R:Exit→Act→World→Prop} {K:List Kt} {fr:Fr} {H Hs:Hp} {Γ Γs:List Fct}
variable {ops:Array Oper} {d:Nat} {ty:TypeId} {ps:String} {af:Array Edge} {fuel:Nat} {listed:Array Bool}
theorem eo_ {t:TypeId} {x:Operand} {b off:Nat} {F:Value→List Value} {T:TypeId} {u:Value} (ha:∀ w,(isAgg t).run P w=.ok false w) (hx:Fr.ev fr x=some (.pointer (some ⟨b,off,none⟩))) (ho:∀ v,v.sat H→am_ Γ v→(iy_ b F T).p v) (hu:∀ z,(F z)[off]? = some u):Yld P N fr H Γ (.load t x) ty u :=
  fm_ hx fun v h2 h4=>dr_ ha (by
    obtain⟨_,z,hz⟩:=ho v h2 h4
    have:=hu z
    simp only[World.cell?,hz,Nat.zero_add]
    simpa using this)
theorem ab_ {b:Nat} {F:Value→List Value} {T:TypeId} {u:Value} {R0:Hp} (hp:H.Perm ([(b,.cells (F u).toArray T (0,0))]++(Hs++R0))) (hΓ:∀ v,v.sat H→am_ Γ v→am_ Γs v):∀ v,v.sat H→am_ Γ v→SW Hs (iy_ b F T::Γs) v.w:=fun v h1 h2=>by
 have h3:=h1.perm hp
 have hb:=h3.own (b,.cells (F u).toArray T (0,0)) (by simp)
 have hnd:=h3.nodup
 simp only[List.cons_append,List.nil_append,List.map_cons,List.nodup_cons]at hnd
 have hs:(⟨fun c=>v.im c∨c=b,v.w,v.sl⟩:Vw).sat Hs:=by
   refine⟨fun p hp'=>⟨(h3.own p (by simp[hp'])).1,fun hi=>?_⟩,?_,fun c hc=>?_⟩
   · rcases hi with hi|hi
     · exact (h3.own p (by simp[hp'])).2 hi
     · exact hnd.1 (by rw[← hi];exact List.mem_map_of_mem (by simp[hp']))
   · have:=hnd.2;rw[List.map_append,List.nodup_append]at this;exact this.1
   · rcases hc with hc|hc
     · exact h1.lt c hc
     · rw[hc];exact (Array.getElem?_eq_some_iff.1 hb.1).1
 have hle:v.le ⟨fun c=>v.im c∨c=b,v.w,v.sl⟩:=⟨fun c h=>.inl h,fun _ _=>rfl,rfl⟩
 exact⟨⟨fun c=>v.im c∨c=b,v.w,v.sl⟩,rfl,hs,⟨.inr rfl,u,hb.1⟩,bf_ hle (hΓ v h1 h2)⟩
theorem ac_ {b:Nat×Obj} {F G Hx:Hp} (h1:Hx.Perm ([b]++F)) (h2:F.Perm (Hs++G)):Hx.Perm ([b]++(Hs++G)):=h1.trans (h2.append_left [b])
theorem eF_ {id:Nat} (f:Fct) (Hs:Hp) (hm:P.follows .mixedOrders=true) (h:Any P R N v0 H0 ops Hs (f::Γ) ops.size (Array.replicate ops.size false) K fr H Γ):Run P R N v0 H0 (.region id ops true) K fr H Γ:=kc_ Hs (f::Γ) hm h
theorem sE_ [NoPan R] (i:Nat) {oi:Oper} {x:Value} (hi:ops[i]? = some oi) (hn:Region.noSelect ops=true) (hf:Region.free .any ops listed i=true) (hr:(Region.ready .any ops listed).contains i=true)
    (hd:oi.dst=some d) (hN:Nat.blt d N.n=true) (hy:∀ a,Fr.sat N fr a→YieldsIf P ops (SW Hs Γs) oi x a) (hs:∀ v,v.sat H→am_ Γ v→SW Hs Γs v.w)
    (h:Any P R N v0 H0 ops Hs Γs fuel (listed.setIfInBounds i true) K ((d,x)::fr) H Γ):Any P R N v0 H0 ops Hs Γs (fuel+1) listed K fr H Γ :=
  fun a v h1 h2 h3 h4=>wpAnyH_take hi hn hf hr (fun c a w hq=>absurd hq (hg_ K c _ w)) (hy a h1) (hs v h2 h4) (by
    rw[hd]
    exact h _ v (h1.put hN) h2 h3 h4)
def SqW (P:Program) (R:Exit→Act→World→Prop) (N:Nf) (v0:Vw) (H0:Hp) (ops:Array Oper) (Hs:Hp) (Γs:List Fct) (is:List Nat) (fuel:Nat) (listed:Array Bool) (K:List Kt) (fr:Fr) (H:Hp) (Γ:List Fct):Prop :=
  (Region.noSelect ops&&fI_ ops listed is)=true→(∀ v,v.sat H→am_ Γ v→SW Hs Γs v.w)→Any P R N v0 H0 ops Hs Γs (fuel+is.length) listed K fr H Γ
theorem dU_ (fuel:Nat) (is:List Nat) (hq:(Region.noSelect ops&&fI_ ops listed is)=true) (hs:∀ v,v.sat H→am_ Γ v→SW Hs Γs v.w) (h:SqW P R N v0 H0 ops Hs Γs is fuel listed K fr H Γ):Any P R N v0 H0 ops Hs Γs (fuel+is.length) listed K fr H Γ:=h hq hs
theorem dP_ (h:Any P R N v0 H0 ops Hs Γs fuel listed K fr H Γ):SqW P R N v0 H0 ops Hs Γs [] fuel listed K fr H Γ:=fun _ _=>h
theorem L_ [NoPan R] {i:Nat} {is:List Nat} {op:Op} {x:Value} (hi:ops[i]? = some ⟨some d,op,ty,ps,af,none⟩) (he:Yld P N fr Hs Γs op ty x) (hN:Nat.blt d N.n=true)
    (h:SqW P R N v0 H0 ops Hs Γs is fuel (listed.setIfInBounds i true) K ((d,x)::fr) H Γ):SqW P R N v0 H0 ops Hs Γs (i::is) fuel listed K fr H Γ:=fun hq hs=>by
  obtain⟨q1,q2,q3,q4⟩:=is_ hq
  exact sE_ i hi q1 q2 q3 rfl hN (fun a h1=>.inl ⟨rfl,fun w ⟨v,e,k1,k2⟩=>by subst e;exact he a v h1 k1 k2 (some d) ps af⟩) hs (h q4 hs)
theorem W_ (hs:∀ v,v.sat H→am_ Γ v→SW Hs Γs v.w) (h:Any P R N v0 H0 ops Hs Γs fuel listed K fr H Γ):Ok N v0 H0 (Nx P R ops Hs Γs fuel listed K) fr H Γ :=
  fun a v h1 h2 h3 h4=>⟨hs v h2 h4,h a v h1 h2 h3 h4⟩
end
end Go.Sx
namespace Go.Sx
open Go Go.Vs
section
variable {P:Program} {N:Nf} {v0:Vw} {H0:Hp} {fr:Fr} {H:Hp} {Γ:List Fct}
variable {K D:Type} [DecidableEq K] {kv:K→Value} {cells:D→List Value}
theorem kp_ {k0:Act→World→Prop} {kt:TypeId} {mb:Nat} {e:TypeId} {sz:Nat} {l:List (K×D)} {Hm F:Hp} (hK:KeyT P kt kv) (k:K) (hm:aS_ kv cells e sz l mb Hm) (hH:H.Perm (Hm++F))
    (h:∀ es c sv Hk Hr,aE_ e sz sv (lat l k).length ((lat l k).flatMap cells) Hk→MOp P kt kv cells e sz l mb k es c sv Hr→Hm.Perm ((mb,.map es c)::(Hk++Hr))→Ok N v0 H0 k0 fr ((mb,.map es c)::(Hk++(Hr++F))) Γ):Ok N v0 H0 k0 fr H Γ:=by
  obtain⟨es,c,sv,Hk,Hr,p1,p2,p3⟩:=hm.open hK k
  refine u_ (hH.trans (by
    have:=p1.append_right F
    simpa [List.append_assoc] using this)) (h es c sv Hk Hr p2 p3 p1)
theorem iS_ {k0:Act→World→Prop} {b:Nat×Obj} {Hm Hk Hr F:Hp} (hc:Hm.Perm (b::(Hk++Hr))) (hH:H.Perm (b::(Hk++(Hr++F)))) (h:Ok N v0 H0 k0 fr (Hm++F) Γ):Ok N v0 H0 k0 fr H Γ :=
  u_ (hH.trans (by
    have:=(hc.append_right F).symm
    simpa [List.append_assoc] using this)) h
end
end Go.Sx
namespace Go.Sx
open Go
section
variable {P:Program} {N:Nat} {v0:Vw} {H0:Hp} {R:Exit→Act→World→Prop} {Kk:List Kt} {fr:Fr} {H:Hp} {Γ:List Fct}
variable {ops:Array Oper} {lo:List Oper} {d:Nat} {ty:TypeId} {ps:String} {af:Array Edge}
variable {K:Type} [DecidableEq K] {kv:K→Value}
structure ItS (kv:K→Value) (es:Array MapEntry) (seen:Array Nat) (done:List K):Prop where
  nd:done.Nodup
  mem:∀ e∈es.toList,seen.contains e.born=true↔∃ k∈done,e.key=kv k
  sub:∀ k∈done,∃ e∈es.toList,e.key=kv k
theorem ItS.nil {es:Array MapEntry}:ItS kv es #[] []:=⟨List.nodup_nil,fun e _=>by simp,fun k hk=>by simp at hk⟩
theorem SetE.entry {es:Array MapEntry} {q:List K} (hE:SetE kv es q) (hi:∀ x y,kv x=kv y→x=y) {x e:MapEntry} (hx:x∈es.toList) (he:e∈es.toList) (h:x.key=e.key):x=e:=by
 obtain⟨i,hi1,hi2⟩:=List.getElem_of_mem hx
 obtain⟨j,hj1,hj2⟩:=List.getElem_of_mem he
 have hl:=congrArg List.length hE.keys
 simp only[List.length_map]at hl
 have key:∀ (k:Nat) (hk:k<es.toList.length),es.toList[k].key=kv (q[k]'(by omega)):=fun k hk=>by
   have:=congrArg (fun l=>l[k]?) hE.keys
   simp only[List.getElem?_map]at this
   rw[List.getElem?_eq_getElem hk,List.getElem?_eq_getElem (by omega)]at this
   simpa using this
 have e1:=key i hi1
 have e2:=key j hj1
 rw[hi2]at e1
 rw[hj2]at e2
 have e3:=hi _ _ (e1.symm.trans (h.trans e2))
 have hij:i=j:=by
   rcases Nat.lt_trichotomy i j with h1|h1|h1
   · exact absurd e3 (List.pairwise_iff_getElem.1 hE.nd i j (by omega) (by omega) h1)
   · exact h1
   · exact absurd e3.symm (List.pairwise_iff_getElem.1 hE.nd j i (by omega) (by omega) h1)
 subst hij
 rw[← hi2,← hj2]
theorem SetE.ofKey {es:Array MapEntry} {q:List K} (hE:SetE kv es q) {e:MapEntry} (he:e∈es.toList):∃ k∈q,e.key=kv k:=by
  have:e.key∈es.toList.map (·.key):=List.mem_map_of_mem he
  rw[hE.keys]at this
  obtain⟨k,hk,h⟩:=List.mem_map.1 this
  exact⟨k,hk,h.symm⟩
theorem ItS.step {es:Array MapEntry} {q:List K} {c:Nat} {seen:Array Nat} {done:List K} {e:MapEntry} (hi:∀ x y,kv x=kv y→x=y) (hE:SetE kv es q) (hB:Born es c) (h:ItS kv es seen done) (he:e∈(leftOf es seen).toList) :
    ∃ k,k∈q∧k ∉ done∧e.key=kv k∧e∈es.toList∧ItS kv es (seen.push e.born) (done++[k]):=by
  unfold leftOf at he
  rw[Array.toList_filter,List.mem_filter]at he
  obtain⟨h1,h2⟩:=he
  obtain⟨k,hk,hkv⟩:=hE.ofKey h1
  have hnd:k ∉ done:=fun hm=>by
    have:=(h.mem e h1).2 ⟨k,hm,hkv⟩
    rw[this]at h2
    simp at h2
  refine⟨k,hk,hnd,hkv,h1,⟨?_,fun x hx=>?_,fun y hy=>?_⟩⟩
  · rw[List.nodup_append];exact⟨h.nd,by simp,fun a ha b hb e=>by simp at hb;subst hb;subst e;exact hnd ha⟩
  · rw[Array.contains_push,Bool.or_eq_true,h.mem x hx,beq_iff_eq]
    constructor
    · rintro (⟨y,hy,hyv⟩|h3)
      · exact⟨y,by simp[hy],hyv⟩
      · have:x=e:=by
          have hn:=hB.nd
          obtain⟨i,hi1,hi2⟩:=List.getElem_of_mem hx
          obtain⟨j,hj1,hj2⟩:=List.getElem_of_mem h1
          have hij:i=j:=by
            rcases Nat.lt_trichotomy i j with g|g|g
            · exact ((List.pairwise_iff_getElem.1 hn i j (by simpa using hi1) (by simpa using hj1) g) (by simp only[List.getElem_map,hi2,hj2,h3])).elim
            · exact g
            · exact ((List.pairwise_iff_getElem.1 hn j i (by simpa using hj1) (by simpa using hi1) g) (by simp only[List.getElem_map,hi2,hj2,h3])).elim
          subst hij
          rw[← hi2,← hj2]
        exact⟨k,by simp,this▸hkv⟩
    · rintro ⟨y,hy,hyv⟩
      rcases List.mem_append.1 hy with hy|hy
      · exact .inl ⟨y,hy,hyv⟩
      · rw[List.mem_singleton]at hy
        subst hy
        exact .inr (congrArg MapEntry.born (hE.entry hi hx h1 (hyv.trans hkv.symm)))
  · rcases List.mem_append.1 hy with hy|hy
    · exact h.sub y hy
    · rw[List.mem_singleton]at hy
      subst hy
      exact⟨e,h1,hkv⟩
theorem ItS.end {es:Array MapEntry} {q:List K} {seen:Array Nat} {done:List K} (hi:∀ x y,kv x=kv y→x=y) (hE:SetE kv es q) (h:ItS kv es seen done) (h0:(leftOf es seen).size=0):done.Perm q:=by
 refine (List.perm_ext_iff_of_nodup h.nd hE.nd).2 fun k=>⟨fun hk=>?_,fun hk=>?_⟩
 ·obtain⟨e,he,hkv⟩:=h.sub k hk
  obtain⟨k',hk',hkv'⟩:=hE.ofKey he
  exact hi _ _ (hkv.symm.trans hkv')▸hk'
 have:kv k∈es.toList.map (·.key):=by rw[hE.keys];exact List.mem_map_of_mem hk
 obtain⟨e,he,hkv⟩:=List.mem_map.1 this
 have hs:seen.contains e.born=true:=by
   cases hc:seen.contains e.born
   · exfalso
     have:e∈(leftOf es seen).toList:=by unfold leftOf;rw[Array.toList_filter,List.mem_filter];exact⟨he,by simp only[hc];rfl⟩
     have h1:=List.length_pos_of_mem this
     simp only[Array.length_toList]at h1
     omega
   · rfl
 obtain⟨k',hk',hkv'⟩:=(h.mem e he).1 hs
 exact hi _ _ (hkv.symm.trans hkv')▸hk'
end
section
variable {P:Program} {N:Nat} {v0:Vw} {H0:Hp} {R:Exit→Act→World→Prop} {K:List Kt} {fr:Fr} {H F:Hp} {Γ:List Fct}
def sL_ {σ:Type} (v0:Vw) (H0:Hp) (Hj:σ→Hp) (ok:σ→Prop) (HL:Hp):Exit→Act→World→Prop
  | .normal,_,w=>∃ s' v,ok s'∧v.w=w∧v.sat (Hj s'++HL)∧v0.to H0 v (Hj s'++HL)
  | _,_,_=>False
theorem mI_ {σ ι:Type} {l D:Nat} {rec:Loop} {pm:Nat} {x:Value} {Hj:σ→Hp} {s:σ} {ok:σ→Prop} (frA:ι→Fr) (HA:ι→Hp)
    (hp:rec.params=#[pm]) (hst:rec.state=.ready) (hpe:rec.pending=none) (ht:Fr.sat N fr ⟨rec.tmps,[]⟩) (hpm:Nat.blt pm N=true)
    (hassign:∀ n v0 H0 HL,qz_ (Fence.wide.inRound l) n P (Mid N v0 H0 frA (fun i=>HA i++HL) (fun _=>Γ)) N [] v0 H0 rec.assign [] ((pm,x)::fr) (Hj s++HL) Γ)
    (hbody:∀ n v0 H0 HL i,qz_ (Fence.wide.inRound l) n P (sL_ v0 H0 Hj ok HL) N [] v0 H0 rec.body [] (frA i) (HA i++HL) Γ) :
    sK_ P l x (Hj s++HLp l D rec) Γ (fun _:{s':σ // ok s'}=>.bool true) (fun s'=>Hj s'.1++HLp l D rec) (fun _=>[]):=by
  intro v hs hΓ
  have hpl:∀ (X:Hp) r,(X++HLp l D r).Perm ((l,.loop r)::(X++[(D,.deferred (some []))])):=fun X r=>by
    unfold HLp
    exact List.perm_middle
  have hl:v.w.heap[l]? = some (.loop rec):=((hs.perm (hpl _ _)).own _ List.mem_cons_self).1
  refine⟨rec.fn,_,rec.assign,rec.body,run_yield hl (by simp[hp]),fun n=>roundIn_of_wpIn trivial ?_⟩
  have htm:(rec.params.zip #[x]).foldl (fun tmps (t,a)=>tmps.setIfInBounds t a) rec.tmps=rec.tmps.setIfInBounds pm x:=by simp[hp]
  rw[htm]
  have hsat:Fr.sat N ((pm,x)::fr) ⟨rec.tmps.setIfInBounds pm x,[]⟩:=ht.put hpm
  refine wpIn_mono (hi_.1 (hassign n v (Hj s++HLp l D rec) (HLp l D rec)) ⟨rec.tmps.setIfInBounds pm x,[]⟩ v hsat hs (Vw.to.refl _ _) hΓ) ?_
  rintro e a1 w1 ⟨rfl,i,v1,rfl,k1,k2,k3,k4⟩
  have k2':=k2.perm (hpl _ _)
  have hl1:=(k2'.own _ List.mem_cons_self).1
  obtain⟨m1,m2⟩:=jC_ (o':=.loop { rec with state:=.busy }) k2'
  refine⟨_,run_beginRound hl1 hst,?_⟩
  have m3:=m1.perm (hpl (HA i) { rec with state:=.busy }).symm
  have m4:v.to (Hj s++HLp l D rec) ⟨v1.im,v1.w.putObj l (.loop { rec with state:=.busy }),v1.sl⟩ (HA i++HLp l D { rec with state:=.busy }) :=
    (k3.trans ((m2.permL (hpl _ _).symm).subR fun b hb=>((hpl (HA i) { rec with state:=.busy }).map Prod.fst).mem_iff.1 hb))
  have k4':=bf_ (m2.le k2') k4
  refine wpIn_mono (hi_.1 (hbody n v (Hj s++HLp l D rec) (HLp l D { rec with state:=.busy }) i) a1 ⟨v1.im,_,v1.sl⟩ k1 m3 m4 k4') ?_
  intro e2 a2 w2 hq
  cases e2 with
  | normal =>
    obtain⟨s',v2,hok,rfl,q1,q2⟩:=hq
    have q1':=q1.perm (hpl _ _)
    have hl2:=(q1'.own _ List.mem_cons_self).1
    obtain⟨z1,z2⟩:=jC_ (o':=.loop rec) q1'
    have er:({ rec with state:=.ready,pending:=none }:Loop)=rec:=by cases rec;simp_all
    refine⟨_,_,run_endRound none hl2,⟨s',hok⟩,⟨v2.im,v2.w.putObj l (.loop rec),v2.sl⟩,rfl,?_,z1.perm (hpl _ _).symm,trivial,q2.trans ((z2.permL (hpl _ _).symm).subR fun b hb=>((hpl (Hj s') rec).map Prod.fst).mem_iff.1 hb)⟩
    simp[er]
  | ret=>exact hq.elim
  | exit id=>exact hq.elim
  | goto t=>exact hq.elim
  | panic c=>exact hq.elim
  | outgrown=>exact hq.elim
theorem oj_ {σ:Type} {Hj:σ→Hp} {HL G:Hp} {ok:σ→Prop} (s':σ) (hr:ok s') (hH:H.Perm (Hj s'++HL++G)):OkD N [] v0 H0 (sL_ v0 H0 Hj ok HL .normal) fr H Γ :=
  rE_ (Γ':=[]) hH (fun _ _ _=>trivial) fun a v h1 h2 h3 _=>⟨s',v,hr,rfl,h2,h3⟩
theorem og_ {σ α:Type} {g:Operand} {pm:Nat} {assign body:Code} {gf:FuncId} {caps:List Value} {Hj:σ→Hp} {Hc:Hp} {Γi:List Fct} {xv:α→Value} {good:σ→α→Prop} {nx:α→σ→σ→Prop} {Rc:σ→Prop}
    (s0:σ) (hg:Fr.ev fr g=some (.func (.func gf) #[] caps.toArray)) (hH:H.Perm (Hc++Hj s0)) (hΓi:∀ v,v.sat H→am_ Γ v→am_ Γi v)
    (hround:∀ l D (rec:Loop),rec.params=#[pm]→rec.state=.ready→rec.pending=none→Fr.sat N fr ⟨rec.tmps,[]⟩→rec.assign=assign→rec.body=body→∀ s x,good s x →
      sK_ P l (xv x) (Hj s++HLp l D rec) [] (fun _:{s':σ // nx x s s'}=>.bool true) (fun s'=>Hj s'.1++HLp l D rec) (fun _=>[]))
    (hit:∀ l (Gj:σ→Hp),(∀ s x,good s x→sK_ P l (xv x) (Gj s) [] (fun _:{s':σ // nx x s s'}=>.bool true) (fun s'=>Gj s'.1) (fun _=>[])) →
      Tri P gf (.func (.yield l) #[] #[]::caps).toArray (Hc++Gj s0) Γi (fun _:{s':σ // Rc s'}=>.tuple #[]) (fun s'=>Hc++Gj s'.1) (fun _=>[]))
    (hnext:∀ s',Rc s'→∀ D l r,uh_ Fence.wide 0 P R N (pZ_ D) v0 H0 K fr (Hc++Hj s'++HLp l D r) Γ) :
    Run P R N v0 H0 (.rangeFunc g #[pm] assign body) K fr H Γ:=by
  intro a v h1 h2 h3 h4
  refine wpIn_wide (n:=0) |>.1 (wpIn_mono (Q:=eS_ Fence.wide 0 P R K) (wpIn_rangeFunc fun fn _=>?_) fun e a w hq=>bI_ K e a w hq)
  obtain⟨a1,a2⟩:=jD_ (w':=v.w.alloc (.deferred (some []))) (o:=.deferred (some [])) h2 rfl rfl rfl rfl (Nat.le_refl _)
  obtain⟨rec,hrec⟩:∃ rec:Loop,rec={ state:=.ready,pending:=none,fn,tmps:=a.tmps,params:=#[pm],assign,body,defers:=v.w.heap.size }:=⟨_,rfl⟩
  obtain⟨b1,b2⟩:=jD_ (w':=(v.w.alloc (.deferred (some []))).alloc (.loop rec)) (o:=.loop rec) a1 rfl rfl rfl rfl (Nat.le_refl _)
  have hsz:(v.w.alloc (Obj.deferred (some []))).heap.size=v.w.heap.size+1:=by simp
  have b1':(⟨v.im,(v.w.alloc (.deferred (some []))).alloc (.loop rec),v.sl⟩:Vw).sat ((v.w.heap.size+1,.loop rec)::(v.w.heap.size,.deferred (some []))::H):=hsz▸b1
  have b2':v.to H ⟨v.im,(v.w.alloc (.deferred (some []))).alloc (.loop rec),v.sl⟩ ((v.w.heap.size+1,.loop rec)::(v.w.heap.size,.deferred (some []))::H):=a2.trans (hsz▸b2)
  have hperm:((v.w.heap.size+1,Obj.loop rec)::(v.w.heap.size,.deferred (some []))::H).Perm (Hc++(Hj s0++HLp (v.w.heap.size+1) v.w.heap.size rec)):=by
    rw[← List.append_assoc]
    exact (List.perm_append_comm (l₁:=HLp (v.w.heap.size+1) v.w.heap.size rec) (l₂:=H)).trans (hH.append_right _)
  have hT:=hit (v.w.heap.size+1) (fun s=>Hj s++HLp (v.w.heap.size+1) v.w.heap.size rec)
    (hround _ _ rec (by rw[hrec]) (by rw[hrec]) (by rw[hrec]) (by rw[hrec];exact⟨h1.size,rfl,h1.val⟩) (by rw[hrec]) (by rw[hrec]))
  have hΓ2:=bf_ (b2'.le h2) (hΓi v h2 h4)
  have hΓ3:=bf_ (b2'.le h2) h4
  have he:=h1.ev hg
  refine⟨v.w.heap.size+1,pZ_ v.w.heap.size,(v.w.alloc (.deferred (some []))).alloc (.loop rec),⟨.fn (.func gf) caps.toArray,#[.func (.yield (v.w.heap.size+1)) #[] #[]]⟩,(v.w.alloc (.deferred (some []))).alloc (.loop rec),gf,(.func (.yield (v.w.heap.size+1)) #[] #[]::caps).toArray,_,?_,?_,fun _ _=>trivial,?_,fun h=>(by cases h),callsIn_wide.2 ((hT.run ⟨v.im,_,v.sl⟩ (b1'.perm hperm) hΓ2).mono ?_)⟩
  · rw[hrec];exact run_enterLoop_outer _ _ _ _ _
  · simp only[resolve,rangeCall,List.map_toArray,List.map_cons,List.map_nil,he,Deferred.ofValue]
    rfl
  · have:=hT.callable (.func (.yield (v.w.heap.size+1)) #[] #[]::caps).toArray ((v.w.alloc (.deferred (some []))).alloc (.loop rec))
    simpa [invoke] using this
  · rintro e w' ⟨⟨s',hRc⟩,v',rfl,rfl,g1,g2,g3⟩
    have g3':=b2'.trans (g3.permL hperm.symm)
    have hΓ4:=bf_ (g3'.le h2) h4
    have hsd:∀ D',SatD N D' fr { a with defers:=D'++a.defers }:=fun D'=>⟨⟨h1.size,rfl,h1.val⟩,by show D'++a.defers=D';rw[h1.defers];simp⟩
    have hpl:∀ (X Y:Hp) r,(Y++(X++HLp (v.w.heap.size+1) v.w.heap.size r)).Perm ((v.w.heap.size+1,.loop r)::(Y++X++[(v.w.heap.size,.deferred (some []))])):=fun X Y r=>by
      unfold HLp
      rw[← List.append_assoc]
      exact List.perm_middle
    have q:=g1.perm (hpl (Hj s') Hc rec)
    have hl:=(q.own _ List.mem_cons_self).1
    obtain⟨z1,z2⟩:=jC_ (o':=.loop { rec with state:=.exhausted }) q
    have zp:((v.w.heap.size+1,Obj.loop { rec with state:=.exhausted })::(Hc++Hj s'++[(v.w.heap.size,.deferred (some []))])).Perm (Hc++Hj s'++HLp (v.w.heap.size+1) v.w.heap.size { rec with state:=.exhausted }):=by
      have:=(hpl (Hj s') Hc { rec with state:=.exhausted }).symm
      rw[← List.append_assoc]at this
      exact this
    refine⟨rec.pending,_,run_endLoop hl (by rw[hrec];simp),?_⟩
    have hpn:rec.pending=none:=by rw[hrec]
    split
    case h_2=>rename_i c hc;rw[hpn]at hc;cases hc
    exact hnext s' hRc _ _ _ _ ⟨v'.im,_,v'.sl⟩ (hsd _) (z1.perm zp) (h3.trans (g3'.trans ((z2.permL (hpl _ _ _).symm).subR fun b hb=>(zp.map Prod.fst).mem_iff.2 hb))) (bf_ (z2.le q) hΓ4)
end
section
variable {Fc:Fence} {n:Nat} {P:Program} {N:Nat} {D:List Deferred} {v0:Vw} {H0:Hp} {R:Exit→Act→World→Prop} {K:List Kt} {fr:Fr} {H:Hp} {Γ:List Fct}
variable {ops:Array Oper} {l:List Oper} {d:Nat} {ty:TypeId} {ps:String} {af:Array Edge}
theorem pV_ {t e:TypeId} {len sz:Nat} {parts:List (Nat×Operand)} {vs:List (Nat×Value)} {zv:Value} {cs:List Value} (hF:Opn Fc) (hu:∀ w,(underlying t).run P w=.ok (.slice e) w) (hs:∀ w,(sizeOf e).run P w=.ok sz w) (hz:∀ w,(zeroValue e).run P w=.ok zv w)
    (hzl:zv.cells.toList.length=sz) (hp:Nat.blt 0 (len*sz)=true) (hle:Nat.ble (len*sz) 16777216=true) (hx:Fr.evp fr parts=some vs) (hf:jl_ (fun i=>some (i*sz,sz)) (hP_ zv.cells.toList len) vs=some cs) (hN:Nat.blt d N=true)
    (hk:∀ b,ij_ Fc n P R N D v0 H0 ops l K ((d,.slice (some ⟨b,0,none⟩) len len)::fr) ((b,.cells cs.toArray e (0,0))::H) Γ):ij_ Fc n P R N D v0 H0 ops (⟨some d,.buildSlice t len parts.toArray,ty,ps,af,none⟩::l) K fr H Γ :=
  fB_ rfl fun a v h1 h2 h3 h4=>by
    refine⟨fun f _=>hF.fn f,?_⟩
    rw[semAt_eq rfl]
    have he:(execOp a.eval ⟨some d,.buildSlice t len parts.toArray,ty,ps,af,none⟩).run P v.w=.ok (.value (.slice (some ⟨v.w.heap.size,0,none⟩) len len)) (v.w.alloc (.cells cs.toArray e (0,0))):=by
      have hx':=h1.sat.evp hx
      have hf':=hn_ _ _ _ _ hf
      have hpos:0<len*sz:=by simpa [Nat.blt_eq] using hp
      have hszp:0<sz:=Nat.pos_of_mul_pos_left hpos
      have hle':len*sz≤16777216:=Nat.le_of_ble_eq_true hle
      have hr:=hW_ zv.cells.toList (by omega) len
      rw[hzl]at hr
      simp only[Array.toArray_toList]at hr
      rw[← hr]at hf'
      have hx2:(parts.map fun (i,x)=>(i,a.eval x))=vs:=hx'
      simp only[execOp,Instr.buildSlice,Sem.run_bind,hu,Result.andThen_ok,hs,List.map_toArray,hx2]
      rw[if_neg (by omega),if_neg (by omega)]
      simp only[Sem.run_bind,Sem.run_pure,hz,Result.andThen_ok,hf']
      rfl
    rw[he]
    obtain⟨g1,g2⟩:=jD_ (w':=v.w.alloc (.cells cs.toArray e (0,0))) (o:=.cells cs.toArray e (0,0)) h2 rfl rfl rfl rfl (Nat.le_refl _)
    exact hk v.w.heap.size _ ⟨v.im,_,v.sl⟩ (h1.put hN) g1 (h3.trans g2) (bf_ (g2.le h2) h4)
theorem rF_ {k:Act→World→Prop} {H':Hp} (hH:H.Perm H') (h:OkD N D v0 H0 k fr H' Γ):OkD N D v0 H0 k fr H Γ :=
  fun a v h1 h2 h3 h4=>h a v h1 (h2.perm hH) (h3.subR fun b hb=>(hH.map Prod.fst).mem_iff.2 hb) h4
theorem kX_ {t e:TypeId} {x y:Operand} {b off sz m:Nat} {sv:Value} {xs:List Value} {Hr:Hp} (hF:Opn Fc) (i:Nat) {cur:Array Value} {T:TypeId} (hrow:aE_ e sz sv m xs Hr) (hs:∀ w,(sizeOf t).run P w=.ok 1 w)
    (hx:Fr.ev fr x=some (.pointer (some ⟨b,off,none⟩))) (hy:Fr.ev fr y=some sv) (hi:H[i]? = some (b,.cells cur T (0,0))) (hf:Nat.ble (off+1) cur.size=true)
    (hk:ij_ Fc n P R N D v0 H0 ops l K fr (H.set i (b,.cells (cur.toList.take off++[sv]++cur.toList.drop (off+1)).toArray T (0,0))) Γ):ij_ Fc n P R N D v0 H0 ops (⟨none,.store t x y,ty,ps,af,none⟩::l) K fr H Γ :=
  oo_ hF i hs hx hy hi (by rw[(eQ_ hrow).1];rfl) hf (by rw[(eQ_ hrow).1];simp[(eQ_ hrow).2]) (by rw[(eQ_ hrow).1];exact hk)
theorem nj_ {x y:Operand} {t e:TypeId} {sz by' m k c:Nat} {sv:Value} {xs news:List Value} {Hr F:Hp} {ad:Addr} (hF:Opn Fc) (he:Elt P t e sz by') (hrow:aE_ e sz sv m xs Hr)
    (hx:Fr.ev fr x=some sv) (hy:Fr.ev fr y=some (.slice (some ad) k c)) (hH:H.Perm (Hr++F)) (hl:news.length=k*sz) (hnews:∀ v,v.sat H→am_ Γ v→∀ j u,news[j]? = some u→v.w.cell? (ad.add j)=some u) (h1c:∀ u∈news,u.oneCell'=true)
    (h63:m+k≤maxLen) (hb:(m+k)*by'≤140737488355328) (hN:Nat.blt d N=true)
    (hk:∀ sv' Hr',aE_ e sz sv' (m+k) (xs++news) Hr'→ij_ Fc n P R N D v0 H0 ops l K ((d,sv')::fr) (Hr'++F) Γ) :
    ij_ Fc n P R N D v0 H0 ops (⟨some d,.call ⟨.builtin .append,#[x,y],#[t,t]⟩,ty,ps,af,none⟩::l) K fr H Γ :=
  fB_ rfl fun a v h1 h2 h3 h4=>by
    refine⟨fun f _=>hF.fn f,?_⟩
    rw[semAt_eq rfl]
    obtain⟨i,z,hi,hz,es,eb,ez⟩:=he.info
    have g:=h2.perm hH
    have hn:=hnews v h2 h4
    have ho:=hrow.owns g
    obtain⟨v',w',hr,q1,q2,_⟩:=run_append_own (P:=P) v.w 0 t ty e i z sz by' he.und hi hz es eb ez he.pos sv m xs ho ad k c news hl hn h1c h63 hb (Nat.zero_le _)
    obtain⟨a1,a2⟩:=iL_ v.w he.und hi hz es ho hl hn h1c h63 (by rw[eb];exact hb) hr
    obtain⟨Hr',k1,k2,k3⟩:=lL_ hrow g q1 q2 a1 a2
    have e1:a.eval x=sv:=h1.sat.ev hx
    have e2:a.eval y=.slice (some ad) k c:=h1.sat.ev hy
    have hxx:(execOp a.eval ⟨some d,.call ⟨.builtin .append,#[x,y],#[t,t]⟩,ty,ps,af,none⟩).run P v.w=.ok (.value v') w':=by
      simp only[execOp,resolve,invoke,builtin,Sem.run_bind,Sem.run_pure,Result.andThen_ok,List.map_toArray,List.map_cons,List.map_nil,e1,e2,hr]
    rw[hxx]
    exact hk v' Hr' k1 _ ⟨v.im,w',v.sl⟩ (h1.put hN) k2 (h3.trans (k3.permL hH.symm)) (bf_ ((k3.permL hH.symm).le h2) h4)
end
end Go.Sx
namespace Go.Sx
open Go
section
variable {P:Program} {N:Nat} {v0:Vw} {H0:Hp} {R:Exit→Act→World→Prop} {K:List Kt} {fr:Fr} {H F:Hp} {Γ:List Fct}
theorem bU_ {n:Nat}:∀ (K:List Kt) (e:Exit) (a:Act) (w:World),post P R K e a w→eS_ Fence.wide n P R K e a w
 | [],_,_,_,h=>h
 | .seq c::K,.normal,a,w,h=>wpIn_wide.2 (wp_mono h fun e a w hq=>bU_ K e a w hq)
 | .seq _::K,.exit _,a,w,h=>bU_ K _ a w h
 | .seq _::K,.goto _,a,w,h=>bU_ K _ a w h
 | .seq _::K,.ret,a,w,h=>bU_ K _ a w h
 | .seq _::K,.panic _,a,w,h=>bU_ K _ a w h
 | .seq _::K,.outgrown,a,w,h=>bU_ K _ a w h
 | .inv J::_,.normal,_,_,h=>h
 | .inv _::K,.exit _,a,w,h=>bU_ K _ a w h
 | .inv _::K,.goto _,a,w,h=>bU_ K _ a w h
 | .inv _::K,.ret,a,w,h=>bU_ K _ a w h
 | .inv _::K,.panic _,a,w,h=>bU_ K _ a w h
 | .inv _::K,.outgrown,a,w,h=>bU_ K _ a w h
 | .blk id::K,.exit id',a,w,h=>by
   simp only[eS_,post]at h ⊢
   split
   · rename_i e;rw[if_pos e]at h;exact bU_ K _ a w h
   · rename_i e;rw[if_neg e]at h;exact bU_ K _ a w h
 | .blk _::K,.normal,a,w,h=>bU_ K _ a w h
 | .blk _::K,.goto _,a,w,h=>bU_ K _ a w h
 | .blk _::K,.ret,a,w,h=>bU_ K _ a w h
 | .blk _::K,.panic _,a,w,h=>bU_ K _ a w h
 | .blk _::K,.outgrown,a,w,h=>bU_ K _ a w h
theorem nB_ {D:Nat} {n:Nat} (h:Fin P R ⟨N,pZ_ D⟩ v0 H0 K fr H Γ):uh_ Fence.wide n P R N (pZ_ D) v0 H0 K fr H Γ :=
  fun a v h1 h2 h3 h4=>bU_ K _ a v.w (h a v ⟨h1.sat.size,h1.defers,h1.sat.val⟩ h2 h3 h4)
theorem retMF {fn:Func} {ι:Type} {D:Nat} {G:Hp} {ret:ι→Value} {H':ι→Hp} {Γ':ι→List Fct} (x:ι) (hx:∀ (a:Act) (v:Vw),Fr.sat (⟨N,pZ_ D⟩:Nf) fr a→v.sat G→am_ Γ v→(results fn a.tmps).run P v.w=.ok (ret x) v.w) (hH:H.Perm ((D,.deferred (some []))::(G)))
    (hG:∃ G',G.Perm (H' x++G')) (hΓ:∀ v,v.sat G→am_ Γ v→am_ (Γ' x) v):Ok ⟨N,pZ_ D⟩ v0 H0 (bodyPostM Fence.wide 0 P fn (jy_ v0 H0 ret H' Γ') .ret) fr H Γ:=by
  intro a v h1 h2 h3 h4
  show LeavesInM Fence.wide 0 P fn a.tmps _ a.defers .returning v.w
  rw[h1.defers]
  have q:=h2.perm hH
  have hl:=(q.own _ List.mem_cons_self).1
  obtain⟨z1,z2⟩:=jC_ (o':=.deferred none) q
  have z3:(⟨v.im,v.w.putObj D (.deferred none),v.sl⟩:Vw).sat G:=⟨fun p hp=>z1.own p (List.mem_cons_of_mem _ hp),by have:=z1.nodup;rw[List.map_cons,List.nodup_cons]at this;exact this.2,z1.lt⟩
  have z4:=bf_ (z2.le q) h4
  obtain⟨G',hG'⟩:=hG
  refine⟨by simp,.inl ⟨D,_,rfl,run_takeDeferred hl,ret x,?_,x,⟨v.im,_,v.sl⟩,rfl,rfl,(z3.perm hG').sub,hΓ _ z3 z4,?_⟩⟩
  · exact hx a ⟨v.im,_,v.sl⟩ h1 z3 z4
  · refine (h3.trans (z2.permL hH.symm)).subR fun b hb=>?_
    have:b∈(H' x++G').map Prod.fst:=by rw[List.map_append];exact List.mem_append_left _ hb
    rw[List.map_cons]
    exact List.mem_cons_of_mem _ ((hG'.map Prod.fst).mem_iff.2 this)
end
end Go.Sx
namespace Go.Sx
open Go
section
variable {P:Program} {N:Nf} {v0:Vw} {H0:Hp} {R:Exit→Act→World→Prop} {K:List Kt} {fr:Fr} {H F:Hp} {Γ:List Fct} {ops:Array Oper} {l:List Oper} {d:Nat} {ty:TypeId} {ps:String} {af:Array Edge} {e:TypeId} {sz n:Nat} {sv:Value} {xs:List Value} {Hr:Hp}
theorem rR_ (z:List Value) (hz:0<z.length) (n:Nat):madeCells z.toArray (n*z.length)=(hP_ z n).toArray:=hW_ z hz n
theorem dn_ {t:TypeId} {x y:Operand} {by':Nat} {z:Value} (ht:P.underlying t=some (.slice e)) (hi:(P.info? e).map (fun i=>(i.zero,i.size,i.bytes))=some (some z,sz,by')) (hzs:z.cells.toList.length=sz) (hsz:0<sz) (hx:Fr.ev fr x=some (.int .i64 (n:Int))) (hy:Fr.ev fr y=some (.int .i64 (n:Int)))
    (hb:by'*n≤281474976710656) (h63:n≤maxLen) (hN:Nat.blt d N.n=true)
    (hk:∀ sv Hr,aE_ e sz sv n (hP_ z.cells.toList n) Hr→Ops P R N v0 H0 ops l K ((d,sv)::fr) (Hr++H) Γ):Ops P R N v0 H0 ops (⟨some d,.makeSlice t x y,ty,ps,af,none⟩::l) K fr H Γ:=by
  refine gJ_ (x:=fun b=>.slice (some ⟨b,0,none⟩) n n) (o:=.cells (hP_ z.cells.toList n).toArray e (0,0)) hN (fun a v h1 _ _=>?_) (fun b=>hk _ [(b,.cells (hP_ z.cells.toList n).toArray e (0,0))] ⟨?_,.inr ⟨b,n,(hP_ z.cells.toList n).toArray,rfl,rfl,Nat.le_refl _,h63,?_,?_⟩⟩)
  · cases h:P.info? e with
    | none=>rw[h]at hi;cases hi
    | some i =>
      rw[h]at hi
      simp only[Option.map_some,Option.some.injEq,Prod.mk.injEq]at hi
      have hb':(i.bytes:Int)*(n:Int)≤281474976710656:=by
        rw[hi.2.2]
        have h:((by'*n:Nat):Int)≤281474976710656:=by omega
        rwa [Int.natCast_mul]at h
      have hr:=run_make (P:=P) v.w t e i z ht h hi.1 .i64 .i64 (n:Int) (n:Int) (by omega) (Int.le_refl _) hb' (by simp only[maxLen]at h63;omega)
      have hm:=rR_ z.cells.toList (by omega) n
      rw[hzs,Array.toArray_toList]at hm
      rw[hi.2.1,Int.toNat_natCast,hm]at hr
      simp only[execOp,h1.ev hx,h1.ev hy]
      simp[hr]
  · rw[gW_,hzs]
  · simp only[List.size_toArray];rw[gW_,hzs]
  · rw[List.toList_toArray,List.take_of_length_le (by rw[gW_,hzs];exact Nat.le_refl _)]
theorem ev_ {α:Type} (f:α→List Value) (z:α):∀ n,hP_ (f z) n=(List.replicate n z).flatMap f
  | 0=>rfl
  | n+1=>by rw[hP_,List.replicate_succ,List.flatMap_cons,ev_ f z n]
theorem pC_ {α:Type} (l us:List α) (k m:Nat) (hk:k+us.length≤m) (hm:m≤l.length):(l.take k++us++l.drop (k+us.length)).take m=(l.take m).take k++us++(l.take m).drop (k+us.length):=by
  rw[List.take_take,Nat.min_eq_left (by omega),List.take_append,List.take_of_length_le (by simp only[List.length_append,List.length_take];omega)]
  congr 1
  rw[List.drop_take]
  congr 1
  simp only[List.length_append,List.length_take]
  omega
theorem om_ {t:TypeId} {x y:Operand} {k:Nat} {us:List Value} (hrow:aE_ e sz sv n xs Hr) (hH:H.Perm (Hr++F)) (hs:∀ w,(sizeOf t).run P w=.ok sz w) (hx:Fr.ev fr x=some (.pointer (some ⟨svB sv,k,none⟩))) (hy:Fr.ev fr y=some (.agg us.toArray)) (hk:k+sz≤n*sz) (hus:us.length=sz) (hp:0<sz) (hu1:us.all Value.oneCell'=true)
    (h:∀ Hr',aE_ e sz sv n (xs.take k++us++xs.drop (k+sz)) Hr'→Ops P R N v0 H0 ops l K fr (Hr'++F) Γ):Ops P R N v0 H0 ops (⟨none,.store t x y,ty,ps,af,none⟩::l) K fr H Γ:=by
  rcases hrow.2 with⟨_,h2,_⟩|⟨g,cap,cur,rfl,rfl,h3,h4,h5,h6⟩
  · subst h2;simp only[Nat.zero_mul]at hk;omega
  · have hle:n*sz≤cap*sz:=Nat.mul_le_mul_right _ h3
    have hlx:=hrow.1
    refine u_ hH (z_ (b:=g) (off:=k) (n:=sz) 0 hs hx hy rfl (by simpa [Value.cells] using hus) ?_ (by simpa [Value.cells] using hu1) ?_)
    · have hb:k+sz≤cur.size:=by rw[h5];omega
      simpa using hb
    · refine h [(g,.cells (cur.toList.take k++us++cur.toList.drop (k+sz)).toArray e (0,0))] ⟨by simp only[List.length_append,List.length_take,List.length_drop];omega,.inr ⟨g,cap,_,rfl,rfl,h3,h4,?_,?_⟩⟩
      · simp only[List.size_toArray,List.length_append,List.length_take,List.length_drop,Array.length_toList,h5];omega
      · show ((cur.toList.take k++us++cur.toList.drop (k+sz)).toArray).toList.take (n*sz)=_
        rw[List.toList_toArray,← h6]
        have:=pC_ cur.toList us k (n*sz) (by omega) (by rw[Array.length_toList,h5];exact hle)
        rw[hus]at this;exact this
theorem pd_ {α:Type} (f:α→List Value) (z:Nat) (hf:∀ x,(f x).length=z):∀ (l:List α) (i:Nat) (y:α),i<l.length→(l.flatMap f).take (i*z)++f y++(l.flatMap f).drop (i*z+z)=(l.set i y).flatMap f
  | [],i,y,h=>by simp at h
  | a::l,0,y,h=>by
    rw[List.flatMap_cons,List.set_cons_zero,List.flatMap_cons,Nat.zero_mul,List.take_zero,List.nil_append,Nat.zero_add,List.drop_append,List.drop_of_length_le (by rw[hf];exact Nat.le_refl _),hf,Nat.sub_self];rfl
  | a::l,i+1,y,h=>by
    have h':i<l.length:=by simpa using h
    rw[List.flatMap_cons,List.set_cons_succ,List.flatMap_cons,← pd_ f z hf l i y h',Nat.succ_mul,List.take_append,List.take_of_length_le (by rw[hf];omega),List.drop_append,List.drop_of_length_le (by rw[hf];omega),hf]
    rw[show i*z+z - z=i*z by omega,show i*z+z+z - z=i*z+z by omega]
    simp[List.append_assoc]
theorem jZ_ (h:aE_ e sz sv n xs Hr):∃ ad cap,sv=.slice ad n cap:=by
 rcases h.2 with⟨rfl,rfl,_⟩|⟨g,cap,cur,rfl,_⟩
 ·exact⟨none,0,rfl⟩
 exact⟨_,cap,rfl⟩
end
end Go.Sx
namespace Go.Vs
open Go Go.Sx
def oH_ (T:TypeId) (s:Stp) (H:Hp):Prop:=aE_ T 1 (.slice s.ad s.frm.length s.cap) s.frm.length (s.frm.flatMap N_) H
def jz_ (T:TypeId):List Stp→Hp→Prop
  | [],H=>H=[]
  | s::l,H=>∃ Hs Hr,H=Hs++Hr∧oH_ T s Hs∧jz_ T l Hr
def Stp.zero:Stp:=⟨0,⟨0,[],[],[],0,0⟩,0,none,0,[]⟩
theorem lA_ (T:TypeId):∀ n,jz_ T (List.replicate n Stp.zero) []
  | 0=>rfl
  | n+1=>⟨[],[],rfl,aE_.nil T 1,lA_ T n⟩
theorem jz_.get {T:TypeId}:∀ {l:List Stp} {H:Hp} {i:Nat} {s:Stp},jz_ T l H→l[i]? = some s→∃ Hs Hr,H.Perm (Hs++Hr)∧oH_ T s Hs∧∀ s' Hs',oH_ T s' Hs'→∃ H',jz_ T (l.set i s') H'∧H'.Perm (Hs'++Hr)
 | [],_,i,_,_,h=>by simp at h
 | t::l,H,0,s,ho,h=>by
   simp only[List.getElem?_cons_zero,Option.some.injEq]at h
   subst h
   obtain⟨Hs,Hr,rfl,h1,h2⟩:=ho
   exact⟨Hs,Hr,.refl _,h1,fun s' Hs' h'=>⟨Hs'++Hr,⟨Hs',Hr,rfl,h',h2⟩,.refl _⟩⟩
 | t::l,H,i+1,s,ho,h=>by
   simp only[List.getElem?_cons_succ]at h
   obtain⟨Ht,Hl,rfl,h1,h2⟩:=ho
   obtain⟨Hs,Hr,p1,p2,p3⟩:=h2.get h
   refine⟨Hs,Ht++Hr,?_,p2,fun s' Hs' h'=>?_⟩
   · refine (List.Perm.append_left Ht p1).trans ?_
     rw[← List.append_assoc,← List.append_assoc]
     exact List.perm_append_comm.append_right _
   · obtain⟨H',q1,q2⟩:=p3 s' Hs' h'
     refine⟨Ht++H',⟨Ht,H',rfl,h1,q1⟩,(List.Perm.append_left Ht q2).trans ?_⟩
     rw[← List.append_assoc,← List.append_assoc]
     exact List.perm_append_comm.append_right _
theorem ng_ {T:TypeId} {v:Vw}:∀ {l:List Stp} {H:Hp},jz_ T l H→(∀ p∈H,v.im p.1∧v.w.heap[p.1]? = some p.2)→(ax_ l).p v
 | [],_,_,_=>dO_
 | s::l,H,h,hv=>by
   obtain⟨Hs,Hr,rfl,h1,h2⟩:=h
   intro x hx
   rcases List.mem_cons.1 hx with rfl|hx
   · obtain⟨ad,cap,e,_,_,_,hr⟩:=lo_ h1 fun p hp=>hv p (List.mem_append_left _ hp)
     simp only[Value.slice.injEq]at e
     rw[e.1];exact hr
   · exact ng_ h2 (fun p hp=>hv p (List.mem_append_right _ hp)) x hx
end Go.Vs
namespace Go.Vs
open Go Go.Sx
def jc_ {α:Type} (l:List α) (i:Nat) (Q:Nat→α→Prop):Prop:=∀ j,j<i→∀ a,l[j]? = some a→Q j a
theorem jc_.zero {α:Type} {l:List α} {Q:Nat→α→Prop}:jc_ l 0 Q:=fun j hj=>by omega
theorem jc_.step {α:Type} {l:List α} {i:Nat} {Q:Nat→α→Prop} {a:α} (h:jc_ l i Q) (hr:l[i]? = some a) (hq:Q i a):jc_ l (i+1) Q:=fun j hj b hb=>by
 by_cases e:j=i
 ·subst e;rw[hr]at hb;cases hb;exact hq
 exact h j (by omega) b hb
theorem jc_.done {α:Type} {l:List α} {i:Nat} {Q:Nat→α→Prop} (h:jc_ l i Q) (hi:¬ (i:Int)<(l.length:Int)):∀ j a,l[j]? = some a→Q j a:=fun j a hj =>
  h j (by have:=(List.getElem?_eq_some_iff.1 hj).1;omega) a hj
theorem jc_.all {α:Type} {l:List α} {i:Nat} {Q:α→Prop} (h:jc_ l i fun _ a=>Q a) (hi:¬ (i:Int)<(l.length:Int)):∀ a∈l,Q a:=fun a ha=>by
  obtain⟨j,hj⟩:=List.getElem?_of_mem ha
  exact h.done hi j a hj
def en_ (l:List Stp):Prop:=l≠[]∧∀ (i:Nat) s,l[i]? = some s→∀ q∈s.frm,0≤q∧q<(i:Int)
def Fc.wf (f:Fc):Prop:=f.a≠[]∧((f.kind=1∧f.b≠[]∧f=C_ f.a f.b)∨(f.kind=2∧f.b≠[]∧f.r≠[]∧f=I_ f.a f.r f.b)∨(f.kind=3∧f.r≠[]∧f=T_ f.a f.r f.lo f.hi∧-1099511627776≤f.lo∧f.lo≤f.hi∧f.hi≤1099511627776))
end Go.Vs
