/-
  Part of the proof of the law CheckerTrusts over this seat: the small logic, the data, the contracts of functions (no condition).
-/
import Derived.Test.YtaffcjgphlhppaaGreatDoorQCheckerTrusts9
import Derived.Test.YtaffcjgphlhppaaGreatDoorQCheckerTrusts1
import Derived.Scope
import Derived.Test.YtaffcjgphlhppaaGreatDoorQCheckerTrusts2
import Derived.Test.YtaffcjgphlhppaaGreatDoorQCheckerTrusts3
import Derived.Maps.RangeRun
import Derived.Recover
import Derived.Test.YtaffcjgphlhppaaGreatDoorQCheckerTrusts7
import Derived.Lib.AppendStr
import Derived.Laws.BytesString
set_option linter.unusedVariables false
set_option linter.unusedSimpArgs false
set_option linter.unusedSectionVars false
set_option maxHeartbeats 1000000
namespace Go.Sx
open Go Go.Vs
theorem jS_ {P:Program} {f:FuncId} {args:Array Value} {H:Hp} {Γ Γ0:List Fct} {ι:Type} {ret:ι→Value} {H':ι→Hp} (B:Hp) (hT:Tri P f args H Γ ret H' (fun _=>[]))
    (hΓ:∀ v:Vw,(∀ p∈B,v.im p.1∧v.w.heap[p.1]? = some p.2)→aB_ Γ0 v→aB_ Γ v):Tri P f args (B++H) Γ0 ret (fun x=>B++H' x) (fun _=>[]):=by
  refine⟨hT.callable,fun v hs hv=>?_⟩;have hnd:=hs.nodup;rw[List.map_append,List.nodup_append]at hnd;have hlt:∀ p∈B,p.1<v.w.heap.size:=fun p hp=>(Array.getElem?_eq_some_iff.1 (hs.own p (List.mem_append_left _ hp)).1).1
  have h1:(⟨fun b=>v.im b∨b∈B.map Prod.fst,v.w,v.sl⟩:Vw).sat H:=by
    refine⟨fun p hp=>⟨(hs.own p (List.mem_append_right _ hp)).1,fun hi=>?_⟩,hnd.2.1,fun b hb=>?_⟩
    · rcases hi with hi|hi
      · exact (hs.own p (List.mem_append_right _ hp)).2 hi
      · exact hnd.2.2 _ hi _ (List.mem_map_of_mem hp) rfl
    · rcases hb with hb|hb
      · exact hs.lt b hb
      · obtain⟨p,hp,rfl⟩:=List.mem_map.1 hb
        exact hlt p hp
  have hle:v.le ⟨fun b=>v.im b∨b∈B.map Prod.fst,v.w,v.sl⟩:=⟨fun b h=>.inl h,fun _ _=>rfl,rfl⟩;have h2:=hΓ ⟨fun b=>v.im b∨b∈B.map Prod.fst,v.w,v.sl⟩ (fun p hp=>⟨.inr (List.mem_map_of_mem hp),(hs.own p (List.mem_append_left _ hp)).1⟩) (bt_ hle hv);refine (hT.run _ h1 h2).mono ?_;rintro e w' ⟨x,v',rfl,rfl,g1,_,g3⟩;have hB:∀ b,b∈B.map Prod.fst→v'.im b:=fun b hb=>g3.imUp b (.inr hb)
  refine⟨x,⟨fun b=>v'.im b∧b ∉ B.map Prod.fst,v'.w,v'.sl⟩,rfl,rfl,⟨fun p hp=>?_,?_,fun b hb=>g1.lt b hb.1⟩,trivial,?_⟩
  · rcases List.mem_append.1 hp with hp|hp
    · refine⟨?_,fun h=>h.2 (List.mem_map_of_mem hp)⟩
      have:=(g3.le h1).block p.1 (.inr (List.mem_map_of_mem hp));exact this.trans (hs.own p (List.mem_append_left _ hp)).1
    · exact⟨(g1.own p hp).1,fun h=>(g1.own p hp).2 h.1⟩
  · rw[List.map_append,List.nodup_append]
    refine⟨hnd.1,g1.nodup,fun a ha b hb e=>?_⟩;subst e;obtain⟨p,hp,rfl⟩:=List.mem_map.1 hb;exact (g1.own p hp).2 (hB _ ha)
  · refine⟨g3.os,g3.tape,g3.output,g3.size,fun b hb hn=>g3.block b hb (fun hm=>hn ?_),fun b hb=>⟨g3.imUp b (.inl hb),fun hm=>?_⟩,fun b hb=>?_,fun b hb=>?_,g3.sl,g3.dr⟩
    · rw[List.map_append];exact List.mem_append_right _ hm
    · obtain⟨p,hp,rfl⟩:=List.mem_map.1 hm
      exact (hs.own p (List.mem_append_left _ hp)).2 hb
    · rcases g3.imNew b hb.1 with (h|h)|h|h
      · exact .inl h
      · exact absurd h hb.2
      · exact .inr (.inl (by rw[List.map_append];exact List.mem_append_right _ h))
      · exact .inr (.inr h)
    · rw[List.map_append]at hb ⊢
      rcases List.mem_append.1 hb with h|h
      · exact .inl (List.mem_append_left _ h)
      · exact (g3.hNew b h).imp (List.mem_append_right _) id
structure KeyT (P:Program) (kt:TypeId) {K:Type} [DecidableEq K] (kv:K→Value):Prop where
  ok:∀ k,js_ P kt (kv k)
  nf:∀ (k:K) (es:List MapEntry) (ks:List K),es.map (·.key)=ks.map kv→k ∉ ks→eB_ P kt (kv k) es none
  sf:∀ (k:K) (es:List MapEntry) (ks:List K) (i:Nat) (e:MapEntry),es.map (·.key)=ks.map kv→ks.Nodup→ks[i]? = some k→es[i]? = some e→eB_ P kt (kv k) es (some (i,e.val))
  same:∀ k,Instr.sameBits 10000 (kv k) (kv k)=true
section
variable {P:Program}
theorem mR_ (a b:List UInt8):((⟨a.toArray⟩:ByteArray)==⟨b.toArray⟩)=decide (a=b):=by
  show (a.toArray==b.toArray)=_
  rw[Bool.eq_iff_iff];simp
theorem pR_ {kt:TypeId} (hu:P.underlying kt=some .string):KeyT P kt str where
  ok:=fun k e w=>by
    have key:∀ m,(Instr.checkKey e (m+1) kt (str k)).run P w=.ok () w:=fun m=>by simp[Instr.checkKey,run_underlying hu,str]
    exact key 9999
  nf:=fun k es ks h hk=>bD_ hu (by
    have:∀ (ks:List Str) (es:List MapEntry) (i:Nat),es.map (·.key)=ks.map str→k ∉ ks→Instr.findNow .string (str k) es i=some none:=by
      intro ks
      induction ks with
      | nil => intro es i h _; have : es = [] := by simpa using h
               subst this;rfl
      | cons q ks ih =>
        intro es i h hk;cases es with
        | nil=>simp at h
        | cons e es =>
          simp only[List.map_cons,List.cons.injEq]at h;simp only[List.mem_cons,not_or]at hk
          have hs:Instr.sameNow .string (str k) e.key=some false:=by
            rw[h.1];show some ((⟨k.toArray⟩:ByteArray)==⟨q.toArray⟩)=some false
            rw[mR_,decide_eq_false hk.1]
          simp only[Instr.findNow,hs];exact ih es (i+1) h.2 hk.2
    exact this ks es 0 h hk)
  sf:=fun k es ks i e h hn hi he=>bD_ hu (by
    have:∀ (ks:List Str) (es:List MapEntry) (j i:Nat),es.map (·.key)=ks.map str→ks.Nodup→ks[i]? = some k→es[i]? = some e→Instr.findNow .string (str k) es j=some (some (j+i,e.val)):=by
      intro ks
      induction ks with
      | nil=>intro es j i _ _ h;simp at h
      | cons q ks ih =>
        intro es j i h hn hi he;cases es with
        | nil=>simp at h
        | cons x es =>
          simp only[List.map_cons,List.cons.injEq]at h;rw[List.nodup_cons]at hn;cases i with
          | zero =>
            simp only[List.getElem?_cons_zero,Option.some.injEq]at hi he;subst hi;subst he
            have hs:Instr.sameNow .string (str q) x.key=some true:=by
              rw[h.1];show some ((⟨q.toArray⟩:ByteArray)==⟨q.toArray⟩)=some true
              rw[mR_,decide_eq_true rfl]
            simp only[Instr.findNow,hs,Nat.add_zero]
          | succ i =>
            simp only[List.getElem?_cons_succ]at hi he;have hne:k≠q:=fun e=>hn.1 (e▸List.mem_of_getElem? hi)
            have hs:Instr.sameNow .string (str k) x.key=some false:=by
              rw[h.1];show some ((⟨k.toArray⟩:ByteArray)==⟨q.toArray⟩)=some false
              rw[mR_,decide_eq_false hne]
            simp only[Instr.findNow,hs];rw[ih es (j+1) i h.2 hn.2 hi he,show j+1+i=j+(i+1) by omega]
    have:=this ks es 0 i h hn hi he;rwa [Nat.zero_add]at this)
  same:=fun k=>by
    have key:∀ m,Instr.sameBits m (str k) (str k)=true:=fun m=>by
      cases m<;>(show ((⟨k.toArray⟩:ByteArray)==⟨k.toArray⟩)=true;rw[mR_,decide_eq_true rfl])
    exact key 10000
theorem ha_ {K:Type} [DecidableEq K] {kt:TypeId} {fs:Array Field} {kv:K→Value} (hu:P.underlying kt=some (.struct fs)) (hok:∀ k,js_ P kt (kv k)) (heq:∀ p q w,(Op.equal kt (kv p) (kv q)).run P w=.ok (decide (p=q)) w) (hsame:∀ k,Instr.sameBits 10000 (kv k) (kv k)=true):KeyT P kt kv where
  ok:=hok
  nf:=fun k es ks h hk=>(ik_ hu heq k ks es h).1 hk
  sf:=fun k es ks i e h hn hi he=>by
    have key:∀ (ks:List K) (es:List MapEntry) (j i:Nat),es.map (·.key)=ks.map kv→ks.Nodup→ks[i]? = some k→es[i]? = some e→∀ w,(Instr.findAsking kt (kv k) es j).run P w=.ok (some (j+i,e.val)) w:=by
      intro ks
      induction ks with
      | nil=>intro es j i _ _ h;simp at h
      | cons q ks ih =>
        intro es j i h hn hi he w;cases es with
        | nil=>simp at h
        | cons x es =>
          simp only[List.map_cons,List.cons.injEq]at h;rw[List.nodup_cons]at hn;cases i with
          | zero =>
            simp only[List.getElem?_cons_zero,Option.some.injEq]at hi he;subst hi;subst he;simp only[Instr.findAsking,Sem.run_bind,h.1,heq,Result.andThen_ok,decide_true,if_true,Sem.run_pure,Nat.add_zero]
          | succ i =>
            simp only[List.getElem?_cons_succ]at hi he;have hne:k≠q:=fun e=>hn.1 (e▸List.mem_of_getElem? hi)
            simp only[Instr.findAsking,Sem.run_bind,h.1,heq,Result.andThen_ok,hne,decide_false,Bool.false_eq_true,if_false];rw[ih es (j+1) i h.2 hn.2 hi he w,show j+1+i=j+(i+1) by omega]
    intro w;have hnow:∀ (x:MapEntry) (r:List MapEntry),Instr.findNow (.struct fs) (kv k) (x::r) 0=none:=fun x r=>by simp[Instr.findNow,Instr.sameNow]
    cases es with
    | nil=>simp at he
    | cons x r =>
      simp only[Instr.findKey,Sem.run_bind,run_underlying hu,Result.andThen_ok,hnow];have:=key ks (x::r) 0 i h hn hi he w;rwa [Nat.zero_add]at this
  same:=hsame
end
theorem fV_ (n:Nat) {k:IntKind} (i:Int):Instr.sameBits n (.int k i) (.int k i)=true:=by
  cases n<;>simp[Instr.sameBits]
theorem ee_ (n:Nat) (s:List UInt8):Instr.sameBits n (str s) (str s)=true:=by
  cases n<;>(show ((⟨s.toArray⟩:ByteArray)==⟨s.toArray⟩)=true;rw[mR_,decide_eq_true rfl])
theorem jX_ {n:Nat} {l:List Value} (h:∀ v∈l,Instr.sameBits n v v=true):Instr.sameBits (n+1) (.agg l.toArray) (.agg l.toArray)=true:=by
 simp only[Instr.sameBits,BEq.rfl,Bool.true_and,List.all_eq_true];intro p hp
 have:∀ (l:List Value),(∀ v∈l,Instr.sameBits n v v=true)→∀ p∈l.zip l,Instr.sameBits n p.1 p.2=true:=by
   intro l
   induction l with
   | nil=>intro _ p hp;simp at hp
   | cons a l ih =>
     intro h p hp;simp only[List.zip_cons_cons,List.mem_cons]at hp;rcases hp with rfl|hp
     · exact h a (by simp)
     · exact ih (fun v hv=>h v (by simp[hv])) p hp
 exact this l h p hp
structure Born (es:Array MapEntry) (c:Nat):Prop where
  lt:∀ x∈es.toList,x.born<c
  nd:(es.toList.map (·.born)).Nodup
theorem Born.nil (c:Nat):Born #[] c:=⟨by simp,by simp⟩
theorem Born.push {es:Array MapEntry} {c:Nat} (h:Born es c) (key val:Value):Born (es.push ⟨key,val,c⟩) (c+1):=by
 refine⟨fun x hx=>?_,?_⟩
 ·rw[Array.toList_push,List.mem_append]at hx
  rcases hx with hx|hx
  ·exact Nat.lt_succ_of_lt (h.lt x hx)
  rw[List.mem_singleton]at hx;rw[hx];exact Nat.lt_succ_self _
 rw[Array.toList_push,List.map_append,List.nodup_append];refine⟨h.nd,by simp,fun a ha b hb e=>?_⟩;obtain⟨x,hx,rfl⟩:=List.mem_map.1 ha;simp at hb
 have:=h.lt x hx;omega
theorem Born.modify {es:Array MapEntry} {c:Nat} (h:Born es c) (i:Nat) (f:MapEntry→MapEntry) (hf:∀ e,(f e).born=e.born):Born (es.modify i f) c:=by
 have hb:(es.modify i f).toList.map (·.born)=es.toList.map (·.born):=by
   apply List.ext_getElem?
   intro j;simp only[List.getElem?_map,Array.getElem?_toList,Array.getElem?_modify]
   split
   · cases es[j]? <;> simp[hf]
   · rfl
 refine⟨fun x hx=>?_,by rw[hb];exact h.nd⟩;have:x.born∈(es.modify i f).toList.map (·.born):=List.mem_map_of_mem hx;rw[hb]at this;obtain⟨y,hy,e⟩:=List.mem_map.1 this;rw[← e];exact h.lt y hy
theorem Born.find {es:Array MapEntry} {c i:Nat} {x:MapEntry} (h:Born es c) (hx:es[i]? = some x):es.findIdx? (fun e=>(e.born:Int)==(x.born:Int))=some i:=by
  rw[Array.findIdx?_eq_some_iff_getElem];obtain⟨hi,rfl⟩:=Array.getElem?_eq_some_iff.1 hx;refine⟨hi,by simp,fun j hj=>?_⟩;simp only[beq_eq_false_iff_ne,ne_eq,Bool.not_eq_true];intro e;have hji:j<es.size:=Nat.lt_trans hj hi;have:=h.nd;rw[List.nodup_iff_pairwise_ne,List.pairwise_iff_getElem]at this;have:=this j i (by simpa using hji) (by simpa using hi) hj;simp at this
  exact this (by exact_mod_cast e)
section
variable {K D:Type} [DecidableEq K] (kv:K→Value) (cells:D→List Value) (e:TypeId) (sz:Nat) (l:List (K×D))
def hO_:List K→List MapEntry→Hp→Prop
  | [],[],H=>H=[]
  | k::ks,x::es,H=>∃ Hk Hr,H=Hk++Hr∧x.key=kv k∧bk_ e sz x.val (lat l k).length ((lat l k).flatMap cells) Hk∧hO_ ks es Hr
  | _,_,_=>False
def ey_ (mb:Nat) (H:Hp):Prop:=∃ ks es c Hr,H=(mb,.map es c)::Hr∧ks.Nodup∧(∀ x∈l,x.1∈ks)∧hO_ kv cells e sz l ks es.toList Hr∧Born es c
end
section
variable {K D:Type} [DecidableEq K] {kv:K→Value} {cells:D→List Value} {e:TypeId} {sz:Nat} {l:List (K×D)}
theorem hO_.keys:∀ {ks:List K} {es:List MapEntry} {H:Hp},hO_ kv cells e sz l ks es H→es.map (·.key)=ks.map kv
  | [],[],_,_=>rfl
  | k::ks,x::es,_,h=>by
    obtain⟨Hk,Hr,_,h1,_,h2⟩:=h;simp[h1,h2.keys]
  | [],_::_,_,h=>h.elim
  | _::_,[],_,h=>h.elim
theorem hO_.congr {l':List (K×D)}:∀ {ks:List K} {es:List MapEntry} {H:Hp},(∀ k∈ks,lat l' k=lat l k)→hO_ kv cells e sz l ks es H→hO_ kv cells e sz l' ks es H
  | [],[],_,_,h=>h
  | k::ks,x::es,_,hl,h=>by
    obtain⟨Hk,Hr,h0,h1,h2,h3⟩:=h;exact⟨Hk,Hr,h0,h1,by rw[hl k (by simp)];exact h2,h3.congr fun q hq=>hl q (by simp[hq])⟩
  | [],_::_,_,_,h=>h.elim
  | _::_,[],_,_,h=>h.elim
theorem hO_.get : ∀ {ks : List K} {es : List MapEntry} {H : Hp} {i : Nat} {k : K}, hO_ kv cells e sz l ks es H → ks.Nodup → ks[i]? = some k → ∃ x Hk Hr, es[i]? = some x ∧ H.Perm (Hk ++ Hr) ∧ x.key = kv k ∧ bk_ e sz x.val (lat l k).length ((lat l k).flatMap cells) Hk ∧
      ∀ (l':List (K×D)) (y:MapEntry) (Hk':Hp),y.key=kv k→(∀ q,q≠k→lat l' q=lat l q)→bk_ e sz y.val (lat l' k).length ((lat l' k).flatMap cells) Hk'→∃ H',hO_ kv cells e sz l' ks (es.set i y) H'∧H'.Perm (Hk'++Hr)
  | [],_,_,_,_,_,_,h=>by simp at h
  | _::_,[],_,_,_,h,_,_=>h.elim
  | q::ks,x::es,H,0,k,h,hn,hi=>by
    simp only[List.getElem?_cons_zero,Option.some.injEq]at hi;subst hi;rw[List.nodup_cons]at hn;obtain⟨Hk,Hr,h0,h1,h2,h3⟩:=h;exact⟨x,Hk,Hr,rfl,h0▸.refl _,h1,h2,fun l' y Hk' g1 g2 g3=>⟨Hk'++Hr,⟨Hk',Hr,rfl,g1,g3,h3.congr fun z hz=>g2 z (fun e=>hn.1 (e▸hz))⟩,.refl _⟩⟩
  | q::ks,x::es,H,i+1,k,h,hn,hi=>by
    simp only[List.getElem?_cons_succ]at hi;rw[List.nodup_cons]at hn;obtain⟨Hq,Ho,h0,h1,h2,h3⟩:=h;obtain⟨y,Hk,Hr,i1,i2,i3,i4,i5⟩:=h3.get hn.2 hi;have hne:q≠k:=fun e=>hn.1 (e▸List.mem_of_getElem? hi)
    refine⟨y,Hk,Hq++Hr,i1,?_,i3,i4,fun l' z Hk' g1 g2 g3=>?_⟩
    · rw[h0]
      refine (List.Perm.append_left Hq i2).trans ?_;rw[← List.append_assoc,← List.append_assoc];exact List.perm_append_comm.append_right _
    · obtain⟨H',j1,j2⟩:=i5 l' z Hk' g1 g2 g3
      refine⟨Hq++H',⟨Hq,H',rfl,h1,by rw[g2 q hne];exact h2,j1⟩,(List.Perm.append_left Hq j2).trans ?_⟩;rw[← List.append_assoc,← List.append_assoc];exact List.perm_append_comm.append_right _
theorem hO_.push:∀ {ks:List K} {es:List MapEntry} {H:Hp} {k:K} {x:MapEntry} {Hk:Hp},hO_ kv cells e sz l ks es H→x.key=kv k→bk_ e sz x.val (lat l k).length ((lat l k).flatMap cells) Hk→hO_ kv cells e sz l (ks++[k]) (es++[x]) (H++Hk)
  | [],[],_,k,x,Hk,h,h1,h2=>by subst h;exact⟨Hk,[],by simp,h1,h2,rfl⟩
  | q::ks,y::es,_,k,x,Hk,h,h1,h2=>by
    obtain⟨Hq,Hr,rfl,g1,g2,g3⟩:=h;exact⟨Hq,Hr++Hk,by simp,g1,g2,g3.push h1 h2⟩
  | [],_::_,_,_,_,_,h,_,_=>h.elim
  | _::_,[],_,_,_,_,h,_,_=>h.elim
theorem je_ {k q:K} {d:D} (h:q≠k):lat (l++[(k,d)]) q=lat l q:=by
  rw[mw_];simp[lat,Ne.symm h]
theorem dF_ {k:K} {d:D}:lat (l++[(k,d)]) k=lat l k++[d]:=by
  rw[mw_];simp[lat]
theorem ey_.open {P:Program} {kt:TypeId} (hK:KeyT P kt kv) {mb:Nat} {H:Hp} (h:ey_ kv cells e sz l mb H) (k:K) :
    ∃ es c sv Hk Hr,H.Perm ((mb,.map es c)::(Hk++Hr))∧bk_ e sz sv (lat l k).length ((lat l k).flatMap cells) Hk ∧
      ((eB_ P kt (kv k) es.toList none∧sv=.slice none 0 0∧∀ d sv' Hk',bk_ e sz sv' (lat (l++[(k,d)]) k).length ((lat (l++[(k,d)]) k).flatMap cells) Hk'→∃ H',ey_ kv cells e sz (l++[(k,d)]) mb H'∧H'.Perm ((mb,.map (es.push ⟨kv k,sv',c⟩) (c+1))::(Hk'++Hr))) ∨
       (∃ i x,eB_ P kt (kv k) es.toList (some (i,sv))∧es[i]? = some x∧x.key=kv k∧x.val=sv∧∀ d sv' Hk',bk_ e sz sv' (lat (l++[(k,d)]) k).length ((lat (l++[(k,d)]) k).flatMap cells) Hk'→∃ H',ey_ kv cells e sz (l++[(k,d)]) mb H'∧H'.Perm ((mb,.map (es.modify i fun y=>{ y with key:=kv k,val:=sv' }) c)::(Hk'++Hr)))):=by
  obtain⟨ks,es,c,Ho,rfl,hn,hl,hm,hbn⟩:=h
  by_cases hk:k∈ks
  · obtain⟨i,hi⟩:=List.getElem?_of_mem hk
    obtain⟨x,Hk,Hr,g1,g2,g3,g4,g5⟩:=hm.get hn hi;have hx:es[i]? = some x:=by rw[← Array.getElem?_toList];exact g1
    refine⟨es,c,x.val,Hk,Hr,.cons _ g2,g4,.inr ⟨i,x,hK.sf k es.toList ks i x hm.keys hn hi g1,hx,g3,rfl,fun d sv' Hk' hs=>?_⟩⟩;obtain⟨H',j1,j2⟩:=g5 (l++[(k,d)]) { x with key:=kv k,val:=sv' } Hk' rfl (fun q hq=>je_ hq) hs;refine⟨(mb,.map (es.modify i fun y=>{ y with key:=kv k,val:=sv' }) c)::H',⟨ks,_,c,H',rfl,hn,fun y hy=>?_,?_,hbn.modify i _ fun _=>rfl⟩,.cons _ j2⟩
    · rcases List.mem_append.1 hy with hy|hy
      · exact hl y hy
      · simp at hy;rw[hy];exact hk
    · have e1:(es.modify i fun y=>{ y with key:=kv k,val:=sv' }).toList=es.toList.set i { x with key:=kv k,val:=sv' }:=by
        apply List.ext_getElem?
        intro j;rw[Array.getElem?_toList,Array.getElem?_modify,List.getElem?_set,Array.getElem?_toList]
        by_cases hij:i=j
        · subst hij
          have hlt:i<es.toList.length:=(List.getElem?_eq_some_iff.1 g1).1;simp only[if_true,hx,Option.map_some,if_pos hlt]
        · simp[hij]
      rw[e1];exact j1
  · have hlat:lat l k=[]:=by
      apply List.eq_nil_iff_forall_not_mem.2
      intro d hd;exact hk (hl _ (cS_.1 hd))
    refine⟨es,c,.slice none 0 0,[],Ho,.refl _,by rw[hlat];exact bk_.nil _ _,.inl ⟨hK.nf k es.toList ks hm.keys hk,rfl,fun d sv' Hk' hs=>?_⟩⟩;refine⟨(mb,.map (es.push ⟨kv k,sv',c⟩) (c+1))::(Ho++Hk'),⟨ks++[k],_,_,_,rfl,?_,fun y hy=>?_,?_,hbn.push _ _⟩,.cons _ List.perm_append_comm⟩
    · rw[List.nodup_append];exact⟨hn,by simp,fun a ha b hb e=>by simp at hb;subst hb;subst e;exact hk ha⟩
    · rcases List.mem_append.1 hy with hy|hy
      · exact List.mem_append_left _ (hl y hy)
      · simp at hy;simp[hy]
    · rw[Array.toList_push]
      exact (hm.congr fun q hq=>je_ (fun (e:q=k)=>hk (e▸hq))).push rfl hs
structure MOpn (kv:K→Value) (cells:D→List Value) (e:TypeId) (sz:Nat) (l:List (K×D)) (mb:Nat) (k:K) (es:Array MapEntry) (c i:Nat) (st:Int) (Hr:Hp):Prop where
  find:es.findIdx? (fun x=>(x.born:Int)==st)=some i
  close:∀ d sv' Hk',bk_ e sz sv' (lat (l++[(k,d)]) k).length ((lat (l++[(k,d)]) k).flatMap cells) Hk'→∃ H',ey_ kv cells e sz (l++[(k,d)]) mb H'∧H'.Perm ((mb,.map (es.modify i fun y=>{ y with val:=sv' }) c)::(Hk'++Hr))
theorem qK_ {es:Array MapEntry} {i:Nat} {x:MapEntry} {key:Value} (hx:es[i]? = some x) (hk:x.key=key):(es.modify i fun y=>{ y with key:=key })=es:=by
 apply Array.ext_getElem?
 intro j;rw[Array.getElem?_modify]
 by_cases hij:i=j
 ·subst hij;rw[if_pos rfl,hx];simp only[Option.map_some];rw[← hk]
 rw[if_neg hij]
theorem ey_.entry {P:Program} {kt:TypeId} (hK:KeyT P kt kv) {mb:Nat} {H:Hp} (h:ey_ kv cells e sz l mb H) (k:K) :
    ∃ es c es' c' i st sv Hk Hr,H.Perm ((mb,.map es c)::(Hk++Hr))∧bk_ e sz sv (lat l k).length ((lat l k).flatMap cells) Hk∧MOpn kv cells e sz l mb k es' c' i st Hr ∧
      ((eB_ P kt (kv k) es.toList none∧sv=.slice none 0 0∧es'=es.push ⟨kv k,.slice none 0 0,c⟩∧c'=c+1∧st=(c:Int))∨(∃ j x,eB_ P kt (kv k) es.toList (some (j,sv))∧es[j]? = some x∧x.key=kv k∧es'=es∧c'=c∧st=(x.born:Int))):=by
  have h0:=h;obtain⟨ks,es,c,Ho,rfl,hn,hl,hm,hbn⟩:=h0
  by_cases hk:k∈ks
  · obtain⟨i,hi⟩:=List.getElem?_of_mem hk
    obtain⟨x,Hk,Hr,g1,g2,g3,g4,g5⟩:=hm.get hn hi;have hx:es[i]? = some x:=by rw[← Array.getElem?_toList];exact g1
    refine⟨es,c,es,c,i,x.born,x.val,Hk,Hr,.cons _ g2,g4,⟨hbn.find hx,fun d sv' Hk' hs=>?_⟩,.inr ⟨i,x,hK.sf k es.toList ks i x hm.keys hn hi g1,hx,g3,rfl,rfl,rfl⟩⟩;obtain⟨H',j1,j2⟩:=g5 (l++[(k,d)]) { x with key:=kv k,val:=sv' } Hk' rfl (fun q hq=>je_ hq) hs;refine⟨(mb,.map (es.modify i fun y=>{ y with val:=sv' }) c)::H',⟨ks,_,c,H',rfl,hn,fun y hy=>?_,?_,hbn.modify i _ fun _=>rfl⟩,.cons _ j2⟩
    · rcases List.mem_append.1 hy with hy|hy
      · exact hl y hy
      · simp at hy;rw[hy];exact hk
    · have e1:(es.modify i fun y=>{ y with val:=sv' }).toList=es.toList.set i { x with key:=kv k,val:=sv' }:=by
        apply List.ext_getElem?
        intro j;rw[Array.getElem?_toList,Array.getElem?_modify,List.getElem?_set,Array.getElem?_toList]
        by_cases hij:i=j
        · subst hij
          have hlt:i<es.toList.length:=(List.getElem?_eq_some_iff.1 g1).1;simp only[if_true,hx,Option.map_some,if_pos hlt];rw[← g3]
        · simp[hij]
      rw[e1];exact j1
  · have hlat:lat l k=[]:=by
      apply List.eq_nil_iff_forall_not_mem.2
      intro d hd;exact hk (hl _ (cS_.1 hd))
    have hb2:=hbn.push (kv k) (.slice none 0 0);have hget:(es.push ⟨kv k,.slice none 0 0,c⟩)[es.size]? = some ⟨kv k,.slice none 0 0,c⟩:=by simp
    refine⟨es,c,es.push ⟨kv k,.slice none 0 0,c⟩,c+1,es.size,(c:Int),.slice none 0 0,[],Ho,.refl _,by rw[hlat];exact bk_.nil _ _,⟨hb2.find hget,fun d sv' Hk' hs=>?_⟩,.inl ⟨hK.nf k es.toList ks hm.keys hk,rfl,rfl,rfl,rfl⟩⟩
    have e2:((es.push ⟨kv k,.slice none 0 0,c⟩).modify es.size fun y=>{ y with val:=sv' })=es.push ⟨kv k,sv',c⟩:=by
      apply Array.ext_getElem?
      intro j;rw[Array.getElem?_modify,Array.getElem?_push,Array.getElem?_push]
      by_cases hj:j=es.size
      · subst hj;simp
      · rw[if_neg (fun q=>hj q.symm),if_neg hj,if_neg hj]
    rw[e2];refine⟨(mb,.map (es.push ⟨kv k,sv',c⟩) (c+1))::(Ho++Hk'),⟨ks++[k],_,_,_,rfl,?_,fun y hy=>?_,?_,hbn.push _ _⟩,.cons _ List.perm_append_comm⟩
    · rw[List.nodup_append];exact⟨hn,by simp,fun a ha b hb e=>by simp at hb;subst hb;subst e;exact hk ha⟩
    · rcases List.mem_append.1 hy with hy|hy
      · exact List.mem_append_left _ (hl y hy)
      · simp at hy;simp[hy]
    · rw[Array.toList_push]
      exact (hm.congr fun q hq=>je_ (fun (e:q=k)=>hk (e▸hq))).push rfl hs
theorem ey_.nil (mb:Nat) (c:Nat):ey_ kv cells e sz ([]:List (K×D)) mb [(mb,.map #[] c)]:=⟨[],#[],c,[],rfl,List.nodup_nil,by simp,rfl,Born.nil c⟩
def mlF (P:Program) (kt:TypeId) (kv:K→Value) (cells:D→List Value) (mb:Nat) (l:List (K×D)) (adr:K→Option Addr×Nat):Fct where
  p:=fun v=>v.im mb∧∃ es c,v.w.heap[mb]? = some (.map es c)∧∀ k,bH_ v (adr k).1 ((lat l k).flatMap cells) ∧
    ((eB_ P kt (kv k) es.toList none∧Value.slice (adr k).1 (lat l k).length (adr k).2=.slice none 0 0)∨∃ i,eB_ P kt (kv k) es.toList (some (i,.slice (adr k).1 (lat l k).length (adr k).2)))
  mono:=fun v v' h ⟨h1,es,c,h2,h3⟩=>⟨h.imUp mb h1,es,c,by rw[h.block mb h1];exact h2,fun k=>⟨(aC_ _ _).mono v v' h (h3 k).1,(h3 k).2⟩⟩
theorem bE_ {P:Program} {kt:TypeId} {mb:Nat} {adr:K→Option Addr×Nat} {v:Vw} (h:(mlF P kt kv cells mb l adr).p v) (k:K):bH_ v (adr k).1 ((lat l k).flatMap cells):=by
  obtain⟨_,_,_,_,h⟩:=h;exact (h k).1
theorem nq_ {sv:Value} {n:Nat} {xs:List Value} {Hr:Hp} {v:Vw} (h:bk_ e sz sv n xs Hr) (hv:∀ p∈Hr,v.im p.1∧v.w.heap[p.1]? = some p.2):∃ ad cap,sv=.slice ad n cap∧n≤cap∧cap≤maxLen∧(n≠0→∃ b,ad=some ⟨b,0,none⟩)∧bH_ v ad xs:=by
 rcases h.2 with⟨rfl,rfl,rfl⟩|⟨g,cap,cur,rfl,rfl,h3,h4,h5,h6⟩
 ·have:xs=[]:=List.eq_nil_of_length_eq_zero (by simpa using h.1)
  exact⟨none,0,rfl,Nat.le_refl _,by simp[maxLen],fun h=>absurd rfl h,.inl this⟩
 obtain⟨g1,g2⟩:=hv _ (List.mem_singleton.2 rfl);refine⟨some ⟨g,0,none⟩,cap,rfl,h3,h4,fun _=>⟨g,rfl⟩,.inr ⟨g,0,cur,e,(0,0),rfl,g1,g2,fun j x hj=>?_⟩⟩;rw[← h6,List.getElem?_take]at hj
 split at hj
 ·rw[Nat.zero_add,← Array.getElem?_toList];exact hj
 cases hj
theorem ey_.lent {P:Program} {kt:TypeId} (hK:KeyT P kt kv) {mb:Nat} {H:Hp} (h:ey_ kv cells e sz l mb H):∃ adr,∀ v:Vw,(∀ p∈H,v.im p.1∧v.w.heap[p.1]? = some p.2)→(mlF P kt kv cells mb l adr).p v:=by
 have h0:=h;obtain⟨ks,es,c,Ho,rfl,hn,hl,hm,_⟩:=h0
 have key:∀ k,∃ q:Option Addr×Nat,∀ v:Vw,(∀ p∈(mb,Obj.map es c)::Ho,v.im p.1∧v.w.heap[p.1]? = some p.2)→bH_ v q.1 ((lat l k).flatMap cells)∧((eB_ P kt (kv k) es.toList none∧Value.slice q.1 (lat l k).length q.2=.slice none 0 0)∨∃ i,eB_ P kt (kv k) es.toList (some (i,.slice q.1 (lat l k).length q.2))):=fun k=>by
   by_cases hk:k∈ks
   · obtain⟨i,hi⟩:=List.getElem?_of_mem hk
     obtain⟨x,Hk,Hr,g1,g2,g3,g4,_⟩:=hm.get hn hi;have hf:=hK.sf k es.toList ks i x hm.keys hn hi g1
     have hsl:∃ ad cap,x.val=.slice ad (lat l k).length cap:=by
       rcases g4.2 with⟨q1,q2,_⟩|⟨g,cap,cur,q1,_⟩
       · exact⟨none,0,by rw[q1,q2]⟩
       · exact⟨_,cap,q1⟩
     obtain⟨ad,cap,hx⟩:=hsl;refine⟨(ad,cap),fun v hv=>⟨?_,.inr ⟨i,by rw[← hx];exact hf⟩⟩⟩;obtain⟨ad',cap',e1,_,_,_,hr⟩:=nq_ g4 fun p hp=>hv p (List.mem_cons_of_mem _ (g2.mem_iff.2 (List.mem_append_left _ hp)))
     rw[hx]at e1;simp only[Value.slice.injEq]at e1;rw[e1.1];exact hr
   · have hlat:lat l k=[]:=by
       apply List.eq_nil_iff_forall_not_mem.2
       intro d hd;exact hk (hl _ (cS_.1 hd))
     exact⟨(none,0),fun v hv=>⟨.inl (by rw[hlat];rfl),.inl ⟨hK.nf k es.toList ks hm.keys hk,by rw[hlat];rfl⟩⟩⟩
 refine⟨fun k=>(key k).choose,fun v hv=>?_⟩;obtain⟨g1,g2⟩:=hv _ List.mem_cons_self;exact⟨g1,es,c,g2,fun k=>(key k).choose_spec v hv⟩
end
section
variable {P:Program} {K:Type} [DecidableEq K] {kv:K→Value} {kt:TypeId}
structure SetE (kv:K→Value) (es:Array MapEntry) (q:List K):Prop where
  keys:es.toList.map (·.key)=q.map kv
  vals:∀ x∈es.toList,x.val=.bool true
  nd:q.Nodup
theorem SetE.nil:SetE kv #[] ([]:List K):=⟨rfl,by simp,List.nodup_nil⟩
theorem SetE.size {es:Array MapEntry} {q:List K} (h:SetE kv es q):es.size=q.length:=by
  have:=congrArg List.length h.keys;simpa using this
theorem SetE.yes (hK:KeyT P kt kv) {es:Array MapEntry} {q:List K} (h:SetE kv es q) {k:K} (hk:k∈q):∃ i x,q[i]? = some k∧es[i]? = some x∧x.key=kv k∧x.val=.bool true∧eB_ P kt (kv k) es.toList (some (i,.bool true)):=by
  obtain⟨i,hi⟩:=List.getElem?_of_mem hk
  have hlt:i<es.toList.length:=by
    have:=(List.getElem?_eq_some_iff.1 hi).1;have e:=congrArg List.length h.keys;simp at e this ⊢;omega
  have hx:=List.getElem?_eq_getElem hlt;have hv:=h.vals _ (List.getElem_mem hlt)
  have hkey:es.toList[i].key=kv k:=by
    have:=congrArg (fun l=>l[i]?) h.keys;simp only[List.getElem?_map,hx,hi,Option.map_some,Option.some.injEq]at this;exact this
  refine⟨i,es.toList[i],hi,by rw[← Array.getElem?_toList];exact hx,hkey,hv,?_⟩;have:=hK.sf k es.toList q i _ h.keys h.nd hi hx;rwa [hv]at this
theorem SetE.no (hK:KeyT P kt kv) {es:Array MapEntry} {q:List K} (h:SetE kv es q) {k:K} (hk:k ∉ q):eB_ P kt (kv k) es.toList none:=hK.nf k es.toList q h.keys hk
theorem SetE.push {es:Array MapEntry} {q:List K} (h:SetE kv es q) {k:K} (hk:k ∉ q) (c:Nat):SetE kv (es.push ⟨kv k,.bool true,c⟩) (q++[k]):=by
 refine⟨by simp[h.keys],fun x hx=>?_,?_⟩
 ·rw[Array.toList_push,List.mem_append]at hx
  rcases hx with hx|hx
  ·exact h.vals x hx
  simp at hx;rw[hx]
 rw[List.nodup_append];exact⟨h.nd,by simp,fun a ha b hb e=>by simp at hb;subst hb;subst e;exact hk ha⟩
end
section ops
variable {P:Program} {N:Nf} {v0:Vw} {H0:Hp} {R:Exit→Act→World→Prop} {Kk:List Kt} {fr:Fr} {H:Hp} {Γ:List Fct}
variable {ops:Array Oper} {lo:List Oper} {d:Nat} {ty:TypeId} {ps:String} {af:Array Edge}
variable {K D:Type} [DecidableEq K] {kv:K→Value} {cells:D→List Value}
theorem cu_ {t kt et:TypeId} {x y:Operand} {mb:Nat} {l:List (K×D)} {adr:K→Option Addr×Nat} {k:K} (hK:KeyT P kt kv) (hu:∀ w,(underlying t).run P w=.ok (.map kt et) w) (hz:∀ w,(zeroValue et).run P w=.ok (.slice none 0 0) w) (hx:Fr.ev fr x=some (.map (some mb))) (hy:Fr.ev fr y=some (kv k))
    (hm:∀ v,v.sat H→aB_ Γ v→(mlF P kt kv cells mb l adr).p v):Yld P N fr H Γ (.lookup t x y false) ty (.slice (adr k).1 (lat l k).length (adr k).2) :=
  fun a v h1 h2 h4 _ _ _=>by
    obtain⟨_,es,c,g1,g2⟩:=hm v h2 h4;have hb:=MapKept.run_getObj_map (P:=P) g1;rcases (g2 k).2 with⟨q5,q6⟩|⟨i,q5⟩
    · rw[q6];simp[execOp,h1.ev hx,h1.ev hy,Instr.lookup,hu,hb,hK.ok _ _ _,q5 _,hz]
    · simp[execOp,h1.ev hx,h1.ev hy,Instr.lookup,hu,hb,hK.ok _ _ _,q5 _]
theorem eD_ {t kt et:TypeId} {x y:Operand} {mb c:Nat} {es:Array MapEntry} {q:List K} {k:K} (hK:KeyT P kt kv) (hu:∀ w,(underlying t).run P w=.ok (.map kt et) w) (hz:∀ w,(zeroValue et).run P w=.ok (.bool false) w) (hx:Fr.ev fr x=some (.map (some mb))) (hy:Fr.ev fr y=some (kv k))
    (hq:SetE kv es q) (hm:∀ v,v.sat H→aB_ Γ v→v.w.heap[mb]? = some (.map es c)):Yld P N fr H Γ (.lookup t x y false) ty (.bool (decide (k∈q))):=by
  by_cases hk:k∈q
  · obtain⟨i,_,_,_,_,_,hf⟩:=hq.yes hK hk
    rw[decide_eq_true hk];exact hQ_ hu hx hy hm (hK.ok k) hf
  · rw[decide_eq_false hk]
    exact hP_ hu hz hx hy hm (hK.ok k) (hq.no hK hk)
theorem tc_ {t kt et:TypeId} {x:Operand} {mb c:Nat} {es:Array MapEntry} (hu:∀ w,(underlying t).run P w=.ok (.map kt et) w) (hx:Fr.ev fr x=some (.map (some mb))) (hm:∀ v,v.sat H→aB_ Γ v→v.w.heap[mb]? = some (.map es c)) :
    Yld P N fr H Γ (.call ⟨.builtin .len,#[x],#[t]⟩) ty (.int .i64 (es.size:Int)) :=
  fun a v h1 h2 h4 _ _ _=>by
    have hb:=MapKept.run_getObj_map (P:=P) (hm v h2 h4);simp[execOp,resolve,invoke,builtin,Builtin.len_,h1.ev hx,hu,hb,goInt]
theorem mi_ {o:Op} {t kt et:TypeId} {x y z:Operand} {b c i:Nat} (n:Nat) {es:Array MapEntry} {e:MapEntry} {k:K} {u u':Value} (hK:KeyT P kt kv) (ho:o=.insert t x y z∨o=.mapUpdate t x y z) (hu:∀ w,(underlying t).run P w=.ok (.map kt et) w)
    (hx:Fr.ev fr x=some (.map (some b))) (hy:Fr.ev fr y=some (kv k)) (hz:Fr.ev fr z=some u) (hi:H[n]? = some (b,.map es c)) (hf:eB_ P kt (kv k) es.toList (some (i,u'))) (he:es[i]? = some e) (hek:e.key=kv k)
    (hkk:Ops P R N v0 H0 ops lo Kk fr (H.set n (b,.map (es.modify i fun y=>{ y with key:=kv k,val:=u }) c)) Γ):Ops P R N v0 H0 ops (⟨none,o,ty,ps,af,none⟩::lo) Kk fr H Γ :=
  df_ rfl fun a v h1 h2 h3 h4=>by
    have hb:=(h2.own _ (List.mem_of_getElem? hi)).1;have hg:=MapKept.run_getObj_map (P:=P) hb;have hs:=MapKept.run_setObj_map (P:=P) (.map (es.modify i fun y=>{ y with key:=kv k,val:=u }) c) hb
    have he:(execOp a.eval ⟨none,o,ty,ps,af,none⟩).run P v.w=.ok .skip { v.w with heap:=v.w.heap.setIfInBounds b (.map (es.modify i fun y=>{ y with key:=kv k,val:=u }) c) }:=by
      rcases ho with rfl|rfl<;>simp[execOp,h1.ev hx,h1.ev hy,h1.ev hz,Instr.mapUpdate,hu,hg,hK.ok _ _ _,hf _,hs,Instr.keyThatStays,he,hek,hK.same]
    unfold Oper.wp;rw[he];have hh:=MapKept.heap_set (o':=.map (es.modify i fun y=>{ y with key:=kv k,val:=u }) c) hb;obtain⟨g1,g2⟩:=fO_ (w':={ v.w with heap:=v.w.heap.setIfInBounds b (.map (es.modify i fun y=>{ y with key:=kv k,val:=u }) c) }) h2 hi rfl rfl rfl (Nat.le_refl _) (by simp) hh.1 (fun k hk=>hh.2 k hk);exact hkk a _ h1 g1 (h3.trans g2) (bt_ (g2.le h2) h4)
theorem pH_ {es:Array MapEntry} {i:Nat} {e:MapEntry} {key val:Value} (he:es[i]? = some e) (hk:e.key=key) (hv:e.val=val):(es.modify i fun y=>{ y with key:=key,val:=val })=es:=by
 apply Array.ext_getElem?
 intro j;rw[Array.getElem?_modify]
 by_cases hij:i=j
 ·subst hij;rw[if_pos rfl,he];simp only[Option.map_some];rw[← hk,← hv]
 rw[if_neg hij]
theorem hw_ {o:Op} {t kt et:TypeId} {x y z:Operand} {b c:Nat} (n:Nat) {es:Array MapEntry} {q:List K} {k:K} (hK:KeyT P kt kv) (ho:o=.insert t x y z∨o=.mapUpdate t x y z) (hu:∀ w,(underlying t).run P w=.ok (.map kt et) w)
    (hx:Fr.ev fr x=some (.map (some b))) (hy:Fr.ev fr y=some (kv k)) (hz:Fr.ev fr z=some (.bool true)) (hi:H[n]? = some (b,.map es c)) (hq:SetE kv es q)
    (hkk:∀ es' c',SetE kv es' (if k∈q then q else q++[k])→Ops P R N v0 H0 ops lo Kk fr (H.set n (b,.map es' c')) Γ):Ops P R N v0 H0 ops (⟨none,o,ty,ps,af,none⟩::lo) Kk fr H Γ:=by
  by_cases hk:k∈q
  · obtain⟨i,e,g1,g2,g3,g4,g5⟩:=hq.yes hK hk
    refine mi_ n hK ho hu hx hy hz hi g5 g2 g3 ?_;rw[pH_ g2 g3 g4];exact hkk es c (by rw[if_pos hk];exact hq)
  · exact bP_ n ho hu hx hy hz hi (hK.ok k) (hq.no hK hk) (hkk _ _ (by rw[if_neg hk];exact hq.push hk c))
theorem eh_ {t kt et:TypeId} {x y:Operand} {mb:Nat} {e:TypeId} {sz:Nat} {l:List (K×D)} {k:K} {Hm F:Hp} (hK:KeyT P kt kv) (hm:ey_ kv cells e sz l mb Hm) (hu:∀ w,(underlying t).run P w=.ok (.map kt et) w) (hz:∀ w,(zeroValue et).run P w=.ok (.slice none 0 0) w)
    (hx:Fr.ev fr x=some (.map (some mb))) (hy:Fr.ev fr y=some (kv k)) (hH:H.Perm (Hm++F)) (hN:Nat.blt d N.n=true)
    (hk:∀ es c i st sv Hk Hr,MOpn kv cells e sz l mb k es c i st Hr→bk_ e sz sv (lat l k).length ((lat l k).flatMap cells) Hk→Ops P R N v0 H0 ops lo Kk ((d,.tuple #[sv,.int .i64 st])::fr) ((mb,.map es c)::(Hk++(Hr++F))) Γ) :
    Ops P R N v0 H0 ops (⟨some d,.mapEntry t x y,ty,ps,af,none⟩::lo) Kk fr H Γ:=by
  obtain⟨es,c,es',c',i,st,sv,Hk,Hr,p1,p2,p3,p4⟩:=hm.entry hK k;refine df_ rfl fun a v h1 h2 h3 h4=>?_
  have hp:H.Perm ((mb,.map es c)::(Hk++(Hr++F))):=hH.trans (by
    have:=p1.append_right F;simpa [List.append_assoc] using this)
  have h2':=h2.perm hp;have hb:=(h2'.own _ List.mem_cons_self).1;have hg:=MapKept.run_getObj_map (P:=P) hb
  have he:(execOp a.eval ⟨some d,.mapEntry t x y,ty,ps,af,none⟩).run P v.w=.ok (.value (.tuple #[sv,.int .i64 st])) { v.w with heap:=v.w.heap.setIfInBounds mb (.map es' c') }:=by
    rcases p4 with⟨q1,rfl,rfl,rfl,rfl⟩|⟨j,z,q1,q2,q3,rfl,rfl,rfl⟩
    · have hs:=MapKept.run_setObj_map (P:=P) (.map (es.push ⟨kv k,.slice none 0 0,c⟩) (c+1)) hb
      simp[execOp,h1.ev hx,h1.ev hy,Instr.mapEntry,hu,hg,hK.ok _ _ _,q1 _,hz,hs,goInt]
    · have hs:=MapKept.run_setObj_map (P:=P) (.map es' c') hb
      simp[execOp,h1.ev hx,h1.ev hy,Instr.mapEntry,hu,hg,hK.ok _ _ _,q1 _,Instr.keyThatStays,q2,q3,hK.same,qK_ q2 q3,hs,goInt]
  unfold Oper.wp;rw[he];have hh:=MapKept.heap_set (o':=.map es' c') hb;obtain⟨g1,g2⟩:=fO_ (i:=0) (o':=.map es' c') (w':={ v.w with heap:=v.w.heap.setIfInBounds mb (.map es' c') }) h2' rfl rfl rfl rfl (Nat.le_refl _) (by simp) hh.1 (fun k hk=>hh.2 k hk);simp only[List.set_cons_zero]at g1 g2;exact hk es' c' i st sv Hk Hr p3 p2 _ _ (h1.put hN) g1 (h3.trans (g2.permL hp.symm)) (bt_ (g2.le h2') h4)
theorem cc_ {t:TypeId} {x y z:Operand} {mb c i:Nat} {e:TypeId} {sz:Nat} {l:List (K×D)} {k:K} {dd:D} {es:Array MapEntry} {st:Int} {sv:Value} {Hk Hr F:Hp} (ho:MOpn kv cells e sz l mb k es c i st Hr) (hr:bk_ e sz sv (lat (l++[(k,dd)]) k).length ((lat (l++[(k,dd)]) k).flatMap cells) Hk)
    (hx:Fr.ev fr x=some (.map (some mb))) (hy:Fr.ev fr y=some (.int .i64 st)) (hz:Fr.ev fr z=some sv) (hH:H.Perm ((mb,.map es c)::(Hk++(Hr++F))))
    (hk:∀ H',ey_ kv cells e sz (l++[(k,dd)]) mb H'→Ops P R N v0 H0 ops lo Kk fr (H'++F) Γ):Ops P R N v0 H0 ops (⟨none,.entryStore t x y z,ty,ps,af,none⟩::lo) Kk fr H Γ:=by
  obtain⟨H',q1,q2⟩:=ho.close dd sv Hk hr;refine df_ rfl fun a v h1 h2 h3 h4=>?_;have h2':=h2.perm hH;have hb:=(h2'.own _ List.mem_cons_self).1;have hg:=MapKept.run_getObj_map (P:=P) hb;have hs:=MapKept.run_setObj_map (P:=P) (.map (es.modify i fun y=>{ y with val:=sv }) c) hb
  have he:(execOp a.eval ⟨none,.entryStore t x y z,ty,ps,af,none⟩).run P v.w=.ok .skip { v.w with heap:=v.w.heap.setIfInBounds mb (.map (es.modify i fun y=>{ y with val:=sv }) c) }:=by
    have hf:=ho.find;simp[execOp,h1.ev hx,h1.ev hy,h1.ev hz,Instr.entryStore,hg,hs,asInt,asIntOf,hf]
  unfold Oper.wp;rw[he];have hh:=MapKept.heap_set (o':=.map (es.modify i fun y=>{ y with val:=sv }) c) hb;obtain⟨g1,g2⟩:=fO_ (i:=0) (o':=.map (es.modify i fun y=>{ y with val:=sv }) c) (w':={ v.w with heap:=v.w.heap.setIfInBounds mb (.map (es.modify i fun y=>{ y with val:=sv }) c) }) h2' rfl rfl rfl rfl (Nat.le_refl _) (by simp) hh.1 (fun k hk=>hh.2 k hk);simp only[List.set_cons_zero]at g1 g2
  have pp:((mb,Obj.map (es.modify i fun y=>{ y with val:=sv }) c)::(Hk++(Hr++F))).Perm (H'++F):=by
    have:=(q2.append_right F).symm;simpa [List.append_assoc] using this
  exact hk H' q1 _ _ h1 (g1.perm pp) (h3.trans ((g2.permL hH.symm).subR fun b hb=>((pp.map Prod.fst).mem_iff).2 hb)) (bt_ (g2.le h2') h4)
def MOp (P:Program) (kt:TypeId) (kv:K→Value) (cells:D→List Value) (e:TypeId) (sz:Nat) (l:List (K×D)) (mb:Nat) (k:K) (es:Array MapEntry) (c:Nat) (sv:Value) (Hr:Hp):Prop :=
  (eB_ P kt (kv k) es.toList none∧sv=.slice none 0 0∧∀ d sv' Hk',bk_ e sz sv' (lat (l++[(k,d)]) k).length ((lat (l++[(k,d)]) k).flatMap cells) Hk'→∃ H',ey_ kv cells e sz (l++[(k,d)]) mb H'∧H'.Perm ((mb,.map (es.push ⟨kv k,sv',c⟩) (c+1))::(Hk'++Hr))) ∨
  (∃ i x,eB_ P kt (kv k) es.toList (some (i,sv))∧es[i]? = some x∧x.key=kv k∧x.val=sv∧∀ d sv' Hk',bk_ e sz sv' (lat (l++[(k,d)]) k).length ((lat (l++[(k,d)]) k).flatMap cells) Hk'→∃ H',ey_ kv cells e sz (l++[(k,d)]) mb H'∧H'.Perm ((mb,.map (es.modify i fun y=>{ y with key:=kv k,val:=sv' }) c)::(Hk'++Hr)))
theorem rB_ {k0:Act→World→Prop} {kt:TypeId} {mb:Nat} {e:TypeId} {sz:Nat} {l:List (K×D)} {Hm F:Hp} (hK:KeyT P kt kv) (k:K) (hm:ey_ kv cells e sz l mb Hm) (hH:H.Perm (Hm++F))
    (h:∀ es c sv Hk Hr,bk_ e sz sv (lat l k).length ((lat l k).flatMap cells) Hk→MOp P kt kv cells e sz l mb k es c sv Hr→Ok N v0 H0 k0 fr ((mb,.map es c)::(Hk++(Hr++F))) Γ):Ok N v0 H0 k0 fr H Γ:=by
  obtain⟨es,c,sv,Hk,Hr,p1,p2,p3⟩:=hm.open hK k
  refine S_ (hH.trans (by
    have:=p1.append_right F;simpa [List.append_assoc] using this)) (h es c sv Hk Hr p2 p3)
theorem iS_ {t kt et:TypeId} {x y:Operand} {mb c:Nat} {e:TypeId} {sz:Nat} {l:List (K×D)} {k:K} {es:Array MapEntry} {sv:Value} {Hr:Hp} (hK:KeyT P kt kv) (ho:MOp P kt kv cells e sz l mb k es c sv Hr) (hu:∀ w,(underlying t).run P w=.ok (.map kt et) w) (hz:∀ w,(zeroValue et).run P w=.ok (.slice none 0 0) w)
    (hx:Fr.ev fr x=some (.map (some mb))) (hy:Fr.ev fr y=some (kv k)) (i:Nat) (hi:H[i]? = some (mb,.map es c)):Yld P N fr H Γ (.lookup t x y false) ty sv:=by
  have hm:∀ v,v.sat H→aB_ Γ v→v.w.heap[mb]? = some (.map es c):=fun v h _=>(h.own _ (List.mem_of_getElem? hi)).1
  rcases ho with⟨h1,rfl,_⟩|⟨i,z,h1,_⟩
  · exact hP_ hu hz hx hy hm (hK.ok k) h1
  · exact hQ_ hu hx hy hm (hK.ok k) h1
theorem hZ_ {o:Op} {t kt et:TypeId} {x y z:Operand} {mb c:Nat} {e:TypeId} {sz:Nat} {l:List (K×D)} {k:K} {dd:D} {es:Array MapEntry} {sv sv':Value} {Hk Hr F:Hp} (hK:KeyT P kt kv) (ho:MOp P kt kv cells e sz l mb k es c sv Hr) (hr:bk_ e sz sv' (lat (l++[(k,dd)]) k).length ((lat (l++[(k,dd)]) k).flatMap cells) Hk)
    (hop:o=.insert t x y z∨o=.mapUpdate t x y z) (hu:∀ w,(underlying t).run P w=.ok (.map kt et) w) (hx:Fr.ev fr x=some (.map (some mb))) (hy:Fr.ev fr y=some (kv k)) (hz:Fr.ev fr z=some sv') (hH:H.Perm ((mb,.map es c)::(Hk++(Hr++F))))
    (hk:∀ H',ey_ kv cells e sz (l++[(k,dd)]) mb H'→Ops P R N v0 H0 ops lo Kk fr (H'++F) Γ):Ops P R N v0 H0 ops (⟨none,o,ty,ps,af,none⟩::lo) Kk fr H Γ:=by
  refine S_ hH ?_;rcases ho with⟨h1,_,h2⟩|⟨i,q,h1,h3,h4,_,h2⟩
  · obtain⟨H',q1,q2⟩:=h2 dd sv' Hk hr
    refine bP_ 0 hop hu hx hy hz rfl (hK.ok k) h1 ?_;simp only[List.set_cons_zero];exact S_ (by have:=(q2.append_right F).symm;simpa [List.append_assoc] using this) (hk H' q1)
  · obtain⟨H',q1,q2⟩:=h2 dd sv' Hk hr
    refine mi_ 0 hK hop hu hx hy hz rfl h1 h3 h4 ?_;simp only[List.set_cons_zero];exact S_ (by have:=(q2.append_right F).symm;simpa [List.append_assoc] using this) (hk H' q1)
theorem dD_ {b:Nat×Obj} {O Q F:Hp} (h:H.Perm ((b::(O++Q))++F)):H.Perm (b::(O++(Q++F))):=by simpa [List.append_assoc] using h
theorem da_ {b:Nat×Obj} {F:Hp} (h:H.Perm ([b]++F)):H.Perm (b::F):=h
theorem aW_ {b:Nat×Obj} {F F':Hp} (h:H.Perm ([b]++F)) (h2:F.Perm F'):H.Perm (b::F'):=List.Perm.trans h (h2.cons b)
theorem sb_ {fn:Func} {Rr:Ending→World→Prop} {c:Code} (h:Run P (bodyPost P fn Rr) N v0 H0 c [] fr H Γ):Run P (bodyPost P fn Rr) N v0 H0 (.scope c) [] fr H Γ :=
  fun a v h1 h2 h3 h4=>wp_scope_straight (wp_mono (h a v h1 h2 h3 h4) fun e a w hq=>by cases e<;>exact hq)
theorem sd_ {c:Nat} (h:Fin P R N v0 H0 Kk fr H Γ):Run P R N v0 H0 (.label c) Kk fr H Γ :=
  fun a v h1 h2 h3 h4=>wp_label (h a v h1 h2 h3 h4)
end ops
end Go.Sx
namespace Go.Sx
open Go Go.Vs
structure IntE {K:Type} (kv:K→Value) (es:Array MapEntry) (ks:List K) (vs:List Int):Prop where
  keys:es.toList.map (·.key)=ks.map kv
  vals:es.toList.map (·.val)=vs.map fun n=>Value.int .i64 n
  nd:ks.Nodup
section
variable {P:Program} {K:Type} [DecidableEq K] {kv:K→Value} {kt:TypeId} {es:Array MapEntry} {ks:List K} {vs:List Int}
theorem IntE.nil:IntE kv #[] ([]:List K) []:=⟨rfl,rfl,List.nodup_nil⟩
theorem IntE.len (h:IntE kv es ks vs):vs.length=ks.length:=by
  have h1:=congrArg List.length h.keys;have h2:=congrArg List.length h.vals;simp only[List.length_map]at h1 h2;omega
theorem IntE.yes (hK:KeyT P kt kv) (h:IntE kv es ks vs) {k:K} (hk:k∈ks):∃ (i:Nat) (n:Int),ks[i]? = some k∧vs[i]? = some n∧eB_ P kt (kv k) es.toList (some (i,.int .i64 n)):=by
  obtain⟨i,hi⟩:=List.getElem?_of_mem hk
  have hlt:i<es.toList.length:=by
    have:=(List.getElem?_eq_some_iff.1 hi).1;have e:=congrArg List.length h.keys;simp only[List.length_map]at e;omega
  have hx:=List.getElem?_eq_getElem hlt;have hv:=congrArg (fun l=>l[i]?) h.vals;simp only[List.getElem?_map,hx,Option.map_some]at hv;cases hn:vs[i]? with
  | none=>rw[hn]at hv;simp at hv
  | some n =>
    rw[hn]at hv;simp only[Option.map_some,Option.some.injEq]at hv;refine⟨i,n,hi,hn,?_⟩;have:=hK.sf k es.toList ks i _ h.keys h.nd hi hx;rwa [hv]at this
theorem IntE.no (hK:KeyT P kt kv) (h:IntE kv es ks vs) {k:K} (hk:k ∉ ks):eB_ P kt (kv k) es.toList none:=hK.nf k es.toList ks h.keys hk
theorem IntE.push (h:IntE kv es ks vs) {k:K} (hk:k ∉ ks) (n:Int) (c:Nat):IntE kv (es.push ⟨kv k,.int .i64 n,c⟩) (ks++[k]) (vs++[n]):=by
  refine⟨by simp[h.keys],by simp[h.vals],?_⟩;rw[List.nodup_append];exact⟨h.nd,by simp,fun a ha b hb e=>by simp at hb;subst hb;subst e;exact hk ha⟩
end
section ops
variable {P:Program} {N:Nf} {v0:Vw} {H0:Hp} {R:Exit→Act→World→Prop} {Kk:List Kt} {fr:Fr} {H:Hp} {Γ:List Fct}
variable {ops:Array Oper} {lo:List Oper} {d:Nat} {ty:TypeId} {ps:String} {af:Array Edge}
variable {K:Type} [DecidableEq K] {kv:K→Value}
end ops
end Go.Sx
namespace Go.Sx
open Go
section
variable {P:Program} {N:Nat} {v0:Vw} {H0:Hp} {R:Exit→Act→World→Prop} {Kk:List Kt} {fr:Fr} {H:Hp} {Γ:List Fct}
variable {ops:Array Oper} {lo:List Oper} {d:Nat} {ty:TypeId} {ps:String} {af:Array Edge}
variable {K:Type} [DecidableEq K] {kv:K→Value}
structure ItS (kv:K→Value) (es:Array MapEntry) (seen:Array Nat) (done:List K):Prop where
  nd:done.Nodup
  mem:∀ e∈es.toList,seen.contains e.born=true↔∃ k∈done,e.key=kv k
  sub:∀ k∈done,∃ e∈es.toList,e.key=kv k
theorem ItS.nil {es:Array MapEntry}:ItS kv es #[] []:=⟨List.nodup_nil,fun e _=>by simp,fun k hk=>by simp at hk⟩
theorem SetE.entry {es:Array MapEntry} {q:List K} (hE:SetE kv es q) (hi:∀ x y,kv x=kv y→x=y) {x e:MapEntry} (hx:x∈es.toList) (he:e∈es.toList) (h:x.key=e.key):x=e:=by
 obtain⟨i,hi1,hi2⟩:=List.getElem_of_mem hx;obtain⟨j,hj1,hj2⟩:=List.getElem_of_mem he;have hl:=congrArg List.length hE.keys;simp only[List.length_map]at hl
 have key:∀ (k:Nat) (hk:k<es.toList.length),es.toList[k].key=kv (q[k]'(by omega)):=fun k hk=>by
   have:=congrArg (fun l=>l[k]?) hE.keys;simp only[List.getElem?_map]at this;rw[List.getElem?_eq_getElem hk,List.getElem?_eq_getElem (by omega)]at this;simpa using this
 have e1:=key i hi1;have e2:=key j hj1;rw[hi2]at e1;rw[hj2]at e2;have e3:=hi _ _ (e1.symm.trans (h.trans e2))
 have hij:i=j:=by
   rcases Nat.lt_trichotomy i j with h1|h1|h1
   · exact absurd e3 (List.pairwise_iff_getElem.1 hE.nd i j (by omega) (by omega) h1)
   · exact h1
   · exact absurd e3.symm (List.pairwise_iff_getElem.1 hE.nd j i (by omega) (by omega) h1)
 subst hij;rw[← hi2,← hj2]
theorem SetE.ofKey {es:Array MapEntry} {q:List K} (hE:SetE kv es q) {e:MapEntry} (he:e∈es.toList):∃ k∈q,e.key=kv k:=by
  have:e.key∈es.toList.map (·.key):=List.mem_map_of_mem he;rw[hE.keys]at this;obtain⟨k,hk,h⟩:=List.mem_map.1 this;exact⟨k,hk,h.symm⟩
theorem ItS.step {es:Array MapEntry} {q:List K} {c:Nat} {seen:Array Nat} {done:List K} {e:MapEntry} (hi:∀ x y,kv x=kv y→x=y) (hE:SetE kv es q) (hB:Born es c) (h:ItS kv es seen done) (he:e∈(leftOf es seen).toList) :
    ∃ k,k∈q∧k ∉ done∧e.key=kv k∧e∈es.toList∧ItS kv es (seen.push e.born) (done++[k]):=by
  unfold leftOf at he;rw[Array.toList_filter,List.mem_filter]at he;obtain⟨h1,h2⟩:=he;obtain⟨k,hk,hkv⟩:=hE.ofKey h1
  have hnd:k ∉ done:=fun hm=>by
    have:=(h.mem e h1).2 ⟨k,hm,hkv⟩;rw[this]at h2;simp at h2
  refine⟨k,hk,hnd,hkv,h1,⟨?_,fun x hx=>?_,fun y hy=>?_⟩⟩
  · rw[List.nodup_append];exact⟨h.nd,by simp,fun a ha b hb e=>by simp at hb;subst hb;subst e;exact hnd ha⟩
  · rw[Array.contains_push,Bool.or_eq_true,h.mem x hx,beq_iff_eq]
    constructor
    · rintro (⟨y,hy,hyv⟩|h3)
      · exact⟨y,by simp[hy],hyv⟩
      · have:x=e:=by
          have hn:=hB.nd;obtain⟨i,hi1,hi2⟩:=List.getElem_of_mem hx;obtain⟨j,hj1,hj2⟩:=List.getElem_of_mem h1
          have hij:i=j:=by
            rcases Nat.lt_trichotomy i j with g|g|g
            · exact ((List.pairwise_iff_getElem.1 hn i j (by simpa using hi1) (by simpa using hj1) g) (by simp only[List.getElem_map,hi2,hj2,h3])).elim
            · exact g
            · exact ((List.pairwise_iff_getElem.1 hn j i (by simpa using hj1) (by simpa using hi1) g) (by simp only[List.getElem_map,hi2,hj2,h3])).elim
          subst hij;rw[← hi2,← hj2]
        exact⟨k,by simp,this▸hkv⟩
    · rintro ⟨y,hy,hyv⟩
      rcases List.mem_append.1 hy with hy|hy
      · exact .inl ⟨y,hy,hyv⟩
      · rw[List.mem_singleton]at hy
        subst hy;exact .inr (congrArg MapEntry.born (hE.entry hi hx h1 (hyv.trans hkv.symm)))
  · rcases List.mem_append.1 hy with hy|hy
    · exact h.sub y hy
    · rw[List.mem_singleton]at hy
      subst hy;exact⟨e,h1,hkv⟩
theorem ItS.end {es:Array MapEntry} {q:List K} {seen:Array Nat} {done:List K} (hi:∀ x y,kv x=kv y→x=y) (hE:SetE kv es q) (h:ItS kv es seen done) (h0:(leftOf es seen).size=0):done.Perm q:=by
 refine (List.perm_ext_iff_of_nodup h.nd hE.nd).2 fun k=>⟨fun hk=>?_,fun hk=>?_⟩
 ·obtain⟨e,he,hkv⟩:=h.sub k hk
  obtain⟨k',hk',hkv'⟩:=hE.ofKey he;exact hi _ _ (hkv.symm.trans hkv')▸hk'
 have:kv k∈es.toList.map (·.key):=by rw[hE.keys];exact List.mem_map_of_mem hk
 obtain⟨e,he,hkv⟩:=List.mem_map.1 this
 have hs:seen.contains e.born=true:=by
   cases hc:seen.contains e.born
   · exfalso
     have:e∈(leftOf es seen).toList:=by unfold leftOf;rw[Array.toList_filter,List.mem_filter];exact⟨he,by simp only[hc];rfl⟩
     have h1:=List.length_pos_of_mem this;simp only[Array.length_toList]at h1;omega
   · rfl
 obtain⟨k',hk',hkv'⟩:=(h.mem e he).1 hs;exact hi _ _ (hkv.symm.trans hkv')▸hk'
end
section
variable {P:Program} {N:Nat} {v0:Vw} {H0:Hp} {R:Exit→Act→World→Prop} {K:List Kt} {fr:Fr} {H F:Hp} {Γ:List Fct}
end
section
variable {Fc:Fence} {n:Nat} {P:Program} {N:Nat} {D:List Deferred} {v0:Vw} {H0:Hp} {R:Exit→Act→World→Prop} {K:List Kt} {fr:Fr} {H:Hp} {Γ:List Fct}
variable {ops:Array Oper} {l:List Oper} {d:Nat} {ty:TypeId} {ps:String} {af:Array Edge}
end
end Go.Sx
namespace Go.Sx
open Go
section
variable {P:Program} {N:Nf} {v0:Vw} {H0:Hp} {R:Exit→Act→World→Prop} {K:List Kt} {fr:Fr} {H F:Hp} {Γ:List Fct} {ops:Array Oper} {l:List Oper} {d:Nat} {ty:TypeId} {ps:String} {af:Array Edge} {e:TypeId} {sz n:Nat} {sv:Value} {xs:List Value} {Hr:Hp}
theorem ud_ (z:List Value) (hz:0<z.length) (n:Nat):madeCells z.toArray (n*z.length)=(ln_ z n).toArray:=lZ_ z hz n
end
end Go.Sx
namespace Go.Sx
open Go
def mY_ (t:TypeId) (u:Value):List PanicEntry:=[{ v:=.iface t u,recovered:=false }]
def oc_ {ι:Type} (v0:Vw) (H0:Hp) (ret:ι→Value) (H':ι→Hp) (Γ':ι→List Fct) (B:Prop) (e:Ending) (w':World):Prop :=
  ho_ v0 H0 ret H' Γ' e w'∨(B∧∃ t u v',e=.panicked (mY_ t u)∧v'.w=w'∧v'.sat []∧v0.to H0 v' [])
structure TriX (P:Program) (f:FuncId) (args:Array Value) (H:Hp) (Γ:List Fct) {ι:Type} (ret:ι→Value) (H':ι→Hp) (Γ':ι→List Fct) (B:Prop):Prop where
  callable:gT_ P f
  run:∀ v,v.sat H→aB_ Γ v→Calls P f args v.w (oc_ v H ret H' Γ' B)
theorem Tri.toX {P:Program} {f:FuncId} {args:Array Value} {H:Hp} {Γ:List Fct} {ι:Type} {ret:ι→Value} {H':ι→Hp} {Γ':ι→List Fct} (h:Tri P f args H Γ ret H' Γ') (B:Prop):TriX P f args H Γ ret H' Γ' B :=
  ⟨h.callable,fun v h1 h2=>(h.run v h1 h2).mono fun e w' q=>.inl q⟩
theorem TriX.mono {P:Program} {f:FuncId} {args:Array Value} {H:Hp} {Γ:List Fct} {ι:Type} {ret:ι→Value} {H':ι→Hp} {Γ':ι→List Fct} {B B':Prop} (h:TriX P f args H Γ ret H' Γ' B) (hB:B→B'):TriX P f args H Γ ret H' Γ' B' :=
  ⟨h.callable,fun v h1 h2=>(h.run v h1 h2).mono fun e w' q=>q.imp id fun q=>⟨hB q.1,q.2⟩⟩
theorem sat_no {v:Vw} {H:Hp} (h:v.sat H):v.sat []:=⟨by simp,by simp,h.lt⟩
def ky_ (R:Exit→Act→World→Prop) (N:Nf) (v0:Vw) (H0:Hp) (fr:Fr) (F:Hp):Prop:=∀ a v t u,Fr.sat N fr a→v.sat F→v0.to H0 v F→R (.panic (mY_ t u)) a v.w
section
variable {P:Program} {N:Nf} {v0:Vw} {H0:Hp} {R:Exit→Act→World→Prop} {K:List Kt} {fr:Fr} {H:Hp} {Γ:List Fct}
variable {ops:Array Oper} {l:List Oper} {d:Nat} {ty:TypeId} {ps:String} {af:Array Edge}
theorem gI_ {c:List PanicEntry} {a:Act} {w:World}:∀ (K:List Kt),R (.panic c) a w→post P R K (.panic c) a w
  | [],h=>h
  | .seq _::K,h=>gI_ K h
  | .inv _::K,h=>gI_ K h
  | .blk _::K,h=>gI_ K h
theorem ml_ {op:Op} {f:FuncId} {vs:List Value} {ι:Type} {Hc F:Hp} {Γc:List Fct} {ret:ι→Value} {H':ι→Hp} {Γ':ι→List Fct} {B:Prop}
    (hT:TriX P f vs.toArray Hc Γc ret H' Γ' B) (he:∀ a v,Fr.sat N fr a→(execOp a.eval ⟨some d,op,ty,ps,af,none⟩).run P v=.ok (.enter f vs.toArray) v)
    (hH:H.Perm (Hc++F)) (hΓ:∀ v,v.sat H→aB_ Γ v→aB_ Γc v) (hN:Nat.blt d N.n=true) (hp:B→ky_ R N v0 H0 fr F)
    (hk:∀ x,Ops P R N v0 H0 ops l K ((d,ret x)::fr) (H' x++F) (Γ' x++Γ)):Ops P R N v0 H0 ops (⟨some d,op,ty,ps,af,none⟩::l) K fr H Γ :=
  df_ rfl fun a v h1 h2 h3 h4=>by
    unfold Oper.wp;rw[he a v.w h1];have h2':=h2.perm hH;refine (hT.run v h2'.sub (hΓ v h2 h4)).mono ?_;rintro e w' (⟨x,v',rfl,rfl,g1,g2,g3⟩|⟨hb,t,u,v',rfl,rfl,g1,g3⟩)
    · obtain⟨k1,k2⟩:=g3.frame h2' g1
      exact hk x _ v' (h1.put hN) k1 (h3.trans (k2.permL hH.symm)) (fA_.2 ⟨g2,bt_ (k2.le h2') h4⟩)
    · obtain⟨k1,k2⟩:=g3.frame h2' g1
      exact gI_ K (hp hb a v' t u h1 k1 (h3.trans (k2.permL hH.symm)))
theorem at_ {f:FuncId} {xs:List Operand} {ats:Array TypeId} {vs:List Value} {ι:Type} {Hc F:Hp} {Γc:List Fct} {ret:ι→Value} {H':ι→Hp} {Γ':ι→List Fct} {B:Prop}
    (hT:TriX P f vs.toArray Hc Γc ret H' Γ' B) (hx:Fr.evs fr xs=some vs) (hH:H.Perm (Hc++F)) (hΓ:∀ v,v.sat H→aB_ Γ v→aB_ Γc v) (hN:Nat.blt d N.n=true) (hp:B→ky_ R N v0 H0 fr F)
    (hk:∀ x,Ops P R N v0 H0 ops l K ((d,ret x)::fr) (H' x++F) (Γ' x++Γ)) :
    Ops P R N v0 H0 ops (⟨some d,.call ⟨.value (.func f),xs.toArray,ats⟩,ty,ps,af,none⟩::l) K fr H Γ :=
  ml_ hT (fun a w h1=>by
    have:=h1.evs hx;simp[execOp,resolve,Deferred.ofValue,Act.eval,invoke,this,hT.callable _ w]) hH hΓ hN hp hk
theorem ia_ {f:FuncId} {g:Operand} {first cap:List Value} {xs:List Operand} {ats:Array TypeId} {vs:List Value} {ι:Type} {Hc F:Hp} {Γc:List Fct} {ret:ι→Value} {H':ι→Hp} {Γ':ι→List Fct} {B:Prop}
    (hT:TriX P f (first++vs++cap).toArray Hc Γc ret H' Γ' B) (hg:Fr.ev fr g=some (.func (.func f) first.toArray cap.toArray)) (hx:Fr.evs fr xs=some vs) (hH:H.Perm (Hc++F)) (hΓ:∀ v,v.sat H→aB_ Γ v→aB_ Γc v) (hN:Nat.blt d N.n=true) (hp:B→ky_ R N v0 H0 fr F)
    (hk:∀ x,Ops P R N v0 H0 ops l K ((d,ret x)::fr) (H' x++F) (Γ' x++Γ)) :
    Ops P R N v0 H0 ops (⟨some d,.call ⟨.value g,xs.toArray,ats⟩,ty,ps,af,none⟩::l) K fr H Γ :=
  ml_ hT (fun a w h1=>by
    have e1:=h1.evs hx;have hc:=hT.callable (first++vs++cap).toArray w;simp only[execOp,resolve,Deferred.ofValue,h1.ev hg,invoke,List.map_toArray,e1,Sem.run_bind,Sem.run_pure,Result.andThen_ok,List.append_toArray,hc]) hH hΓ hN hp hk
theorem sw_ {dst:Option Tmp} {x:Operand} {t:TypeId} {u:Value} (hx:Fr.ev fr x=some (.iface t u)) (hp:ky_ R N v0 H0 fr H):Ops P R N v0 H0 ops (⟨dst,.panic x,ty,ps,af,none⟩::l) K fr H Γ :=
  df_ rfl fun a v h1 h2 h3 h4=>by
    have he:(execOp a.eval ⟨dst,.panic x,ty,ps,af,none⟩).run P v.w=.halt (.panic (.iface t u)) v.w:=by
      simp[execOp,h1.ev hx,Instr.panic,goPanic]
    unfold Oper.wp;rw[he];exact gI_ K (hp a v t u h1 h2 h3)
theorem nA_ {N:Nat} {D:List Deferred} {g:Operand} {fv:Fn} {first cap:List Value} {xs:List Operand} {ats:Array TypeId} {vs:List Value} {dst:Option Tmp} (hd:dst=none) (hg:Fr.ev fr g=some (.func fv first.toArray cap.toArray)) (hx:Fr.evs fr xs=some vs)
    (hk:Ops P R ⟨N,{ target:=.fn fv cap.toArray,args:=(first++vs).toArray }::D⟩ v0 H0 ops l K fr H Γ):Ops P R ⟨N,D⟩ v0 H0 ops (⟨dst,.defer ⟨.value g,xs.toArray,ats⟩,ty,ps,af,none⟩::l) K fr H Γ :=
  df_ rfl fun a v h1 h2 h3 h4=>by
    subst hd;have e1:=h1.evs hx
    have he:(execOp a.eval ⟨none,.defer ⟨.value g,xs.toArray,ats⟩,ty,ps,af,none⟩).run P v.w=.ok (.defer { target:=.fn fv cap.toArray,args:=(first++vs).toArray }) v.w:=by
      simp only[execOp,resolve,Deferred.ofValue,h1.ev hg,List.map_toArray,e1,Sem.run_bind,Sem.run_pure,Result.andThen_ok,List.append_toArray]
    unfold Oper.wp;rw[he];exact hk _ v ⟨h1.size,by simp[Act.put,h1.defers],h1.val⟩ h2 h3 h4
end
section body
variable {P:Program} {fr:Fr} {H:Hp} {Γ:List Fct}
instance {fn:Func} {ι:Type} {v0:Vw} {H0:Hp} {ret:ι→Value} {H':ι→Hp} {Γ':ι→List Fct} {B:Prop}:NoPan (bodyPost P fn (oc_ v0 H0 ret H' Γ' B)) :=
  ⟨fun c a d x w h=>by
    refine⟨?_,h.2⟩;have:=h.1;cases d<;>exact this⟩
theorem bp_ {N:Nat} {f:FuncId} {fn:Func} {c:Code} {args:List Value} {ι:Type} {ret:ι→Value} {H':ι→Hp} {Γ':ι→List Fct} {B:Prop}
    (hf : P.funcs[f]? = some fn) (hb : fn.body = some c) (hn : (fn.name == "runtime.NumGoroutine") = false) (hN : fn.ntmps = N) (hl : Nat.ble args.length N = true)
    (h:∀ v0,Run P (bodyPost P fn (oc_ v0 H ret H' Γ' B)) N v0 H c [] (iJ_ 0 args) H Γ):TriX P f args.toArray H Γ ret H' Γ' B:=by
  refine⟨callable hf hb hn,fun v h1 h2=>calls_of_wp hf hb ?_⟩;have hl':args.length≤N:=Nat.le_of_ble_eq_true hl;have:=h v ⟨args.toArray++Array.replicate (fn.ntmps - args.toArray.size) undef,[]⟩ v ⟨by simp[hN];omega,rfl,fun t x ht=>?_⟩ h1 (Vw.to.refl _ _) h2
  · exact this
  · obtain⟨_,h4⟩:=gR_ args 0 t x ht
    simp only[Nat.sub_zero]at h4;have hlt:=(List.getElem?_eq_some_iff.1 h4).1;rw[Array.getElem?_append_left (by simpa using hlt)];simpa using h4
theorem cz_ {N:Nat} {fn:Func} {ι:Type} {v0:Vw} {H0:Hp} {ret:ι→Value} {H':ι→Hp} {Γ':ι→List Fct} {B:Prop} (h:Ok N v0 H0 (bodyPost P fn (ho_ v0 H0 ret H' Γ') .ret) fr H Γ):Ok N v0 H0 (bodyPost P fn (oc_ v0 H0 ret H' Γ' B) .ret) fr H Γ :=
  fun a v h1 h2 h3 h4=>let ⟨d,r,hr,hp⟩:=h a v h1 h2 h3 h4;⟨d,r,hr,.inl hp⟩
theorem endX {N:Nat} {fn:Func} {ι:Type} {v0:Vw} {H0:Hp} {ret:ι→Value} {H':ι→Hp} {Γ':ι→List Fct} {B:Prop} (h:Ok N v0 H0 (bodyPost P fn (ho_ v0 H0 ret H' Γ') .normal) fr H Γ):Ok N v0 H0 (bodyPost P fn (oc_ v0 H0 ret H' Γ' B) .normal) fr H Γ :=
  fun a v h1 h2 h3 h4=>let ⟨d,r,hr,hp⟩:=h a v h1 h2 h3 h4;⟨d,r,hr,.inl hp⟩
theorem dk_ {N:Nat} {fn:Func} {ι:Type} {v0:Vw} {H0 F:Hp} {ret:ι→Value} {H':ι→Hp} {Γ':ι→List Fct} {B:Prop} (hB:B):ky_ (bodyPost P fn (oc_ v0 H0 ret H' Γ' B)) N v0 H0 fr F :=
  fun a v t u h1 h2 h3=>⟨h1.defers,.inr ⟨hB,t,u,v,rfl,rfl,sat_no h2,h3.subR (by simp)⟩⟩
theorem jR_ {N:Nat} {f:FuncId} {fn:Func} {c:Code} {args:List Value} {ι:Type} {ret:ι→Value} {H':ι→Hp} {Γ':ι→List Fct}
    (hf : P.funcs[f]? = some fn) (hb : fn.body = some c) (hn : (fn.name == "runtime.NumGoroutine") = false) (hN : fn.ntmps = N) (hl : Nat.ble args.length N = true)
    (h:∀ v0,Run P (bodyPostD P fn (ho_ v0 H ret H' Γ')) N v0 H c [] (iJ_ 0 args) H Γ):Tri P f args.toArray H Γ ret H' Γ':=by
  refine⟨callable hf hb hn,fun v h1 h2=>calls_of_wp_defers hf hb ?_⟩;have hl':args.length≤N:=Nat.le_of_ble_eq_true hl;have:=h v ⟨args.toArray++Array.replicate (fn.ntmps - args.toArray.size) undef,[]⟩ v ⟨by simp[hN];omega,rfl,fun t x ht=>?_⟩ h1 (Vw.to.refl _ _) h2
  · exact this
  · obtain⟨_,h4⟩:=gR_ args 0 t x ht
    simp only[Nat.sub_zero]at h4;have hlt:=(List.getElem?_eq_some_iff.1 h4).1;rw[Array.getElem?_append_left (by simpa using hlt)];simpa using h4
theorem tL_ {N:Nat} {fn:Func} {ι:Type} {v0:Vw} {H0 F:Hp} {ret:ι→Value} {H':ι→Hp} {Γ':ι→List Fct} {fv:Fn} {cap dargs:Array Value} {g:FuncId} {cargs:Array Value} (x:ι)
    (hi:∀ w,(invoke (.fn fv cap) dargs).run P w=.ok (.enter g cargs) w) (hc:∀ w,CallsD P g cargs .returning w fun e u' w'=>e=.returned (.tuple #[])∧u'=.returning∧w'=w)
    (hx:∀ (a:Act) (v:Vw),Fr.sat ⟨N,[{ target:=.fn fv cap,args:=dargs }]⟩ fr a→v.sat H→(results fn a.tmps).run P v.w=.ok (ret x) v.w) (hH:H.Perm (H' x++F)) (hΓ:∀ v,v.sat H→aB_ Γ v→aB_ (Γ' x) v) :
    Ok ⟨N,[{ target:=.fn fv cap,args:=dargs }]⟩ v0 H0 (bodyPostD P fn (ho_ v0 H0 ret H' Γ') .ret) fr H Γ:=fun a v h1 h2 h3 h4=>by
  show Leaves P fn a.tmps _ a.defers .returning v.w
  rw[h1.defers];refine leaves_cons (by simp) (hi v.w) ?_;refine (hc v.w).mono ?_;rintro e u' w' ⟨rfl,rfl,rfl⟩
  exact⟨ret x,hx a v h1 h2,x,v,rfl,rfl,(h2.perm hH).sub,hΓ v h2 h4,h3.subR fun b hb=>by
    have:b∈(H' x++F).map Prod.fst:=by rw[List.map_append];exact List.mem_append_left _ hb
    exact (hH.map Prod.fst).mem_iff.2 this⟩
theorem panDf {N:Nat} {fn:Func} {ι:Type} {v0:Vw} {H0 F HF' F':Hp} {ret:ι→Value} {H':ι→Hp} {Γ':ι→List Fct} {fv:Fn} {cap dargs:Array Value} {g:FuncId} {cargs:Array Value} (x:ι)
    (hi:∀ w,(invoke (.fn fv cap) dargs).run P w=.ok (.enter g cargs) w)
    (hc:∀ (v:Vw) t u,v.sat F→CallsD P g cargs (.panicking (mY_ t u)) v.w fun e u' w'=>e=.returned (.tuple #[])∧u'=.panicking [{ v:=.iface t u,recovered:=true }]∧∃ v':Vw,v'.w=w'∧v'.sat HF'∧v.to F v' HF')
    (hx:∀ (a:Act) (v:Vw),Fr.sat ⟨N,[{ target:=.fn fv cap,args:=dargs }]⟩ fr a→v.sat HF'→(results fn a.tmps).run P v.w=.ok (ret x) v.w) (hH:HF'.Perm (H' x++F')) (hΓ:Γ' x=[]) :
    ky_ (bodyPostD P fn (ho_ v0 H0 ret H' Γ')) ⟨N,[{ target:=.fn fv cap,args:=dargs }]⟩ v0 H0 fr F:=fun a v t u h1 h2 h3=>by
  show Leaves P fn a.tmps _ a.defers (.panicking (mY_ t u)) v.w
  rw[h1.defers];refine leaves_cons (by simp) (hi v.w) ?_;refine (hc v t u h2).mono ?_;rintro e u' w' ⟨rfl,rfl,v',rfl,k1,k2⟩;have h3':=h3.trans k2
  exact⟨ret x,hx a v' h1 k1,x,v',rfl,rfl,(k1.perm hH).sub,by rw[hΓ];trivial,h3'.subR fun b hb=>by
    have:b∈(H' x++F').map Prod.fst:=by rw[List.map_append];exact List.mem_append_left _ hb
    exact (hH.map Prod.fst).mem_iff.2 this⟩
end body
end Go.Sx
namespace Go.Vs
open Go Go.Sx
def Fc.sml (f:Fc):Prop:=f.a.length≤17592186044414∧f.b.length≤17592186044414∧f.r.length≤17592186044414
def wf2 (f:Fc):Bool :=
  if f.kind=1 then aR_ f.a&&(aR_ f.b&&decide (f=W_ f.a f.b))
  else if f.kind=2 then aR_ f.a&&(aR_ f.b&&(cp_ f.r&&decide (f=az_ f.a f.r f.b)))
  else if f.kind=3 then aR_ f.a&&(bb_ f.r&&(decide (f=M_ f.a f.r f.lo f.hi)&&(decide (-1099511627776≤f.lo)&&(decide (f.lo≤f.hi)&&decide (f.hi≤1099511627776)))))
  else false
def ir_ (k:Int):Int:=if k=1∨k=2∨k=10 then 0 else if k=4∨k=7∨k=8∨k=9∨k=12∨k=13 then 2 else 1
def fd_ (k:Int):Int :=
  if k=3 then 1 else if k=4 then 2 else if k=5 then 3 else if k=6 then 5 else if k=7 then 6 else if k=8 then 4 else if k=10 then 7 else if k=11 then 8 else if k=14 then 9 else 0
def zfc:Fc:=⟨0,[],[],[],0,0⟩
def zpc:Pc:=⟨0,[],[],[],[],[],[],0,0,0⟩
def eR_ (p:List Pc) (s:Str):Bool:=decide (s=[42])||(decide (s=[33])||p.any fun x=>decide (s≠[])&&(decide (x.a=s)||(decide (x.b=s)||decide (x.c=s))))
def hF_ (kn:Str→Bool) (x:Pc) (f g h:Fc):Bool:=kn f.a&&decide (f=W_ f.a f.a)
def hE_ (kn:Str→Bool) (x:Pc) (f g h:Fc):Bool:=kn f.a&&decide (f=W_ f.a [42])
def hD_ (kn:Str→Bool) (x:Pc) (f g h:Fc):Bool:=decide (g=W_ f.a x.a)&&decide (f=W_ f.a x.c)
def hm_ (kn:Str→Bool) (x:Pc) (f g h:Fc):Bool:=decide (g=W_ f.a x.a)&&(decide (h=W_ f.a x.b)&&decide (f=W_ f.a x.c))
def hC_ (kn:Str→Bool) (x:Pc) (f g h:Fc):Bool:=decide (g=W_ f.a x.a)&&decide (f=az_ f.a x.r x.c)
def hB_ (kn:Str→Bool) (x:Pc) (f g h:Fc):Bool:=decide (g=az_ f.a x.r f.b)&&decide (f=az_ f.a x.t f.b)
def hl_ (kn:Str→Bool) (x:Pc) (f g h:Fc):Bool:=decide (g=az_ f.a x.r g.b)&&(decide (h=az_ g.b x.s f.b)&&decide (f=az_ f.a x.t f.b))
def hk_ (kn:Str→Bool) (x:Pc) (f g h:Fc):Bool:=decide (g=az_ f.a x.r g.b)&&(decide (h=W_ g.b x.a)&&decide (f=W_ f.a x.c))
def hj_ (kn:Str→Bool) (x:Pc) (f g h:Fc):Bool:=decide (g=az_ f.a g.r g.b)&&(decide (h=W_ g.b [33])&&decide (f=W_ f.a [33]))
def fj_ (kn:Str→Bool) (x:Pc) (f g h:Fc):Bool:=kn f.a&&decide (f=az_ f.a x.r f.a)
def fi_ (kn:Str→Bool) (x:Pc) (f g h:Fc):Bool:=decide (g=W_ f.a x.a)&&decide (f=M_ f.a x.r x.lo x.hi)
def eY_ (kn:Str→Bool) (x:Pc) (f g h:Fc):Bool:=decide (g.kind=3)&&(decide (h.kind=3)&&(decide (g.a=f.a)&&(decide (h.a=f.a)&&(decide (g.r=h.r)&&decide (f=M_ f.a g.r (max g.lo h.lo) (min g.hi h.hi))))))
def eX_ (kn:Str→Bool) (x:Pc) (f g h:Fc):Bool:=decide (g.kind=3)&&(decide (h.kind=3)&&(decide (g.a=f.a)&&(decide (h.a=f.a)&&(decide (g.r=h.r)&&((decide (g.hi<h.lo)||decide (h.hi<g.lo))&&decide (f=W_ f.a [33]))))))
def eW_ (kn:Str→Bool) (x:Pc) (f g h:Fc):Bool:=decide (g.kind=3)&&(decide (g.a=f.a)&&(decide (g.r=x.r)&&(decide (x.lo≤g.lo)&&(decide (g.hi≤x.hi)&&decide (f=W_ f.a x.c)))))
def fz_ (kn:Str→Bool) (x:Pc) (f g h:Fc):Bool:=decide (g=W_ f.a [33])
def eV_ (kn:Str→Bool) (x:Pc) (f g h:Fc):Bool:=decide (g.kind=3)&&(decide (f=M_ g.a g.r f.lo f.hi)&&(decide (f.lo≤g.lo)&&decide (g.hi≤f.hi)))
def eu_ (kn:Str→Bool) (k:Int) (x:Pc) (f g h:Fc):Bool :=
  if k=1 then hF_ kn x f g h
  else if k=2 then hE_ kn x f g h
  else if k=3 then hD_ kn x f g h
  else if k=4 then hm_ kn x f g h
  else if k=5 then hC_ kn x f g h
  else if k=6 then hB_ kn x f g h
  else if k=7 then hl_ kn x f g h
  else if k=8 then hk_ kn x f g h
  else if k=9 then hj_ kn x f g h
  else if k=10 then fj_ kn x f g h
  else if k=11 then fi_ kn x f g h
  else if k=12 then eY_ kn x f g h
  else if k=13 then eX_ kn x f g h
  else if k=14 then eW_ kn x f g h
  else if k=15 then fz_ kn x f g h
  else eV_ kn x f g h
def iD_ (facts:List Fc) (frm:List Int):Bool:=frm.all fun q=>decide (0≤q)&&(decide (q<(facts.length:Int))&&wf2 (facts.getD q.toNat zfc))
def ck_ (facts:List Fc) (frm:List Int):List Fc:=frm.map fun q=>facts.getD q.toNat zfc
def iF_ (p:List Pc) (k q:Int):Bool:=if fd_ k=0 then decide (q=-1) else decide (0≤q)&&(decide (q<(p.length:Int))&&decide ((p.getD q.toNat zpc).kind=fd_ k))
def mf_ (p:List Pc) (k q:Int):Pc:=if fd_ k=0 then zpc else p.getD q.toNat zpc
def fE_ (p:List Pc) (facts:List Fc) (s:Stp):Bool :=
  decide (1≤s.rule)&&(decide (s.rule≤16)&&(wf2 s.fact&&(decide ((s.frm.length:Int)=ir_ s.rule)&&(iD_ facts s.frm&&(iF_ p s.rule s.piece &&
    eu_ (eR_ p) s.rule (mf_ p s.rule s.piece) s.fact ((ck_ facts s.frm).getD 0 zfc) ((ck_ facts s.frm).getD 1 zfc))))))
end Go.Vs
namespace Go.Vs
open Go Go.Sx
def ng_ (F:Fc→Prop) (f:Fc):Prop:=F f∨F (W_ f.a [33])∨(f.kind=3∧∃ lo hi,F (M_ f.a f.r lo hi)∧f.lo≤lo∧hi≤f.hi∧f=M_ f.a f.r f.lo f.hi)
theorem ng_.of_bot {F:Fc→Prop} {f:Fc} {a:Str} (h:F (W_ a [33])) (e:f.a=a):ng_ F f:=.inr (.inl (by rw[e];exact h))
theorem el_ {F:Fc→Prop} {f:Fc} (h:ng_ F f) (hk:f.kind≠3):F f∨F (W_ f.a [33]):=by
 rcases h with h|h|⟨h,_⟩
 ·exact .inl h
 ·exact .inr h
 exact absurd h hk
theorem gz_ {F:Fc→Prop} {f:Fc} (h:ng_ F f) (hf:f=M_ f.a f.r f.lo f.hi):F (W_ f.a [33])∨∃ lo hi,F (M_ f.a f.r lo hi)∧f.lo≤lo∧hi≤f.hi:=by
 rcases h with h|h|⟨_,lo,hi,h,h1,h2,_⟩
 ·exact .inr ⟨f.lo,f.hi,hf▸h,Int.le_refl _,Int.le_refl _⟩
 ·exact .inl h
 exact .inr ⟨lo,hi,h,h1,h2⟩
theorem fU_ {f:Fc} (h:wf2 f=true) (hk:f.kind=3):f=M_ f.a f.r f.lo f.hi:=by
  unfold wf2 at h;rw[if_neg (by omega),if_neg (by omega),if_pos hk]at h;simp only[Bool.and_eq_true,decide_eq_true_eq]at h;exact h.2.2.1
theorem qV_ {p:List Pc} {A:List Str} {F:Fc→Prop} (hF:∀ y,iv_ p A F y→F y) {kn:Str→Bool} (hA:∀ s,kn s=true→s∈A) {k:Int} {x:Pc} {f g h:Fc} (hk1:1≤k) (hk2:k≤16) (hx:fd_ k≠0→x∈p∧x.kind=fd_ k)
    (hg:ir_ k≠0→ng_ F g∧wf2 g=true) (hh:ir_ k=2→ng_ F h∧wf2 h=true) (hi:eu_ kn k x f g h=true):ng_ F f:=by
  have hk:k=1∨k=2∨k=3∨k=4∨k=5∨k=6∨k=7∨k=8∨k=9∨k=10∨k=11∨k=12∨k=13∨k=14∨k=15∨k=16:=by omega
  rcases hk with rfl|rfl|rfl|rfl|rfl|rfl|rfl|rfl|rfl|rfl|rfl|rfl|rfl|rfl|rfl|rfl
  · simp[eu_,hF_,hE_,hD_,hm_,hC_,hB_,hl_,hk_,hj_,fj_,fi_,eY_,eX_,eW_,fz_,eV_]at hi
    rw[hi.2];exact .inl (hF _ (.r1 (hA _ hi.1)))
  · simp[eu_,hF_,hE_,hD_,hm_,hC_,hB_,hl_,hk_,hj_,fj_,fi_,eY_,eX_,eW_,fz_,eV_]at hi
    rw[hi.2];exact .inl (hF _ (.r2 (hA _ hi.1)))
  · simp[eu_,hF_,hE_,hD_,hm_,hC_,hB_,hl_,hk_,hj_,fj_,fi_,eY_,eX_,eW_,fz_,eV_]at hi
    obtain⟨g1,_⟩:=hg (by decide);obtain⟨hx1,hx2⟩:=hx (by decide);rcases el_ g1 (by rw[hi.1];simp[W_,az_]) with q|q
    · rw[hi.2];rw[hi.1]at q;exact .inl (hF _ (.r3 hx1 hx2 q))
    · rw[hi.1]at q;exact .of_bot q rfl
  · simp[eu_,hF_,hE_,hD_,hm_,hC_,hB_,hl_,hk_,hj_,fj_,fi_,eY_,eX_,eW_,fz_,eV_]at hi
    obtain⟨g1,_⟩:=hg (by decide);obtain⟨h1,_⟩:=hh (by decide);obtain⟨hx1,hx2⟩:=hx (by decide);rcases el_ g1 (by rw[hi.1];simp[W_,az_]) with q|q
    · rcases el_ h1 (by rw[hi.2.1];simp[W_,az_]) with q'|q'
      · rw[hi.1]at q;rw[hi.2.1]at q';rw[hi.2.2];exact .inl (hF _ (.r4 hx1 hx2 q q'))
      · rw[hi.2.1]at q';exact .of_bot q' rfl
    · rw[hi.1]at q;exact .of_bot q rfl
  · simp[eu_,hF_,hE_,hD_,hm_,hC_,hB_,hl_,hk_,hj_,fj_,fi_,eY_,eX_,eW_,fz_,eV_]at hi
    obtain⟨g1,_⟩:=hg (by decide);obtain⟨hx1,hx2⟩:=hx (by decide);rcases el_ g1 (by rw[hi.1];simp[W_,az_]) with q|q
    · rw[hi.2];rw[hi.1]at q;exact .inl (hF _ (.r5 hx1 hx2 q))
    · rw[hi.1]at q;exact .of_bot q rfl
  · simp[eu_,hF_,hE_,hD_,hm_,hC_,hB_,hl_,hk_,hj_,fj_,fi_,eY_,eX_,eW_,fz_,eV_]at hi
    obtain⟨g1,_⟩:=hg (by decide);obtain⟨hx1,hx2⟩:=hx (by decide);rcases el_ g1 (by rw[hi.1];simp[W_,az_]) with q|q
    · rw[hi.2];rw[hi.1]at q;exact .inl (hF _ (.r6 hx1 hx2 q))
    · rw[hi.1]at q;exact .of_bot q rfl
  · simp[eu_,hF_,hE_,hD_,hm_,hC_,hB_,hl_,hk_,hj_,fj_,fi_,eY_,eX_,eW_,fz_,eV_]at hi
    obtain⟨g1,_⟩:=hg (by decide);obtain⟨h1,_⟩:=hh (by decide);obtain⟨hx1,hx2⟩:=hx (by decide);rcases el_ g1 (by rw[hi.1];simp[W_,az_]) with q|q
    · rcases el_ h1 (by rw[hi.2.1];simp[W_,az_]) with q'|q'
      · rw[hi.1]at q;rw[hi.2.1]at q';rw[hi.2.2];exact .inl (hF _ (.r7 hx1 hx2 q q'))
      · rw[hi.1]at q;rw[hi.2.1]at q';exact .of_bot (hF _ (.r9 q q')) rfl
    · rw[hi.1]at q;exact .of_bot q rfl
  · simp[eu_,hF_,hE_,hD_,hm_,hC_,hB_,hl_,hk_,hj_,fj_,fi_,eY_,eX_,eW_,fz_,eV_]at hi
    obtain⟨g1,_⟩:=hg (by decide);obtain⟨h1,_⟩:=hh (by decide);obtain⟨hx1,hx2⟩:=hx (by decide);rcases el_ g1 (by rw[hi.1];simp[W_,az_]) with q|q
    · rcases el_ h1 (by rw[hi.2.1];simp[W_,az_]) with q'|q'
      · rw[hi.1]at q;rw[hi.2.1]at q';rw[hi.2.2];exact .inl (hF _ (.r8 hx1 hx2 q q'))
      · rw[hi.1]at q;rw[hi.2.1]at q';exact .of_bot (hF _ (.r9 q q')) rfl
    · rw[hi.1]at q;exact .of_bot q rfl
  · simp[eu_,hF_,hE_,hD_,hm_,hC_,hB_,hl_,hk_,hj_,fj_,fi_,eY_,eX_,eW_,fz_,eV_]at hi
    obtain⟨g1,_⟩:=hg (by decide);obtain⟨h1,_⟩:=hh (by decide);rcases el_ g1 (by rw[hi.1];simp[W_,az_]) with q|q
    · rcases el_ h1 (by rw[hi.2.1];simp[W_,az_]) with q'|q'
      · rw[hi.1]at q;rw[hi.2.1]at q';exact .of_bot (hF _ (.r9 q q')) rfl
      · rw[hi.1]at q;rw[hi.2.1]at q';exact .of_bot (hF _ (.r9 q q')) rfl
    · rw[hi.1]at q;exact .of_bot q rfl
  · simp[eu_,hF_,hE_,hD_,hm_,hC_,hB_,hl_,hk_,hj_,fj_,fi_,eY_,eX_,eW_,fz_,eV_]at hi
    obtain⟨hx1,hx2⟩:=hx (by decide);rw[hi.2];exact .inl (hF _ (.r10 hx1 hx2 (hA _ hi.1)))
  · simp[eu_,hF_,hE_,hD_,hm_,hC_,hB_,hl_,hk_,hj_,fj_,fi_,eY_,eX_,eW_,fz_,eV_]at hi
    obtain⟨g1,_⟩:=hg (by decide);obtain⟨hx1,hx2⟩:=hx (by decide);rcases el_ g1 (by rw[hi.1];simp[W_,az_]) with q|q
    · rw[hi.2];rw[hi.1]at q;exact .inl (hF _ (.r11 hx1 hx2 q))
    · rw[hi.1]at q;exact .of_bot q rfl
  · simp[eu_,hF_,hE_,hD_,hm_,hC_,hB_,hl_,hk_,hj_,fj_,fi_,eY_,eX_,eW_,fz_,eV_]at hi
    obtain⟨k1,k2,k3,k4,k5,k6⟩:=hi;obtain⟨g1,wg⟩:=hg (by decide);obtain⟨h1,wh⟩:=hh (by decide);rcases gz_ g1 (fU_ wg k1) with q|⟨lo,hi,q,q1,q2⟩
    · exact .of_bot q k3.symm
    · rcases gz_ h1 (fU_ wh k2) with q'|⟨lo',hi',q',q1',q2'⟩
      · exact .of_bot q' k4.symm
      · rw[k3]at q;rw[k4,← k5]at q'
        have e1:f.lo=max g.lo h.lo:=by rw[k6];rfl
        have e2:f.hi=min g.hi h.hi:=by rw[k6];rfl
        have e3:f.r=g.r:=by rw[k6];rfl
        have e4:f.kind=3:=by rw[k6];rfl
        by_cases hl:max lo lo'≤min hi hi'
        · refine .inr (.inr ⟨e4,_,_,by rw[e3];exact hF _ (.r12 q q' trivial hl),by omega,by omega,?_⟩)
          rw[e3,e1,e2];exact k6
        · exact .of_bot (hF _ (.r13 q q' trivial (by omega))) rfl
  · simp[eu_,hF_,hE_,hD_,hm_,hC_,hB_,hl_,hk_,hj_,fj_,fi_,eY_,eX_,eW_,fz_,eV_]at hi
    obtain⟨k1,k2,k3,k4,k5,k6,k7⟩:=hi;obtain⟨g1,wg⟩:=hg (by decide);obtain⟨h1,wh⟩:=hh (by decide);rcases gz_ g1 (fU_ wg k1) with q|⟨lo,hi,q,q1,q2⟩
    · exact .of_bot q k3.symm
    · rcases gz_ h1 (fU_ wh k2) with q'|⟨lo',hi',q',q1',q2'⟩
      · exact .of_bot q' k4.symm
      · rw[k3]at q;rw[k4,← k5]at q'
        refine .of_bot (hF _ (.r13 q q' trivial ?_)) rfl;rcases k6 with k6|k6<;>omega
  · simp[eu_,hF_,hE_,hD_,hm_,hC_,hB_,hl_,hk_,hj_,fj_,fi_,eY_,eX_,eW_,fz_,eV_]at hi
    obtain⟨k1,k2,k3,k4,k5,k6⟩:=hi;obtain⟨g1,wg⟩:=hg (by decide);obtain⟨hx1,hx2⟩:=hx (by decide);rcases gz_ g1 (fU_ wg k1) with q|⟨lo,hi,q,q1,q2⟩
    · exact .of_bot q k2.symm
    · rw[k2,k3]at q;rw[k6];exact .inl (hF _ (.r14 hx1 hx2 q (by omega) (by omega)))
  · simp[eu_,hF_,hE_,hD_,hm_,hC_,hB_,hl_,hk_,hj_,fj_,fi_,eY_,eX_,eW_,fz_,eV_]at hi
    obtain⟨g1,_⟩:=hg (by decide);rcases el_ g1 (by rw[hi];simp[W_,az_]) with q|q
    · rw[hi]at q;exact .of_bot q rfl
    · rw[hi]at q;exact .of_bot q rfl
  · simp[eu_,hF_,hE_,hD_,hm_,hC_,hB_,hl_,hk_,hj_,fj_,fi_,eY_,eX_,eW_,fz_,eV_]at hi
    obtain⟨k1,k2,k3,k4⟩:=hi;obtain⟨g1,wg⟩:=hg (by decide);have e1:f.a=g.a:=by rw[k2];rfl
    have e2:f.r=g.r:=by rw[k2];rfl
    have e3:f.kind=3:=by rw[k2];rfl
    rcases gz_ g1 (fU_ wg k1) with q|⟨lo,hi,q,q1,q2⟩
    · exact .of_bot q e1
    · refine .inr (.inr ⟨e3,lo,hi,by rw[e1,e2];exact q,by omega,by omega,by rw[e1,e2];exact k2⟩)
end Go.Vs
namespace Go.Vs
open Go Go.Sx
theorem fa_ {f:Fc} (h:wf2 f=true) (hk:f.kind=3):-1099511627776≤f.lo∧f.lo≤f.hi∧f.hi≤1099511627776:=by
  unfold wf2 at h;rw[if_neg (by omega),if_neg (by omega),if_pos hk]at h;simp only[Bool.and_eq_true,decide_eq_true_eq]at h;exact h.2.2.2
theorem eG_ {g:Fc} {a r:Str} {lo hi:Int} (h:g=M_ a r lo hi):g.kind=3∧g.a=a∧g.r=r:=by rw[h];exact⟨rfl,rfl,rfl⟩
theorem iW_ {g:Fc} {a r:Str} (wg:wf2 g=true) (hk:g.kind=3) (ha:g.a=a) (hr:g.r=r):g=M_ a r g.lo g.hi:=by
  have:=fU_ wg hk;rw[ha,hr]at this;exact this
theorem ei_ {kn:Str→Bool} {x:Pc} {f g h:Fc} (wf:wf2 f=true) (wg:wf2 g=true) (wh:wf2 h=true):eY_ kn x f g h=true ↔
    g=M_ f.a f.r g.lo g.hi∧h=M_ f.a f.r h.lo h.hi∧max g.lo h.lo≤min g.hi h.hi∧f=M_ f.a f.r (max g.lo h.lo) (min g.hi h.hi):=by
  simp only[eY_,Bool.and_eq_true,decide_eq_true_eq];constructor
  · rintro ⟨h1,h2,h3,h4,h5,h6⟩
    have e0:f.kind=3:=by rw[h6];rfl
    have er:f.r=g.r:=by rw[h6];rfl
    have el:f.lo=max g.lo h.lo:=by rw[h6];rfl
    have eh:f.hi=min g.hi h.hi:=by rw[h6];rfl
    have:=(fa_ wf e0).2.1;refine⟨iW_ wg h1 h3 er.symm,iW_ wh h2 h4 (by rw[← h5,er]),by omega,by rw[er];exact h6⟩
  · rintro ⟨h1,h2,_,h4⟩
    obtain⟨a1,a2,a3⟩:=eG_ h1;obtain⟨b1,b2,b3⟩:=eG_ h2;exact⟨a1,b1,a2,b2,by rw[a3,b3],by rw[a3];exact h4⟩
theorem aL_ {kn:Str→Bool} {x:Pc} {f g h:Fc} (wg:wf2 g=true) (wh:wf2 h=true):eX_ kn x f g h=true ↔
    g=M_ f.a g.r g.lo g.hi∧h=M_ f.a g.r h.lo h.hi∧(g.hi<h.lo∨h.hi<g.lo)∧f=W_ f.a [33]:=by
  simp only[eX_,Bool.and_eq_true,Bool.or_eq_true,decide_eq_true_eq];constructor
  · rintro ⟨h1,h2,h3,h4,h5,h6,h7⟩
    exact⟨iW_ wg h1 h3 rfl,iW_ wh h2 h4 h5.symm,h6,h7⟩
  · rintro ⟨h1,h2,h3,h4⟩
    obtain⟨a1,a2,a3⟩:=eG_ h1;obtain⟨b1,b2,b3⟩:=eG_ h2;exact⟨a1,b1,a2,b2,b3.symm,h3,h4⟩
theorem mC_ {kn:Str→Bool} {x:Pc} {f g h:Fc} (wg:wf2 g=true):eW_ kn x f g h=true ↔
    g=M_ f.a x.r g.lo g.hi∧(x.lo≤g.lo∧g.hi≤x.hi)∧f=W_ f.a x.c:=by
  simp only[eW_,Bool.and_eq_true,decide_eq_true_eq];constructor
  · rintro ⟨h1,h2,h3,h4,h5,h6⟩
    exact⟨iW_ wg h1 h2 h3,⟨h4,h5⟩,h6⟩
  · rintro ⟨h1,⟨h2,h3⟩,h4⟩
    obtain⟨a1,a2,a3⟩:=eG_ h1;exact⟨a1,a2,a3,h2,h3,h4⟩
theorem mB_ {kn:Str→Bool} {x:Pc} {f g h:Fc} (wf:wf2 f=true) (wg:wf2 g=true):eV_ kn x f g h=true ↔
    g=M_ f.a f.r g.lo g.hi∧f.kind=3∧(f.lo≤g.lo∧g.hi≤f.hi):=by
  simp only[eV_,Bool.and_eq_true,decide_eq_true_eq];constructor
  · rintro ⟨h1,h2,h3,h4⟩
    obtain⟨a1,a2,a3⟩:=eG_ h2;exact⟨iW_ wg h1 a2.symm a3.symm,a1,h3,h4⟩
  · rintro ⟨h1,h2,h3,h4⟩
    obtain⟨a1,a2,a3⟩:=eG_ h1;exact⟨a1,by rw[a2,a3];exact fU_ wf h2,h3,h4⟩
end Go.Vs
namespace Go.Vs
open Go Go.Sx
def u8C (c:UInt8):List Value:=[.int .u8 (c.toNat:Int)]
theorem iU_ (c:UInt8):(u8C c).length=1:=rfl
theorem vm_ (c:UInt8):(u8C c).all Value.oneCell'=true:=rfl
def bits (n:Int):Nat:=(n.emod 18446744073709551616).toNat
def aH_ (n:Int):Nat→List UInt8
  | 0=>[]
  | k+1=>UInt8.ofNat (bits n / 256 ^ k)::aH_ n k
theorem cl_ (n:Int):∀ k,(aH_ n k).length=k
  | 0=>rfl
  | k+1=>by simp[aH_,cl_ n k]
def dn_ (s:Str):List UInt8:=aH_ (s.length:Int) 2++s
def en_ (s:Stp):List UInt8 :=
  aH_ s.rule 1++aH_ s.fact.kind 1++dn_ s.fact.a++dn_ s.fact.b++dn_ s.fact.r++aH_ s.fact.lo 8++aH_ s.fact.hi 8++aH_ (s.piece+1) 4++aH_ (s.frm.length:Int) 1++s.frm.flatMap fun q=>aH_ q 4
def hc_ (s:Stp):Bool :=
  decide (0≤s.rule)&&(decide (s.rule≤255)&&(decide (0≤s.fact.kind)&&(decide (s.fact.kind≤255)&&(decide (-1≤s.piece)&&(decide (s.piece≤2147483646)&&(decide (s.frm.length≤255) &&
    ((s.frm.all fun q=>decide (0≤q)&&decide (q≤2147483647))&&(decide (s.fact.a.length≤65535)&&(decide (s.fact.b.length≤65535)&&decide (s.fact.r.length≤65535))))))))))
def sM_ (l:List Stp):List UInt8:=aH_ (l.length:Int) 4++l.flatMap en_
def il_ (l:List Stp):List UInt8×Int:=if 65536<l.length then ([],2) else if l.all hc_ then (sM_ l,0) else ([],120)
def beN (l:List UInt8):Nat:=l.foldl (fun a c=>a*256+c.toNat) 0
theorem foldB (l:List UInt8):∀ a,l.foldl (fun a c=>a*256+c.toNat) a=a*256 ^ l.length+beN l:=by
  induction l with
  | nil=>intro a;simp[beN]
  | cons c l ih =>
    intro a;have h:=ih (a*256+c.toNat);have h0:=ih c.toNat;simp only[List.foldl_cons,List.length_cons,beN,Nat.zero_mul,Nat.zero_add]at h h0 ⊢;rw[h,h0,Nat.pow_succ,Nat.add_mul];have:a*256*256 ^ l.length=a*(256 ^ l.length*256):=by rw[Nat.mul_assoc,Nat.mul_comm 256]
    omega
theorem qp_ (c:UInt8) (l:List UInt8):beN (c::l)=c.toNat*256 ^ l.length+beN l:=by
  have:=foldB l c.toNat;simpa [beN] using this
theorem uW_ (l:List UInt8) (c:UInt8):beN (l++[c])=beN l*256+c.toNat:=by simp[beN]
theorem rh_:∀ l:List UInt8,beN l<256 ^ l.length
  | []=>by simp[beN]
  | c::l=>by
    have h:=rh_ l;have hc:c.toNat<256:=c.toNat_lt;rw[qp_,List.length_cons,Nat.pow_succ]
    have:c.toNat*256 ^ l.length+256 ^ l.length≤256 ^ l.length*256:=by
      rw[Nat.mul_comm (256 ^ l.length)];have:=Nat.mul_le_mul_right (256 ^ l.length) (show c.toNat+1≤256 by omega);rw[Nat.add_mul,Nat.one_mul]at this;exact this
    omega
theorem qo_ (n:Int):∀ k,beN (aH_ n k)=bits n%256 ^ k
  | 0=>by simp[aH_,beN,Nat.mod_one]
  | k+1=>by
    rw[aH_,qp_,qo_ n k,cl_];have h1:(UInt8.ofNat (bits n / 256 ^ k)).toNat=bits n / 256 ^ k%256:=by simp
    rw[h1,Nat.pow_succ,Nat.mod_mul,Nat.mul_comm (256 ^ k),Nat.add_comm]
def nn_ (n:Nat) (r:List UInt8):Option (List UInt8×List UInt8):=if n≤r.length then some (r.take n,r.drop n) else none
def fm_ (n:Nat) (r:List UInt8):Option (Nat×List UInt8):=(nn_ n r).map fun y=>(beN y.1,y.2)
def id_ (r:List UInt8):Option (Nat×List UInt8):=(fm_ 4 r).bind fun y=>if y.1≤2147483647 then some y else none
def gB_ (r:List UInt8):Option (Str×List UInt8):=(fm_ 2 r).bind fun y=>nn_ y.1 y.2
def hb_:Nat→List UInt8→Option (List Int×List UInt8)
  | 0,r=>some ([],r)
  | n+1,r=>(id_ r).bind fun y=>(hb_ n y.2).map fun z=>((y.1:Int)::z.1,z.2)
structure Ds where
  rule:Int
  fact:Fc
  piece:Int
  frm:List Int
def Stp.ds (s:Stp):Ds:=⟨s.rule,s.fact,s.piece,s.frm⟩
def jN_ (n:Nat):Int:=if n<9223372036854775808 then n else (n:Int) - 18446744073709551616
def jW_ (r:List UInt8):Option (Ds×List UInt8) :=
  (fm_ 1 r).bind fun y1=>(fm_ 1 y1.2).bind fun y2=>(gB_ y2.2).bind fun y3=>(gB_ y3.2).bind fun y4=>(gB_ y4.2).bind fun y5=>(fm_ 8 y5.2).bind fun y6=>(fm_ 8 y6.2).bind fun y7=>(id_ y7.2).bind fun y8=>(fm_ 1 y8.2).bind fun y9 =>
    (hb_ y9.1 y9.2).map fun y=>(⟨y1.1,⟨y2.1,y3.1,y4.1,y5.1,jN_ y6.1,jN_ y7.1⟩,(y8.1:Int) - 1,y.1⟩,y.2)
def fp_:Nat→List UInt8→Option (List Ds×List UInt8)
  | 0,r=>some ([],r)
  | n+1,r=>(jW_ r).bind fun y=>(fp_ n y.2).map fun z=>(y.1::z.1,z.2)
def qZ_ (r:List UInt8):Option (List Ds):=(id_ r).bind fun y=>if y.1≤65536 then (fp_ y.1 y.2).bind fun z=>if z.2=[] then some z.1 else none else none
end Go.Vs
namespace Go.Sx
open Go Go.Vs
theorem nf_ {P:Program} (w:World) {t tx ty' e:TypeId} {i:TypeInfo} {n:Nat} {sv v':Value} {w':World} {xs:List Value} {s:ByteArray} (ht:P.underlying t=some (.slice e)) (hu:P.underlying tx=some .string) (hi:P.info? e=some i) (hz:i.zero=some (.int .u8 0))
    (hsz:i.size=1) (hby:i.bytes=1) (hown:w.ownsRow 0 e 1 sv n xs) (h63:n+s.size≤maxLen) (hb:n+s.size≤140737488355328)
    (hr:(Builtin.append_ #[t,tx] ty' #[sv,.string s]).run P w=.ok v' w'):w.drawn≤w'.drawn∧∀ g,v'.ownBlock=some g→sv.ownBlock=some g∨w.heap.size≤g:=by
  have hsmall:n+s.size≤9223372036854775807:=by simp only[maxLen]at h63;omega
  rcases hown.2 with⟨rfl,rfl⟩|⟨b,cap,cur,rfl,_,hgg,hnc,_,hcs,htake⟩
  · by_cases hm:s.size=0
    · have:(Builtin.append_ #[t,tx] ty' #[.slice none 0 0,.string s]).run P w=.ok (.slice none 0 0) w:=by
        have hf:=Lib.run_firstCells_string (P:=P) w 1 s;have hn:Lib.strCells s=[]:=List.eq_nil_of_length_eq_zero (by rw[Lib.strCells_length];exact hm);rw[hm,hn]at hf;simp[Builtin.append_,run_underlying ht,run_underlying hu,sizeOf,typeInfo,hi,hsz,Builtin.lenOf,hm,hf]
      rw[this]at hr;cases hr;exact⟨Nat.le_refl _,fun g hg=>by simp[Value.ownBlock]at hg⟩
    · have:=run_append_nil_string (P:=P) w t tx ty' e i (.int .u8 0) ht hu hi hz s (by omega) (by omega) (by rw[hby];omega)
      rw[this]at hr;cases hr;refine⟨by simp,fun g hg=>?_⟩;simp only[Value.ownBlock,Option.some.injEq]at hg;exact .inr (by omega)
  · have hxl:xs.length=n:=by simpa using hown.1
    by_cases hroom:n+s.size≤cap
    · have hcs':cur.size=cap:=by simpa using hcs
      have:=Lib.run_append_room_string (P:=P) w t tx ty' e i ht hu hi hsz b n cap cur hgg s hroom (by omega);rw[this]at hr;cases hr;exact⟨by simp,fun g hg=>.inl hg⟩
    · have aB_:∀ j u,xs[j]? = some u→w.cell? ((⟨b,0,none⟩:Addr).add j)=some u:=hown.cells (g:=b) rfl
      have:=Lib.run_append_grow_string (P:=P) w t tx ty' e i (.int .u8 0) ht hu hi hz ⟨b,0,none⟩ n cap xs (by rw[hsz];simpa using hxl) aB_ s (by omega) (by omega) (by rw[hby];exact growslice_fits (by omega) (by omega));rw[this]at hr;cases hr;refine⟨by simp,fun g hg=>?_⟩;simp only[Value.ownBlock,Option.some.injEq]at hg;exact .inr (by omega)
structure EltB (P:Program) (t e tx:TypeId):Prop where
  und:P.underlying t=some (.slice e)
  str:P.underlying tx=some .string
  info:∃ i,P.info? e=some i∧i.zero=some (.int .u8 0)∧i.size=1∧i.bytes=1
theorem eltB {P:Program} {t e tx:TypeId} (hu:P.underlying t=some (.slice e)) (hs:P.underlying tx=some .string) (hi:(P.info? e).map (fun i=>(i.zero,i.size,i.bytes))=some (some (.int .u8 0),1,1)):EltB P t e tx:=by
  cases h:P.info? e with
  | none=>rw[h]at hi;simp at hi
  | some i =>
    rw[h]at hi;simp only[Option.map_some,Option.some.injEq,Prod.mk.injEq]at hi;exact⟨hu,hs,i,h,hi⟩
theorem oh_ (s:Str):Lib.strCells ⟨s.toArray⟩=s.flatMap u8C:=by
  simp only[Lib.strCells]
  induction s with
  | nil=>rfl
  | cons c s ih=>rw[List.flatMap_cons,← ih];rfl
section
variable {P:Program} {N:Nf} {v0:Vw} {H0:Hp} {R:Exit→Act→World→Prop} {K:List Kt} {fr:Fr} {H:Hp} {Γ:List Fct}
variable {ops:Array Oper} {l:List Oper} {d:Nat} {ty:TypeId} {ps:String} {af:Array Edge}
theorem mZ_ {x y:Operand} {t e tx:TypeId} {L s:Str} {sv:Value} {Hr F:Hp} (he:EltB P t e tx) (hrow:bk_ e 1 sv L.length (List.flatMap u8C L) Hr)
    (hx:Fr.ev fr x=some sv) (hy:Fr.ev fr y=some (str s)) (hH:H.Perm (Hr++F)) (hb:L.length+s.length≤140737488355328) (hN:Nat.blt d N.n=true)
    (hk:∀ sv' Hr',bk_ e 1 sv' (L++s).length (List.flatMap u8C (L++s)) Hr'→Ops P R N v0 H0 ops l K ((d,sv')::fr) (Hr'++F) Γ) :
    Ops P R N v0 H0 ops (⟨some d,.call ⟨.builtin .append,#[x,y],#[t,tx]⟩,ty,ps,af,none⟩::l) K fr H Γ :=
  df_ rfl fun a v h1 h2 h3 h4=>by
    obtain⟨i,hi,hz,es,eb⟩:=he.info;have g:=h2.perm hH;have ho:=hrow.owns g;have hm:L.length+(⟨s.toArray⟩:ByteArray).size≤maxLen:=by show L.length+s.toArray.size≤_;simp only[List.size_toArray,maxLen];omega
    have hb':L.length+(⟨s.toArray⟩:ByteArray).size≤140737488355328:=by show L.length+s.toArray.size≤_;simpa using hb
    obtain⟨v',w',hr,q1,q2,_⟩:=Lib.run_append_own_string (P:=P) v.w 0 t tx ty e i he.und he.str hi hz es eb sv L.length _ ho ⟨s.toArray⟩ hm hb' (Nat.zero_le _);obtain⟨a1,a2⟩:=nf_ v.w he.und he.str hi hz es eb ho hm hb' hr;obtain⟨Hr',k1,k2,k3⟩:=nO_ hrow g q1 q2 a1 a2
    have k1':bk_ e 1 v' (L++s).length (List.flatMap u8C (L++s)) Hr':=by
      have e1:(⟨s.toArray⟩:ByteArray).size=s.length:=by show s.toArray.size=_;simp
      rw[oh_,e1,← List.flatMap_append,← List.length_append]at k1;exact k1
    have hy':=h1.ev hy;rw[str]at hy';unfold Oper.wp execOp;simp only[resolve,invoke,builtin,Sem.run_bind,Sem.run_pure,Result.andThen_ok,List.map_toArray,List.map_cons,List.map_nil,h1.ev hx,hy',hr];exact hk v' Hr' k1' _ ⟨v.im,w',v.sl⟩ (h1.put hN) k2 (h3.trans (k3.permL hH.symm)) (bt_ ((k3.permL hH.symm).le h2) h4)
theorem sY_ {t t':TypeId} {x y:Operand} {ky:IntKind} {m:Nat} {i:Nat} (hx:Fr.ev fr x=some (.int .u64 (m:Int))) (hy:Fr.ev fr y=some (.int ky (8*(i:Int)))) (hi:i<8):Yld P N fr H Γ (.binOp .shr t x y t') ty (.int .u64 ((m / 256 ^ i:Nat):Int)) :=
  fun a v h1 _ _ _ _ _=>by
    have e1:¬ (8*(i:Int)<0):=by omega
    have e2:min (8*(i:Int)).toNat 64=8*i:=by omega
    have e3:(m:Int).fdiv (2 ^ (8*i))=((m / 256 ^ i:Nat):Int):=by
      rw[Int.fdiv_eq_ediv_of_nonneg _ (Int.pow_nonneg (by decide)),show (256:Nat)=2 ^ 8 from rfl,← Nat.pow_mul];simp
    have e:Op.shift .shr .u64 (m:Int) ky (8*(i:Int))=Sem.pure (.int .u64 ((m / 256 ^ i:Nat):Int)):=by
      unfold Op.shift;rw[if_neg e1];show Sem.pure (Value.int .u64 ((m:Int).fdiv (2 ^ min (8*(i:Int)).toNat 64)))=_
      rw[e2,e3]
    simp only[execOp,h1.ev hx,h1.ev hy,eqGuard,binOp,e];simp
theorem rS_ (n:Int):IntKind.wrap .u64 n=(Go.Vs.bits n:Int):=by
  have h:(0:Int)≤n.emod 18446744073709551616:=Int.emod_nonneg _ (by decide);simp only[IntKind.wrap,IntKind.signed,IntKind.bits,Go.Vs.bits,Bool.false_eq_true,false_and,if_false];rw[Int.toNat_of_nonneg h];rfl
theorem vi_ (n:Nat):IntKind.wrap .u8 (n:Int)=((UInt8.ofNat n).toNat:Int):=by
  simp[IntKind.wrap,IntKind.signed,IntKind.bits]
theorem sZ_ {t t':TypeId} {x y:Operand} {ky:IntKind} {m:Nat} (hx:Fr.ev fr x=some (.int .u64 (m:Int))) (hy:Fr.ev fr y=some (.int ky 8)) (hm:m*256<18446744073709551616):Yld P N fr H Γ (.binOp .shl t x y t') ty (.int .u64 ((m*256:Nat):Int)) :=
  fun a v h1 _ _ _ _ _=>by
    have e:IntKind.wrap .u64 ((m:Int)*256)=((m*256:Nat):Int):=by
      rw[te_ (by omega) (by omega)];simp
    simp[execOp,h1.ev hx,h1.ev hy,eqGuard,binOp,Op.shift,IntKind.bits,e]
theorem vf_ {t t':TypeId} {x y:Operand} {m c:Nat} (hx:Fr.ev fr x=some (.int .u64 ((m*256:Nat):Int))) (hy:Fr.ev fr y=some (.int .u64 (c:Int))) (hm:m*256<18446744073709551616) (hc:c<256):Yld P N fr H Γ (.binOp .or t x y t') ty (.int .u64 ((m*256+c:Nat):Int)) :=
  fun a v h1 _ _ _ _ _=>by
    have e0:∀ k:Nat,k<18446744073709551616→(BitVec.ofInt 64 (k:Int)).toNat=k:=fun k hk=>by
      rw[BitVec.ofInt_natCast,BitVec.toNat_ofNat];exact Nat.mod_eq_of_lt hk
    have e1:m*256 ||| c=m*256+c:=by
      have:=Nat.two_pow_add_eq_or_of_lt (i:=8) (b:=c) (by simpa using hc) m;rw[Nat.mul_comm]at this;exact this.symm
    have e2:(BitVec.ofInt 64 ((m*256:Nat):Int) ||| BitVec.ofInt 64 (c:Int)).toNat=m*256+c:=by
      rw[BitVec.toNat_or,e0 _ hm,e0 c (by omega),e1]
    have e:Op.intBits .or .u64 ((m*256:Nat):Int) (c:Int)=Sem.pure (.int .u64 ((m*256+c:Nat):Int)):=by
      show Sem.pure (Value.int .u64 (IntKind.wrap .u64 ((BitVec.ofInt 64 ((m*256:Nat):Int) ||| BitVec.ofInt 64 (c:Int)).toNat:Int)))=_
      rw[e2,te_ (by omega) (by omega)]
    simp only[execOp,h1.ev hx,h1.ev hy,eqGuard,binOp,e];simp
end
end Go.Sx
namespace Go.Sx
open Go Go.Vs
structure Dst where
  ad:Option Addr
  cap:Nat
  r:Str
def Dst.ok (d:Dst):Prop:=d.r.length≤d.cap∧d.cap≤maxLen∧(d.ad=none→d.cap=0)
theorem nL_ {n:Nat} {r:Str} (h:¬ n≤r.length):fm_ n r=none:=by unfold fm_ nn_;rw[if_neg h];rfl
theorem kN_ {n:Nat} {r:Str} (h:n≤r.length):fm_ n r=some (beN (r.take n),r.drop n):=by unfold fm_ nn_;rw[if_pos h];rfl
theorem kp_ {n v:Nat} {r r':Str} (h:fm_ n r=some (v,r')):v<256 ^ n:=by
 by_cases hn:n≤r.length
 ·rw[kN_ hn]at h
  simp only[Option.some.injEq,Prod.mk.injEq]at h;have:=rh_ (r.take n);rw[List.length_take,Nat.min_eq_left hn,h.1]at this;exact this
 rw[nL_ hn]at h;cases h
theorem rW_ {n:Nat} {r:Str} (h:¬ n≤r.length):nn_ n r=none:=if_neg h
theorem rV_ {n:Nat} {r:Str} (h:n≤r.length):nn_ n r=some (r.take n,r.drop n):=if_pos h
def fc_ (r:Str):Option (Int×Str):=(fm_ 1 r).map fun y=>((y.1:Int),y.2)
def iG_ (r:Str):Option (Int×Str):=(fm_ 8 r).map fun y=>(jN_ y.1,y.2)
def if_ (r:Str):Option (Int×Str):=(id_ r).map fun y=>((y.1:Int),y.2)
theorem td_ {n:Nat} (h:n<18446744073709551616):IntKind.wrap .i64 (n:Int)=jN_ n:=by
 have e:((n:Int)%18446744073709551616)=n:=Int.emod_eq_of_lt (by omega) (by omega);unfold jN_;simp only[IntKind.wrap,IntKind.signed,IntKind.bits];show (if (true&&decide ((n:Int)%18446744073709551616≥9223372036854775808))=true then (n:Int)%18446744073709551616 - 18446744073709551616 else (n:Int)%18446744073709551616)=_
 rw[e]
 by_cases h':n<9223372036854775808
 ·rw[if_pos h',if_neg (by simp;omega)]
 rw[if_neg h',if_pos (by simp;omega)]
theorem od_ {n:Nat} (h:n<9223372036854775808):IntKind.wrap .i64 (n:Int)=n:=by
  rw[td_ (by omega)];exact if_pos h
def ek_ {α:Type} (f:Str→Option (α×Str)) (val:α→Value):List Nat→List Value→Str→Option (List Value×Str)
  | [],cs,r=>some (cs,r)
  | o::os,cs,r=>(f r).bind fun y=>ek_ f val os (cs.set o (val y.1)) y.2
theorem drop_at {α:Type} {l:List α} {i:Nat} {x:α} (h:l[i]? = some x):l.drop i=x::l.drop (i+1):=by
  obtain⟨hl,e⟩:=List.getElem?_eq_some_iff.1 h;rw[List.drop_eq_getElem_cons hl,e]
theorem nU_ {α:Type} {f:Str→Option (α×Str)} {val:α→Value} {os:List Nat} {i o:Nat} {c:List Value} {r:Str} {X:Option (List Value×Str)} (hX:X=ek_ f val (os.drop i) c r) (ho:os[i]? = some o) (hb:f r=none):X=none:=by
  rw[hX,drop_at ho,ek_,hb];rfl
theorem nV_ {α:Type} {f:Str→Option (α×Str)} {val:α→Value} {os:List Nat} {i o:Nat} {c:List Value} {r r':Str} {v:α} {X:Option (List Value×Str)} (hX:X=ek_ f val (os.drop i) c r) (ho:os[i]? = some o) (hb:f r=some (v,r')):X=ek_ f val (os.drop (i+1)) (c.set o (val v)) r':=by
  rw[hX,drop_at ho,ek_,hb];rfl
theorem qb_ {α:Type} {f:Str→Option (α×Str)} {val:α→Value} {os:List Nat} {i:Nat} {c:List Value} {r:Str} {X:Option (List Value×Str)} (hX:X=ek_ f val (os.drop i) c r) (hi:os.length≤i):X=some (c,r):=by
  rw[hX,List.drop_of_length_le hi];rfl
theorem iM_ {α:Type} {f:Str→Option (α×Str)} {val:α→Value} {o:Nat} {cs c:List Value} {r r':Str} (h:ek_ f val [o] cs r=some (c,r')):∃ v,f r=some (v,r')∧c=cs.set o (val v):=by
  simp only[ek_]at h;cases h1:f r with
  | none=>rw[h1]at h;cases h
  | some y=>rw[h1]at h;simp only[Option.bind_some,Option.some.injEq,Prod.mk.injEq]at h;exact⟨y.1,by rw[← h.2],h.1.symm⟩
theorem ji_ {α:Type} {f:Str→Option (α×Str)} {val:α→Value} {o:Nat} {os:List Nat} {cs c:List Value} {r r':Str} (h:ek_ f val (o::os) cs r=some (c,r')):∃ v r1,f r=some (v,r1)∧ek_ f val os (cs.set o (val v)) r1=some (c,r'):=by
  simp only[ek_]at h;cases h1:f r with
  | none=>rw[h1]at h;cases h
  | some y=>rw[h1]at h;exact⟨y.1,y.2,rfl,h⟩
def mX_ (tb:Nat) (o:Nat):List Value:=[.pointer (some ⟨tb,o,none⟩)]
theorem kb_ (tb o:Nat):(mX_ tb o).length=1:=rfl
def ob_ (P:Program) (g:FuncId) (T:TypeId) (db:Nat) {α:Type} (val:α→Value) (f:Str→Option (α×Str)):Prop:=∀ d:Dst,d.ok →
  TriX P g #[.pointer (some ⟨db,0,none⟩)] [(db,.cells #[.slice d.ad d.r.length d.cap] T (0,0))] [aC_ d.ad (d.r.flatMap u8C)] (fun y:{y:α×Dst // f d.r=some (y.1,y.2.r)∧y.2.ok}=>val y.1.1)
    (fun y=>[(db,.cells #[.slice y.1.2.ad y.1.2.r.length y.1.2.cap] T (0,0))]) (fun y=>[aC_ y.1.2.ad (y.1.2.r.flatMap u8C)]) (f d.r=none)
theorem tA_ {l:Str} {i:Nat} (h:i<l.length) (h8:l.length≤8):beN (l.take i)*256<18446744073709551616:=by
  have:=rh_ (l.take i);rw[List.length_take,Nat.min_eq_left (by omega)]at this;have h2:(256:Nat) ^ i≤256 ^ 7:=Nat.pow_le_pow_right (by decide) (by omega);have e:(256:Nat) ^ 7=72057594037927936:=by decide
  omega
theorem wE_ {l:Str} {i:Nat} {c:UInt8} (h:l[i]? = some c):beN (l.take (i+1))=beN (l.take i)*256+c.toNat:=by
  rw[List.take_add_one,h,Option.toList_some,uW_]
theorem idx_f {r r':Str} {v:Nat} (h:fm_ 4 r=some (v,r')) (hv:¬ v≤2147483647):if_ r=none:=by
  unfold if_ id_;rw[h,Option.bind_some,if_neg hv];rfl
theorem wT_ {r r':Str} {v:Nat} (h:fm_ 4 r=some (v,r')) (hv:v≤2147483647):if_ r=some ((v:Int),r'):=by
  unfold if_ id_;rw[h,Option.bind_some,if_pos hv];rfl
theorem idx_n {r:Str} (h:fm_ 4 r=none):if_ r=none:=by unfold if_ id_;rw[h];rfl
theorem text_f {r r':Str} {v:Nat} (h:fm_ 2 r=some (v,r')) (hv:¬ v≤r'.length):gB_ r=none:=by
  unfold gB_;rw[h,Option.bind_some];exact rW_ hv
theorem tl_ {r r':Str} {v:Nat} (h:fm_ 2 r=some (v,r')) (hv:v≤r'.length):gB_ r=some (r'.take v,r'.drop v):=by
  unfold gB_;rw[h,Option.bind_some];exact rV_ hv
theorem text_n {r:Str} (h:fm_ 2 r=none):gB_ r=none:=by unfold gB_;rw[h];rfl
theorem vv_ {r r':Str} {v:Nat} (h:fm_ 1 r=some (v,r')):fc_ r=some ((v:Int),r'):=by unfold fc_;rw[h];rfl
theorem vw_ {r:Str} (h:fm_ 1 r=none):fc_ r=none:=by unfold fc_;rw[h];rfl
theorem long_t {r r':Str} {v:Nat} (h:fm_ 8 r=some (v,r')):iG_ r=some (jN_ v,r'):=by unfold iG_;rw[h];rfl
theorem long_n {r:Str} (h:fm_ 8 r=none):iG_ r=none:=by unfold iG_;rw[h];rfl
theorem hJ_ {s:Stp}:hc_ s=true↔0≤s.rule∧s.rule≤255∧0≤s.fact.kind∧s.fact.kind≤255∧-1≤s.piece∧s.piece≤2147483646∧s.frm.length≤255∧(∀ q∈s.frm,0≤q∧q≤2147483647)∧s.fact.a.length≤65535∧s.fact.b.length≤65535∧s.fact.r.length≤65535:=by
  simp only[hc_,Bool.and_eq_true,decide_eq_true_eq,List.all_eq_true]
theorem fD_ (r:Str):qZ_ r=(if_ r).bind fun y=>if y.1≤65536 then (fp_ y.1.toNat y.2).bind fun z=>if z.2=[] then some z.1 else none else none:=by
 unfold qZ_ if_;cases h:id_ r with
 | none=>rfl
 | some y =>
   simp only[Option.bind_some,Option.map_some,Int.toNat_natCast]
   by_cases hy:y.1≤65536
   · rw[if_pos hy,if_pos (by omega)]
   · rw[if_neg hy,if_neg (by omega)]
theorem fq_ (r:Str):jW_ r=(fc_ r).bind fun y1=>(fc_ y1.2).bind fun y2=>(gB_ y2.2).bind fun y3=>(gB_ y3.2).bind fun y4=>(gB_ y4.2).bind fun y5=>(iG_ y5.2).bind fun y6=>(iG_ y6.2).bind fun y7=>(if_ y7.2).bind fun y8=>(fc_ y8.2).bind fun y9 =>
    (hb_ y9.1.toNat y9.2).map fun y=>(⟨y1.1,⟨y2.1,y3.1,y4.1,y5.1,y6.1,y7.1⟩,y8.1 - 1,y.1⟩,y.2):=by
  simp only[jW_,fc_,iG_,if_,Option.bind_map,Function.comp_def,Int.toNat_natCast]
theorem rf_ {α β:Type} {f:Str→Option (α×Str)} {val:α→Value} {a:Nat} {cs:List Value} {r:Str} (h:ek_ f val [a] cs r=none) (k:α×Str→Option β):((f r).bind fun y1=>k y1)=none:=by
  cases h1:f r with
  | none=>rfl
  | some y=>simp[ek_,h1]at h
theorem re_ {α β:Type} {f:Str→Option (α×Str)} {val:α→Value} {a b:Nat} {cs:List Value} {r:Str} (h:ek_ f val [a,b] cs r=none) (k:α×Str→α×Str→Option β):((f r).bind fun y1=>(f y1.2).bind fun y2=>k y1 y2)=none:=by
  cases h1:f r with
  | none=>rfl
  | some y=>exact rf_ (val:=val) (a:=b) (cs:=cs.set a (val y.1)) (by simpa [ek_,h1] using h) (k y)
theorem chain3 {α β:Type} {f:Str→Option (α×Str)} {val:α→Value} {a b c:Nat} {cs:List Value} {r:Str} (h:ek_ f val [a,b,c] cs r=none) (k:α×Str→α×Str→α×Str→Option β):((f r).bind fun y1=>(f y1.2).bind fun y2=>(f y2.2).bind fun y3=>k y1 y2 y3)=none:=by
  cases h1:f r with
  | none=>rfl
  | some y =>
    refine re_ (val:=val) (a:=b) (b:=c) (cs:=cs.set a (val y.1)) ?_ (k y);have h':ek_ f val [b,c] (cs.set a (val y.1)) y.2=none:=by rw[ek_,h1]at h;exact h
    exact h'
theorem tx_ {r r':Str} {v:Int} (h:fc_ r=some (v,r')):0≤v∧v≤255:=by
  unfold fc_ at h;cases h1:fm_ 1 r with
  | none=>rw[h1]at h;cases h
  | some y =>
    rw[h1]at h;simp only[Option.map_some,Option.some.injEq,Prod.mk.injEq]at h;have:=kp_ (v:=y.1) (r':=y.2) h1;omega
theorem ie_ {r r':Str} {v:Int} (h:if_ r=some (v,r')):0≤v∧v≤2147483647:=by
 unfold if_ id_ at h;cases h1:fm_ 4 r with
 | none=>rw[h1]at h;cases h
 | some y =>
   rw[h1,Option.bind_some]at h
   by_cases hy:y.1≤2147483647
   · rw[if_pos hy]at h
     simp only[Option.map_some,Option.some.injEq,Prod.mk.injEq]at h;omega
   · rw[if_neg hy]at h;cases h
theorem kO_ (n:Nat) (r:Str):hb_ (n+1) r=(if_ r).bind fun y=>(hb_ n y.2).map fun z=>(y.1::z.1,z.2):=by
  simp only[hb_,if_,Option.bind_map,Function.comp_def]
theorem nM_ {n i:Nat} {l:List Int} {r:Str} {X:Option (List Int×Str)} (hX:X=(hb_ (n - i) r).map fun z=>(l++z.1,z.2)) (hi:i<n) (h:if_ r=none):X=none:=by
  obtain⟨k,hk⟩:∃ k,n - i=k+1:=⟨n - i - 1,by omega⟩;rw[hX,hk,kO_,h];rfl
theorem kP_ {n i:Nat} {l:List Int} {r r':Str} {v:Int} {X:Option (List Int×Str)} (hX:X=(hb_ (n - i) r).map fun z=>(l++z.1,z.2)) (hi:i<n) (h:if_ r=some (v,r')):X=(hb_ (n - (i+1)) r').map fun z=>((l++[v])++z.1,z.2):=by
  obtain⟨k,hk⟩:∃ k,n - i=k+1:=⟨n - i - 1,by omega⟩;rw[hX,hk,show n - (i+1)=k by omega,kO_,h,Option.bind_some,Option.map_map]
  congr 1
  funext z
  simp
theorem uA_ {n i:Nat} {l:List Int} {r:Str} {X:Option (List Int×Str)} (hX:X=(hb_ (n - i) r).map fun z=>(l++z.1,z.2)) (hi:n≤i):X=some (l,r):=by
  rw[hX,show n - i=0 by omega];simp[hb_]
section
variable {P:Program} {N:Nf} {v0:Vw} {H0:Hp} {R:Exit→Act→World→Prop} {K:List Kt} {fr:Fr} {H:Hp} {Γ:List Fct}
variable {ops:Array Oper} {l:List Oper} {d:Nat} {ty:TypeId} {ps:String} {af:Array Edge}
theorem lb_ {t:TypeId} {x y:Operand} {b off:Nat} {cs:List Value} {T:TypeId} {u:Value} {F:Hp} (hs:∀ w,(sizeOf t).run P w=.ok 1 w)
    (hx:Fr.ev fr x=some (.pointer (some ⟨b,off,none⟩))) (hy:Fr.ev fr y=some u) (hp:H.Perm ((b,.cells cs.toArray T (0,0))::F)) (ho:off<cs.length) (hu:u.cells=#[u]) (h1c:u.oneCell'=true)
    (hk:Ops P R N v0 H0 ops l K fr ((b,.cells (cs.set off u).toArray T (0,0))::F) Γ) :
    Ops P R N v0 H0 ops (⟨none,.store t x y,ty,ps,af,none⟩::l) K fr H Γ:=by
  refine S_ hp ?_;refine z_ 0 hs hx hy rfl (by rw[hu];rfl) (Nat.ble_eq_true_of_le (by simp only[List.size_toArray];omega)) (by rw[hu];simp[h1c]) ?_
  have e:(cs.toArray.toList.take off++u.cells.toList++cs.toArray.toList.drop (off+1))=cs.set off u:=by
    rw[hu,List.set_eq_take_append_cons_drop,if_pos ho];simp
  rw[e];exact hk
theorem mE_:∀ (l:Str) (s:ByteArray),(l.map fun c=>(c.toNat:Int)).foldl (fun r n=>r.push (UInt8.ofNat n.toNat)) s=⟨s.data++l.toArray⟩
  | [],s=>by simp
  | c::l,s=>by
    rw[List.map_cons,List.foldl_cons,mE_ l];have:UInt8.ofNat ((c.toNat:Int).toNat)=c:=by simp
    rw[this]
    congr 1
    simp[ByteArray.push]
theorem ro_ (l:Str):l.flatMap u8C=(l.map fun c=>(c.toNat:Int)).map (Value.int .u8):=by
  induction l with
  | nil=>rfl
  | cons c l ih=>rw[List.flatMap_cons,ih];rfl
theorem rm_ {t t' e:TypeId} {x:Operand} {ad:Option Addr} {s:Str} {c:Nat} (hs:P.underlying t=some (.slice e)) (he:P.underlying e=some (.int .u8)) (hd:P.underlying t'=some .string)
    (hx:Fr.ev fr x=some (.slice ad s.length c)) (hr:∀ v,v.sat H→aB_ Γ v→bH_ v ad (s.flatMap u8C)):Yld P N fr H Γ (.convert t t' x) ty (str s) :=
  fun a v h1 h2 h4 _ _ _=>by
    have hr':=hr v h2 h4
    have key:(convert t t' (.slice ad s.length c)).run P v.w=.ok (str s) v.w:=by
      rw[run_convert_bytes_string v.w t t' e ad _ _ hs he hd]
      have hnil:s.flatMap u8C=[]→s=[]:=fun q=>by
        have:=congrArg List.length q;rw[ro_]at this;exact List.eq_nil_of_length_eq_zero (by simpa using this)
      cases ad with
      | none =>
        rcases hr' with q|⟨b,off,arr,T,fz,q,_⟩
        · rw[hnil q];rfl
        · cases q
      | some a0 =>
        have hl:(loadCells a0 s.length).run P v.w=.ok ((s.map fun c=>(c.toNat:Int)).map (Value.int .u8)).toArray v.w:=by
          have:=run_loadCells_list (P:=P) (w:=v.w) a0 (s.flatMap u8C) (fun j u hj=>by
            rcases hr' with q|⟨b,off,arr,T,fz,q,_,h3,h5⟩
            · rw[q]at hj;simp at hj
            · rw[Option.some.injEq]at q
              subst q;have:=h5 j u hj;rw[dS_];simp[World.cell?,h3,this])
          rw[ro_]at this;simpa using this
        rw[run_bytesToString v.w a0 s.length c _ hl,mE_];rw[show ByteArray.empty.data=#[] from rfl];simp[str]
    simp only[execOp,h1.ev hx,Sem.run_bind,key,Result.andThen_ok,Sem.run_pure]
end
end Go.Sx
