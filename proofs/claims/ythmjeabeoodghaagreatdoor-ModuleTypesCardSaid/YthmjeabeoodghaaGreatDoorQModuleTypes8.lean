/-
  Lemmas for the law ModuleTypes (no condition).
-/
import Derived.Test.YthmjeabeoodghaaGreatDoorQModuleTypes7
import Derived.Scope
import Derived.Lib.Join
import Derived.Lib.AppendZeros
import Derived.Maps.RangeRun
import Derived.WalkSpells
set_option linter.unusedVariables false
set_option linter.unusedSimpArgs false
set_option linter.unusedSectionVars false
set_option maxHeartbeats 1000000
namespace Go.Sx
open Go Go.Vs
theorem sy_ {P:Program} {f:FuncId} {args:Array Value} {H:Hp} {Γ O:List Fct} {ι:Type} {F:ι→Value} {H':ι→Hp} (B:Hp) (M:Tri P f args H Γ F H' (fun _=>[]))
    (U:∀ v:Vw,(∀ p∈B,v.im p.1∧v.w.heap[p.1]? = some p.2)→ad_ O v→ad_ Γ v):Tri P f args (B++H) O F (fun x=>B++H' x) (fun _=>[]):=by
  refine⟨M.callable,fun v E V=>?_⟩;have C:=E.nodup;rw[List.map_append,List.nodup_append]at C;have L:∀ p∈B,p.1<v.w.heap.size:=fun p m=>(Array.getElem?_eq_some_iff.1 (E.own p (List.mem_append_left _ m)).1).1
  have Q:(⟨fun b=>v.im b∨b∈B.map Prod.fst,v.w,v.sl⟩:Vw).sat H:=by
    refine⟨fun p m=>⟨(E.own p (List.mem_append_right _ m)).1,fun hi=>?_⟩,C.2.1,fun b y=>?_⟩
    · rcases hi with hi|hi
      · exact (E.own p (List.mem_append_right _ m)).2 hi
      · exact C.2.2 _ hi _ (List.mem_map_of_mem m) rfl
    · rcases y with y|y
      · exact E.lt b y
      · obtain⟨p,m,rfl⟩:=List.mem_map.1 y
        exact L p m
  have J:v.le ⟨fun b=>v.im b∨b∈B.map Prod.fst,v.w,v.sl⟩:=⟨fun b h=>.inl h,fun _ _=>rfl,rfl⟩;have W:=U ⟨fun b=>v.im b∨b∈B.map Prod.fst,v.w,v.sl⟩ (fun p m=>⟨.inr (List.mem_map_of_mem m),(E.own p (List.mem_append_left _ m)).1⟩) (aD_ J V);refine (M.run _ Q W).mono ?_;rintro e w' ⟨x,I,rfl,rfl,G,_,A⟩;have hB:∀ b,b∈B.map Prod.fst→I.im b:=fun b y=>A.imUp b (.inr y)
  refine⟨x,⟨fun b=>I.im b∧b ∉ B.map Prod.fst,I.w,I.sl⟩,rfl,rfl,⟨fun p m=>?_,?_,fun b y=>G.lt b y.1⟩,trivial,?_⟩
  · rcases List.mem_append.1 m with m|m
    · refine⟨?_,fun h=>h.2 (List.mem_map_of_mem m)⟩
      have:=(A.le Q).block p.1 (.inr (List.mem_map_of_mem m));exact this.trans (E.own p (List.mem_append_left _ m)).1
    · exact⟨(G.own p m).1,fun h=>(G.own p m).2 h.1⟩
  · rw[List.map_append,List.nodup_append]
    refine⟨C.1,G.nodup,fun a T b y e=>?_⟩;subst e;obtain⟨p,m,rfl⟩:=List.mem_map.1 y;exact (G.own p m).2 (hB _ T)
  · refine⟨A.os,A.tape,A.output,A.size,fun b y S=>A.block b y (fun hm=>S ?_),fun b y=>⟨A.imUp b (.inl y),fun hm=>?_⟩,fun b y=>?_,fun b y=>?_,A.sl,A.dr⟩
    · rw[List.map_append];exact List.mem_append_right _ hm
    · obtain⟨p,m,rfl⟩:=List.mem_map.1 hm
      exact (E.own p (List.mem_append_left _ m)).2 y
    · rcases A.imNew b y.1 with (h|h)|h|h
      · exact .inl h
      · exact absurd h y.2
      · exact .inr (.inl (by rw[List.map_append];exact List.mem_append_right _ h))
      · exact .inr (.inr h)
    · rw[List.map_append]at y ⊢
      rcases List.mem_append.1 y with h|h
      · exact .inl (List.mem_append_left _ h)
      · exact (A.hNew b h).imp (List.mem_append_right _) id
structure KeyT (P:Program) (kt:TypeId) {K:Type} [DecidableEq K] (kv:K→Value):Prop where
  ok:∀ k,hM_ P kt (kv k)
  nf:∀ (k:K) (es:List MapEntry) (ks:List K),es.map (·.key)=ks.map kv→k ∉ ks→da_ P kt (kv k) es none
  sf:∀ (k:K) (es:List MapEntry) (ks:List K) (i:Nat) (e:MapEntry),es.map (·.key)=ks.map kv→ks.Nodup→ks[i]? = some k→es[i]? = some e→da_ P kt (kv k) es (some (i,e.val))
  same:∀ k,Instr.sameBits 10000 (kv k) (kv k)=true
section
variable {P:Program}
theorem pv_ (a b:List UInt8):((⟨a.toArray⟩:ByteArray)==⟨b.toArray⟩)=decide (a=b):=by
  show (a.toArray==b.toArray)=_
  rw[Bool.eq_iff_iff];simp
theorem tq_ {kt:TypeId} (C:P.underlying kt=some .string):KeyT P kt str where
  ok:=fun k e w=>by
    have key:∀ m,(Instr.checkKey e (m+1) kt (str k)).run P w=.ok () w:=fun m=>by simp[Instr.checkKey,run_underlying C,str]
    exact key 9999
  nf:=fun k es ks h A=>ay_ C (by
    have:∀ (ks:List Str) (es:List MapEntry) (i:Nat),es.map (·.key)=ks.map str→k ∉ ks→Instr.findNow .string (str k) es i=some none:=by
      intro ks
      induction ks with
      | nil => intro es i h _; have : es = [] := by simpa using h
               subst this;rfl
      | cons q ks ih =>
        intro es i h A;cases es with
        | nil=>simp at h
        | cons e es =>
          simp only[List.map_cons,List.cons.injEq]at h;simp only[List.mem_cons,not_or]at A
          have y:Instr.sameNow .string (str k) e.key=some false:=by
            rw[h.1];show some ((⟨k.toArray⟩:ByteArray)==⟨q.toArray⟩)=some false
            rw[pv_,decide_eq_false A.1]
          simp only[Instr.findNow,y];exact ih es (i+1) h.2 A.2
    exact this ks es 0 h A)
  sf:=fun k es ks i e h B hi v=>ay_ C (by
    have:∀ (ks:List Str) (es:List MapEntry) (j i:Nat),es.map (·.key)=ks.map str→ks.Nodup→ks[i]? = some k→es[i]? = some e→Instr.findNow .string (str k) es j=some (some (j+i,e.val)):=by
      intro ks
      induction ks with
      | nil=>intro es j i _ _ h;simp at h
      | cons q ks ih =>
        intro es j i h B hi v;cases es with
        | nil=>simp at h
        | cons x es =>
          simp only[List.map_cons,List.cons.injEq]at h;rw[List.nodup_cons]at B;cases i with
          | zero =>
            simp only[List.getElem?_cons_zero,Option.some.injEq]at hi v;subst hi;subst v
            have y:Instr.sameNow .string (str q) x.key=some true:=by
              rw[h.1];show some ((⟨q.toArray⟩:ByteArray)==⟨q.toArray⟩)=some true
              rw[pv_,decide_eq_true rfl]
            simp only[Instr.findNow,y,Nat.add_zero]
          | succ i =>
            simp only[List.getElem?_cons_succ]at hi v;have E:k≠q:=fun e=>B.1 (e▸List.mem_of_getElem? hi)
            have y:Instr.sameNow .string (str k) x.key=some false:=by
              rw[h.1];show some ((⟨k.toArray⟩:ByteArray)==⟨q.toArray⟩)=some false
              rw[pv_,decide_eq_false E]
            simp only[Instr.findNow,y];rw[ih es (j+1) i h.2 B.2 hi v,show j+1+i=j+(i+1) by omega]
    have:=this ks es 0 i h B hi v;rwa [Nat.zero_add]at this)
  same:=fun k=>by
    have key:∀ m,Instr.sameBits m (str k) (str k)=true:=fun m=>by
      cases m<;>(show ((⟨k.toArray⟩:ByteArray)==⟨k.toArray⟩)=true;rw[pv_,decide_eq_true rfl])
    exact key 10000
theorem fQ_ {K:Type} [DecidableEq K] {kt:TypeId} {F:Array Field} {kv:K→Value} (G:P.underlying kt=some (.struct F)) (C:∀ k,hM_ P kt (kv k)) (v:∀ p q w,(Op.equal kt (kv p) (kv q)).run P w=.ok (decide (p=q)) w) (y:∀ k,Instr.sameBits 10000 (kv k) (kv k)=true):KeyT P kt kv where
  ok:=C
  nf:=fun k es ks h I=>(il_ G v k ks es h).1 I
  sf:=fun k es ks i e h B hi m=>by
    have key:∀ (ks:List K) (es:List MapEntry) (j i:Nat),es.map (·.key)=ks.map kv→ks.Nodup→ks[i]? = some k→es[i]? = some e→∀ w,(Instr.findAsking kt (kv k) es j).run P w=.ok (some (j+i,e.val)) w:=by
      intro ks
      induction ks with
      | nil=>intro es j i _ _ h;simp at h
      | cons q ks ih =>
        intro es j i h B hi m w;cases es with
        | nil=>simp at h
        | cons x es =>
          simp only[List.map_cons,List.cons.injEq]at h;rw[List.nodup_cons]at B;cases i with
          | zero =>
            simp only[List.getElem?_cons_zero,Option.some.injEq]at hi m;subst hi;subst m;simp only[Instr.findAsking,Sem.run_bind,h.1,v,Result.andThen_ok,decide_true,if_true,Sem.run_pure,Nat.add_zero]
          | succ i =>
            simp only[List.getElem?_cons_succ]at hi m;have E:k≠q:=fun e=>B.1 (e▸List.mem_of_getElem? hi)
            simp only[Instr.findAsking,Sem.run_bind,h.1,v,Result.andThen_ok,E,decide_false,Bool.false_eq_true,if_false];rw[ih es (j+1) i h.2 B.2 hi m w,show j+1+i=j+(i+1) by omega]
    intro w;have A:∀ (x:MapEntry) (r:List MapEntry),Instr.findNow (.struct F) (kv k) (x::r) 0=none:=fun x r=>by simp[Instr.findNow,Instr.sameNow]
    cases es with
    | nil=>simp at m
    | cons x r =>
      simp only[Instr.findKey,Sem.run_bind,run_underlying G,Result.andThen_ok,A];have:=key ks (x::r) 0 i h B hi m w;rwa [Nat.zero_add]at this
  same:=y
end
theorem ez_ (n:Nat) {k:IntKind} (i:Int):Instr.sameBits n (.int k i) (.int k i)=true:=by
  cases n<;>simp[Instr.sameBits]
theorem de_ (n:Nat) (s:List UInt8):Instr.sameBits n (str s) (str s)=true:=by
  cases n<;>(show ((⟨s.toArray⟩:ByteArray)==⟨s.toArray⟩)=true;rw[pv_,decide_eq_true rfl])
theorem iV_ {n:Nat} {l:List Value} (h:∀ v∈l,Instr.sameBits n v v=true):Instr.sameBits (n+1) (.agg l.toArray) (.agg l.toArray)=true:=by
 simp only[Instr.sameBits,BEq.rfl,Bool.true_and,List.all_eq_true];intro p m
 have:∀ (l:List Value),(∀ v∈l,Instr.sameBits n v v=true)→∀ p∈l.zip l,Instr.sameBits n p.1 p.2=true:=by
   intro l
   induction l with
   | nil=>intro _ p m;simp at m
   | cons a l ih =>
     intro h p m;simp only[List.zip_cons_cons,List.mem_cons]at m;rcases m with rfl|m
     · exact h a zaf_
     · exact ih (fun v x=>h v zbL_) p m
 exact this l h p m
structure Born (es:Array MapEntry) (c:Nat):Prop where
  lt:∀ x∈es.toList,x.born<c
  nd:(es.toList.map (·.born)).Nodup
theorem Born.nil (c:Nat):Born #[] c:=⟨by simp,by simp⟩
theorem Born.push {es:Array MapEntry} {c:Nat} (h:Born es c) (v val:Value):Born (es.push ⟨v,val,c⟩) (c+1):=by
 refine⟨fun x m=>?_,?_⟩
 ·rw[Array.toList_push,List.mem_append]at m
  rcases m with m|m
  ·exact Nat.lt_succ_of_lt (h.lt x m)
  rw[List.mem_singleton]at m;rw[m];exact Nat.lt_succ_self _
 rw[Array.toList_push,List.map_append,List.nodup_append];refine⟨h.nd,by simp,fun a A b y e=>?_⟩;obtain⟨x,m,rfl⟩:=List.mem_map.1 A;simp at y
 have:=h.lt x m;omega
theorem Born.modify {es:Array MapEntry} {c:Nat} (h:Born es c) (i:Nat) (f:MapEntry→MapEntry) (B:∀ e,(f e).born=e.born):Born (es.modify i f) c:=by
 have m:(es.modify i f).toList.map (·.born)=es.toList.map (·.born):=by
   apply List.ext_getElem?
   intro j;simp only[List.getElem?_map,Array.getElem?_toList,Array.getElem?_modify]
   split
   · cases es[j]? <;> simp[B]
   · rfl
 refine⟨fun x A=>?_,by rw[m];exact h.nd⟩;have:x.born∈(es.modify i f).toList.map (·.born):=List.mem_map_of_mem A;rw[m]at this;obtain⟨y,v,e⟩:=List.mem_map.1 this;rw[← e];exact h.lt y v
theorem Born.find {es:Array MapEntry} {c i:Nat} {x:MapEntry} (h:Born es c) (y:es[i]? = some x):es.findIdx? (fun e=>(e.born:Int)==(x.born:Int))=some i:=by
  rw[Array.findIdx?_eq_some_iff_getElem];obtain⟨hi,rfl⟩:=Array.getElem?_eq_some_iff.1 y;refine⟨hi,by simp,fun j v=>?_⟩;simp only[beq_eq_false_iff_ne,ne_eq,Bool.not_eq_true];intro e;have m:j<es.size:=Nat.lt_trans v hi;have:=h.nd;rw[List.nodup_iff_pairwise_ne,List.pairwise_iff_getElem]at this;have:=this j i zau_ (by simpa using hi) v;simp at this
  exact this (by exact_mod_cast e)
section
variable {K D:Type} [DecidableEq K] (kv:K→Value) (cells:D→List Value) (e:TypeId) (sz:Nat) (l:List (K×D))
def hL_:List K→List MapEntry→Hp→Prop
  | [],[],H=>H=[]
  | k::ks,x::es,H=>∃ Hk Hr,H=Hk++Hr∧x.key=kv k∧az_ e sz x.val (lat l k).length ((lat l k).flatMap cells) Hk∧hL_ ks es Hr
  | _,_,_=>False
def ds_ (mb:Nat) (H:Hp):Prop:=∃ ks es c Hr,H=(mb,.map es c)::Hr∧ks.Nodup∧(∀ x∈l,x.1∈ks)∧hL_ kv cells e sz l ks es.toList Hr∧Born es c
end
section
variable {K D:Type} [DecidableEq K] {kv:K→Value} {cells:D→List Value} {e:TypeId} {sz:Nat} {l:List (K×D)}
theorem hL_.keys:∀ {ks:List K} {es:List MapEntry} {H:Hp},hL_ kv cells e sz l ks es H→es.map (·.key)=ks.map kv
  | [],[],_,_=>rfl
  | k::ks,x::es,_,h=>by
    obtain⟨y,Hr,_,m,_,v⟩:=h;simp[m,v.keys]
  | [],_::_,_,h=>h.elim
  | _::_,[],_,h=>h.elim
theorem hL_.congr {m:List (K×D)}:∀ {ks:List K} {es:List MapEntry} {H:Hp},(∀ k∈ks,lat m k=lat l k)→hL_ kv cells e sz l ks es H→hL_ kv cells e sz m ks es H
  | [],[],_,_,h=>h
  | k::ks,x::es,_,hl,h=>by
    obtain⟨y,Hr,C,v,A,B⟩:=h;exact⟨y,Hr,C,v,by rw[hl k zaf_];exact A,B.congr fun q E=>hl q zbY_⟩
  | [],_::_,_,_,h=>h.elim
  | _::_,[],_,_,h=>h.elim
theorem hL_.get : ∀ {ks : List K} {es : List MapEntry} {H : Hp} {i : Nat} {k : K}, hL_ kv cells e sz l ks es H → ks.Nodup → ks[i]? = some k → ∃ x A Hr, es[i]? = some x ∧ H.Perm (A ++ Hr) ∧ x.key = kv k ∧ az_ e sz x.val (lat l k).length ((lat l k).flatMap cells) A ∧
      ∀ (v:List (K×D)) (y:MapEntry) (m:Hp),y.key=kv k→(∀ q,q≠k→lat v q=lat l q)→az_ e sz y.val (lat v k).length ((lat v k).flatMap cells) m→∃ H',hL_ kv cells e sz v ks (es.set i y) H'∧H'.Perm (m++Hr)
  | [],_,_,_,_,_,_,h=>by simp at h
  | _::_,[],_,_,_,h,_,_=>h.elim
  | q::ks,x::es,H,0,k,h,hn,hi=>by
    simp only[List.getElem?_cons_zero,Option.some.injEq]at hi;subst hi;rw[List.nodup_cons]at hn;obtain⟨A,Hr,L,F,I,J⟩:=h;exact⟨x,A,Hr,rfl,L▸.refl _,F,I,fun v y m G C E=>⟨m++Hr,⟨m,Hr,rfl,G,E,J.congr fun z X=>C z (fun e=>hn.1 (e▸X))⟩,.refl _⟩⟩
  | q::ks,x::es,H,i+1,k,h,hn,hi=>by
    simp only[List.getElem?_cons_succ]at hi;rw[List.nodup_cons]at hn;obtain⟨B,Y,L,F,I,J⟩:=h;obtain⟨y,A,Hr,T,O,V,S,W⟩:=J.get hn.2 hi;have M:q≠k:=fun e=>hn.1 (e▸List.mem_of_getElem? hi)
    refine⟨y,A,B++Hr,T,?_,V,S,fun v z m G C E=>?_⟩
    · rw[L]
      refine (List.Perm.append_left B O).trans ?_;rw[← List.append_assoc,← List.append_assoc];exact List.perm_append_comm.append_right _
    · obtain⟨H',Q,U⟩:=W v z m G C E
      refine⟨B++H',⟨B,H',rfl,F,by rw[C q M];exact I,Q⟩,(List.Perm.append_left B U).trans ?_⟩;rw[← List.append_assoc,← List.append_assoc];exact List.perm_append_comm.append_right _
theorem hL_.push:∀ {ks:List K} {es:List MapEntry} {H:Hp} {k:K} {x:MapEntry} {Hk:Hp},hL_ kv cells e sz l ks es H→x.key=kv k→az_ e sz x.val (lat l k).length ((lat l k).flatMap cells) Hk→hL_ kv cells e sz l (ks++[k]) (es++[x]) (H++Hk)
  | [],[],_,k,x,Hk,h,h1,h2=>by subst h;exact⟨Hk,[],by simp,h1,h2,rfl⟩
  | q::ks,y::es,_,k,x,Hk,h,h1,h2=>by
    obtain⟨v,Hr,rfl,B,A,m⟩:=h;exact⟨v,Hr++Hk,by simp,B,A,m.push h1 h2⟩
  | [],_::_,_,_,_,_,h,_,_=>h.elim
  | _::_,[],_,_,_,_,h,_,_=>h.elim
theorem jG_ {k q:K} {d:D} (h:q≠k):lat (l++[(k,d)]) q=lat l q:=by
  rw[kB_];simp[lat,Ne.symm h]
theorem fd_ {k:K} {d:D}:lat (l++[(k,d)]) k=lat l k++[d]:=by
  rw[kB_];simp[lat]
theorem ds_.open {P:Program} {kt:TypeId} (V:KeyT P kt kv) {B:Nat} {H:Hp} (h:ds_ kv cells e sz l B H) (k:K) :
    ∃ es c sv I Hr,H.Perm ((B,.map es c)::(I++Hr))∧az_ e sz sv (lat l k).length ((lat l k).flatMap cells) I ∧
      ((da_ P kt (kv k) es.toList none∧sv=.slice none 0 0∧∀ d m v,az_ e sz m (lat (l++[(k,d)]) k).length ((lat (l++[(k,d)]) k).flatMap cells) v→∃ H',ds_ kv cells e sz (l++[(k,d)]) B H'∧H'.Perm ((B,.map (es.push ⟨kv k,m,c⟩) (c+1))::(v++Hr))) ∨
       (∃ i x,da_ P kt (kv k) es.toList (some (i,sv))∧es[i]? = some x∧x.key=kv k∧x.val=sv∧∀ d m v,az_ e sz m (lat (l++[(k,d)]) k).length ((lat (l++[(k,d)]) k).flatMap cells) v→∃ H',ds_ kv cells e sz (l++[(k,d)]) B H'∧H'.Perm ((B,.map (es.modify i fun y=>{ y with key:=kv k,val:=m }) c)::(v++Hr)))):=by
  obtain⟨ks,es,c,U,rfl,J,hl,hm,G⟩:=h
  by_cases C:k∈ks
  · obtain⟨i,hi⟩:=List.getElem?_of_mem C
    obtain⟨x,I,Hr,Q,X,g3,g4,Z⟩:=hm.get J hi;have S:es[i]? = some x:=by rw[← Array.getElem?_toList];exact Q
    refine⟨es,c,x.val,I,Hr,.cons _ X,g4,.inr ⟨i,x,V.sf k es.toList ks i x hm.keys J hi Q,S,g3,rfl,fun d m v L=>?_⟩⟩;obtain⟨H',Y,j2⟩:=Z (l++[(k,d)]) { x with key:=kv k,val:=m } v rfl (fun q M=>jG_ M) L;refine⟨(B,.map (es.modify i fun y=>{ y with key:=kv k,val:=m }) c)::H',⟨ks,_,c,H',rfl,J,fun y A=>?_,?_,G.modify i _ fun _=>rfl⟩,.cons _ j2⟩
    · rcases List.mem_append.1 A with A|A
      · exact hl y A
      · simp at A;rw[A];exact C
    · have W:(es.modify i fun y=>{ y with key:=kv k,val:=m }).toList=es.toList.set i { x with key:=kv k,val:=m }:=by
        apply List.ext_getElem?
        intro j;rw[Array.getElem?_toList,Array.getElem?_modify,List.getElem?_set,Array.getElem?_toList]
        by_cases E:i=j
        · subst E
          have O:i<es.toList.length:=(List.getElem?_eq_some_iff.1 Q).1;simp only[if_true,S,Option.map_some,if_pos O]
        · simp[E]
      rw[W];exact Y
  · have F:lat l k=[]:=by
      apply List.eq_nil_iff_forall_not_mem.2
      intro d hd;exact C (hl _ (cW_.1 hd))
    refine⟨es,c,.slice none 0 0,[],U,.refl _,by rw[F];exact az_.nil _ _,.inl ⟨V.nf k es.toList ks hm.keys C,rfl,fun d m v L=>?_⟩⟩;refine⟨(B,.map (es.push ⟨kv k,m,c⟩) (c+1))::(U++v),⟨ks++[k],_,_,_,rfl,?_,fun y A=>?_,?_,G.push _ _⟩,.cons _ List.perm_append_comm⟩
    · rw[List.nodup_append];exact⟨J,by simp,fun a ha b T e=>by simp at T;subst T;subst e;exact C ha⟩
    · rcases List.mem_append.1 A with A|A
      · exact List.mem_append_left _ (hl y A)
      · simp at A;simp[A]
    · rw[Array.toList_push]
      exact (hm.congr fun q M=>jG_ (fun (e:q=k)=>C (e▸M))).push rfl L
structure MOpn (kv:K→Value) (cells:D→List Value) (e:TypeId) (sz:Nat) (l:List (K×D)) (mb:Nat) (k:K) (es:Array MapEntry) (c i:Nat) (st:Int) (Hr:Hp):Prop where
  find:es.findIdx? (fun x=>(x.born:Int)==st)=some i
  close:∀ d sv' Hk',az_ e sz sv' (lat (l++[(k,d)]) k).length ((lat (l++[(k,d)]) k).flatMap cells) Hk'→∃ H',ds_ kv cells e sz (l++[(k,d)]) mb H'∧H'.Perm ((mb,.map (es.modify i fun y=>{ y with val:=sv' }) c)::(Hk'++Hr))
theorem uP_ {es:Array MapEntry} {i:Nat} {x:MapEntry} {key:Value} (v:es[i]? = some x) (m:x.key=key):(es.modify i fun y=>{ y with key:=key })=es:=by
 apply Array.ext_getElem?
 intro j;rw[Array.getElem?_modify]
 by_cases h:i=j
 ·subst h;rw[if_pos rfl,v];simp only[Option.map_some];rw[← m]
 rw[if_neg h]
theorem ds_.entry {P:Program} {kt:TypeId} (hK:KeyT P kt kv) {G:Nat} {H:Hp} (h:ds_ kv cells e sz l G H) (k:K) :
    ∃ es c C T i st sv L Hr,H.Perm ((G,.map es c)::(L++Hr))∧az_ e sz sv (lat l k).length ((lat l k).flatMap cells) L∧MOpn kv cells e sz l G k C T i st Hr ∧
      ((da_ P kt (kv k) es.toList none∧sv=.slice none 0 0∧C=es.push ⟨kv k,.slice none 0 0,c⟩∧T=c+1∧st=(c:Int))∨(∃ j x,da_ P kt (kv k) es.toList (some (j,sv))∧es[j]? = some x∧x.key=kv k∧C=es∧T=c∧st=(x.born:Int))):=by
  have h0:=h;obtain⟨ks,es,c,Ho,rfl,M,hl,hm,A⟩:=h0
  by_cases E:k∈ks
  · obtain⟨i,hi⟩:=List.getElem?_of_mem E
    obtain⟨x,L,Hr,V,g2,Y,g4,g5⟩:=hm.get M hi;have X:es[i]? = some x:=by rw[← Array.getElem?_toList];exact V
    refine⟨es,c,es,c,i,x.born,x.val,L,Hr,.cons _ g2,g4,⟨A.find X,fun d m B Q=>?_⟩,.inr ⟨i,x,hK.sf k es.toList ks i x hm.keys M hi V,X,Y,rfl,rfl,rfl⟩⟩;obtain⟨H',j1,j2⟩:=g5 (l++[(k,d)]) { x with key:=kv k,val:=m } B rfl (fun q S=>jG_ S) Q;refine⟨(G,.map (es.modify i fun y=>{ y with val:=m }) c)::H',⟨ks,_,c,H',rfl,M,fun y v=>?_,?_,A.modify i _ fun _=>rfl⟩,.cons _ j2⟩
    · rcases List.mem_append.1 v with v|v
      · exact hl y v
      · simp at v;rw[v];exact E
    · have e1:(es.modify i fun y=>{ y with val:=m }).toList=es.toList.set i { x with key:=kv k,val:=m }:=by
        apply List.ext_getElem?
        intro j;rw[Array.getElem?_toList,Array.getElem?_modify,List.getElem?_set,Array.getElem?_toList]
        by_cases I:i=j
        · subst I
          have U:i<es.toList.length:=(List.getElem?_eq_some_iff.1 V).1;simp only[if_true,X,Option.map_some,if_pos U];rw[← Y]
        · simp[I]
      rw[e1];exact j1
  · have J:lat l k=[]:=by
      apply List.eq_nil_iff_forall_not_mem.2
      intro d hd;exact E (hl _ (cW_.1 hd))
    have W:=A.push (kv k) (.slice none 0 0);have F:(es.push ⟨kv k,.slice none 0 0,c⟩)[es.size]? = some ⟨kv k,.slice none 0 0,c⟩:=by simp
    refine⟨es,c,es.push ⟨kv k,.slice none 0 0,c⟩,c+1,es.size,(c:Int),.slice none 0 0,[],Ho,.refl _,by rw[J];exact az_.nil _ _,⟨W.find F,fun d m B Q=>?_⟩,.inl ⟨hK.nf k es.toList ks hm.keys E,rfl,rfl,rfl,rfl⟩⟩
    have e2:((es.push ⟨kv k,.slice none 0 0,c⟩).modify es.size fun y=>{ y with val:=m })=es.push ⟨kv k,m,c⟩:=by
      apply Array.ext_getElem?
      intro j;rw[Array.getElem?_modify,Array.getElem?_push,Array.getElem?_push]
      by_cases O:j=es.size
      · subst O;simp
      · rw[if_neg (fun q=>O q.symm),if_neg O,if_neg O]
    rw[e2];refine⟨(G,.map (es.push ⟨kv k,m,c⟩) (c+1))::(Ho++B),⟨ks++[k],_,_,_,rfl,?_,fun y v=>?_,?_,A.push _ _⟩,.cons _ List.perm_append_comm⟩
    · rw[List.nodup_append];exact⟨M,by simp,fun a ha b Z e=>by simp at Z;subst Z;subst e;exact E ha⟩
    · rcases List.mem_append.1 v with v|v
      · exact List.mem_append_left _ (hl y v)
      · simp at v;simp[v]
    · rw[Array.toList_push]
      exact (hm.congr fun q S=>jG_ (fun (e:q=k)=>E (e▸S))).push rfl Q
theorem ds_.nil (h:Nat) (c:Nat):ds_ kv cells e sz ([]:List (K×D)) h [(h,.map #[] c)]:=⟨[],#[],c,[],rfl,List.nodup_nil,by simp,rfl,Born.nil c⟩
def mlF (P:Program) (kt:TypeId) (kv:K→Value) (cells:D→List Value) (mb:Nat) (l:List (K×D)) (adr:K→Ao×Nat):Fct where
  p:=fun v=>v.im mb∧∃ es c,v.w.heap[mb]? = some (.map es c)∧∀ k,bY_ v (adr k).1 ((lat l k).flatMap cells) ∧
    ((da_ P kt (kv k) es.toList none∧Value.slice (adr k).1 (lat l k).length (adr k).2=.slice none 0 0)∨∃ i,da_ P kt (kv k) es.toList (some (i,.slice (adr k).1 (lat l k).length (adr k).2)))
  mono:=fun v v' h ⟨h1,es,c,h2,h3⟩=>⟨h.imUp mb h1,es,c,by rw[h.block mb h1];exact h2,fun k=>⟨(X_ _ _).mono v v' h (h3 k).1,(h3 k).2⟩⟩
theorem bs_ {P:Program} {kt:TypeId} {m:Nat} {adr:K→Ao×Nat} {v:Vw} (h:(mlF P kt kv cells m l adr).p v) (k:K):bY_ v (adr k).1 ((lat l k).flatMap cells):=by
  obtain⟨_,_,_,_,h⟩:=h;exact (h k).1
theorem wW_ {sv:Value} {n:Nat} {xs:List Value} {Hr:Hp} {v:Vw} (h:az_ e sz sv n xs Hr) (B:∀ p∈Hr,v.im p.1∧v.w.heap[p.1]? = some p.2):∃ ad cap,sv=.slice ad n cap∧n≤cap∧cap≤maxLen∧(n≠0→∃ b,ad=some ⟨b,0,none⟩)∧bY_ v ad xs:=by
 rcases h.2 with⟨rfl,rfl,rfl⟩|⟨g,cap,cur,rfl,rfl,C,E,G,y⟩
 ·have:xs=[]:=List.eq_nil_of_length_eq_zero (by simpa using h.1)
  exact⟨none,0,rfl,Nat.le_refl _,by simp[maxLen],fun h=>absurd rfl h,.inl this⟩
 obtain⟨F,A⟩:=B _ (List.mem_singleton.2 rfl);refine⟨some ⟨g,0,none⟩,cap,rfl,C,E,fun _=>⟨g,rfl⟩,.inr ⟨g,0,cur,e,(0,0),rfl,F,A,fun j x m=>?_⟩⟩;rw[← y,List.getElem?_take]at m
 split at m
 ·rw[Nat.zero_add,← Array.getElem?_toList];exact m
 cases m
theorem ds_.lentC {P:Program} {kt:TypeId} (T:KeyT P kt kv) {G:Nat} {H:Hp} (h:ds_ kv cells e sz l G H):∃ adr:K→Ao×Nat,(∀ k,(lat l k).length≤(adr k).2∧((adr k).1=none→(adr k).2=0))∧∀ v:Vw,(∀ p∈H,v.im p.1∧v.w.heap[p.1]? = some p.2)→(mlF P kt kv cells G l adr).p v:=by
 have W:=h;obtain⟨ks,es,c,Ho,rfl,M,hl,hm,_⟩:=W
 have y:∀ k,∃ q:Ao×Nat,((lat l k).length≤q.2∧(q.1=none→q.2=0))∧∀ v:Vw,(∀ p∈(G,Obj.map es c)::Ho,v.im p.1∧v.w.heap[p.1]? = some p.2)→bY_ v q.1 ((lat l k).flatMap cells)∧((da_ P kt (kv k) es.toList none∧Value.slice q.1 (lat l k).length q.2=.slice none 0 0)∨∃ i,da_ P kt (kv k) es.toList (some (i,.slice q.1 (lat l k).length q.2))):=fun k=>by
   by_cases I:k∈ks
   · obtain⟨i,hi⟩:=List.getElem?_of_mem I
     obtain⟨x,Hk,Hr,J,E,g3,Q,_⟩:=hm.get M hi;have Z:=T.sf k es.toList ks i x hm.keys M hi J
     have L:∃ ad cap,x.val=.slice ad (lat l k).length cap∧(lat l k).length≤cap∧(ad=none→cap=0):=by
       rcases Q.2 with⟨C,V,_⟩|⟨g,cap,cur,C,_,Y,_⟩
       · exact⟨none,0,by rw[C,V],by omega,fun _=>rfl⟩
       · exact⟨_,cap,C,Y,fun q=>by cases q⟩
     obtain⟨ad,cap,O,F⟩:=L;refine⟨(ad,cap),F,fun v A=>⟨?_,.inr ⟨i,by rw[← O];exact Z⟩⟩⟩;obtain⟨X,S,B,_,_,_,U⟩:=wW_ Q fun p hp=>A p (List.mem_cons_of_mem _ (E.mem_iff.2 (List.mem_append_left _ hp)))
     rw[O]at B;simp only[Value.slice.injEq]at B;rw[B.1];exact U
   · have m:lat l k=[]:=by
       apply List.eq_nil_iff_forall_not_mem.2
       intro d hd;exact I (hl _ (cW_.1 hd))
     exact⟨(none,0),⟨by rw[m];simp,fun _=>rfl⟩,fun v A=>⟨.inl (by rw[m];rfl),.inl ⟨T.nf k es.toList ks hm.keys I,by rw[m];rfl⟩⟩⟩
 refine⟨fun k=>(y k).choose,fun k=>(y k).choose_spec.1,fun v A=>?_⟩;obtain⟨J,E⟩:=A _ List.mem_cons_self;exact⟨J,es,c,E,fun k=>(y k).choose_spec.2 v A⟩
theorem ds_.lent {P:Program} {kt:TypeId} (x:KeyT P kt kv) {m:Nat} {H:Hp} (h:ds_ kv cells e sz l m H):∃ adr,∀ v:Vw,(∀ p∈H,v.im p.1∧v.w.heap[p.1]? = some p.2)→(mlF P kt kv cells m l adr).p v:=⟨_,(h.lentC x).choose_spec.2⟩
end
section
variable {P:Program} {K:Type} [DecidableEq K] {kv:K→Value} {kt:TypeId}
structure SetE (kv:K→Value) (es:Array MapEntry) (q:List K):Prop where
  keys:es.toList.map (·.key)=q.map kv
  vals:∀ x∈es.toList,x.val=.bool true
  nd:q.Nodup
theorem SetE.nil:SetE kv #[] ([]:List K):=⟨rfl,by simp,List.nodup_nil⟩
theorem SetE.size {es:Array MapEntry} {q:List K} (h:SetE kv es q):es.size=q.length:=by
  have:=congrArg List.length h.keys;simpa using this
theorem SetE.yes (C:KeyT P kt kv) {es:Array MapEntry} {q:List K} (h:SetE kv es q) {k:K} (B:k∈q):∃ i x,q[i]? = some k∧es[i]? = some x∧x.key=kv k∧x.val=.bool true∧da_ P kt (kv k) es.toList (some (i,.bool true)):=by
  obtain⟨i,hi⟩:=List.getElem?_of_mem B
  have v:i<es.toList.length:=by
    have:=(List.getElem?_eq_some_iff.1 hi).1;have e:=congrArg List.length h.keys;simp at e this ⊢;omega
  have y:=List.getElem?_eq_getElem v;have A:=h.vals _ (List.getElem_mem v)
  have m:es.toList[i].key=kv k:=by
    have:=congrArg (fun l=>l[i]?) h.keys;simp only[List.getElem?_map,y,hi,Option.map_some,Option.some.injEq]at this;exact this
  refine⟨i,es.toList[i],hi,by rw[← Array.getElem?_toList];exact y,m,A,?_⟩;have:=C.sf k es.toList q i _ h.keys h.nd hi y;rwa [A]at this
theorem SetE.no (v:KeyT P kt kv) {es:Array MapEntry} {q:List K} (h:SetE kv es q) {k:K} (m:k ∉ q):da_ P kt (kv k) es.toList none:=v.nf k es.toList q h.keys m
theorem SetE.push {es:Array MapEntry} {q:List K} (h:SetE kv es q) {k:K} (y:k ∉ q) (c:Nat):SetE kv (es.push ⟨kv k,.bool true,c⟩) (q++[k]):=by
 refine⟨by simp[h.keys],fun x m=>?_,?_⟩
 ·rw[Array.toList_push,List.mem_append]at m
  rcases m with m|m
  ·exact h.vals x m
  simp at m;rw[m]
 rw[List.nodup_append];exact⟨h.nd,by simp,fun a A b v e=>by simp at v;subst v;subst e;exact y A⟩
end
section ops
variable {P:Program} {N:Nf} {v0:Vw} {H0:Hp} {R:Exit→Act→World→Prop} {Kk:List Kt} {fr:Fr} {H:Hp} {Γ:List Fct}
variable {ops:Array Oper} {lo:List Oper} {d:Nat} {ty:TypeId} {ps:String} {af:Array Edge}
variable {K D:Type} [DecidableEq K] {kv:K→Value} {cells:D→List Value}
theorem cb_ {t kt E:TypeId} {x y:Operand} {G:Nat} {l:List (K×D)} {adr:K→Ao×Nat} {k:K} (I:KeyT P kt kv) (A:∀ w,(underlying t).run P w=.ok (.map kt E) w) (Q:∀ w,(zeroValue E).run P w=.ok (.slice none 0 0) w) (B:Fr.ev fr x=some (.map (some G))) (F:Fr.ev fr y=some (kv k))
    (hm:∀ v,v.sat H→ad_ Γ v→(mlF P kt kv cells G l adr).p v):Yld P N fr H Γ (.lookup t x y false) ty (.slice (adr k).1 (lat l k).length (adr k).2) :=
  fun a v h L O _ _ _=>by
    obtain⟨_,es,c,S,J⟩:=hm v L O;have C:=MapKept.run_getObj_map (P:=P) S;rcases (J k).2 with⟨m,M⟩|⟨i,m⟩
    · rw[M];simp[execOp,h.ev B,h.ev F,Instr.lookup,A,C,I.ok _ _ _,m _,Q]
    · simp[execOp,h.ev B,h.ev F,Instr.lookup,A,C,I.ok _ _ _,m _]
theorem ec_ {t kt E:TypeId} {x y:Operand} {G c:Nat} {es:Array MapEntry} {q:List K} {k:K} (m:KeyT P kt kv) (A:∀ w,(underlying t).run P w=.ok (.map kt E) w) (J:∀ w,(zeroValue E).run P w=.ok (.bool false) w) (B:Fr.ev fr x=some (.map (some G))) (F:Fr.ev fr y=some (kv k))
    (C:SetE kv es q) (hm:∀ v,v.sat H→ad_ Γ v→v.w.heap[G]? = some (.map es c)):Yld P N fr H Γ (.lookup t x y false) ty (.bool (decide (k∈q))):=by
  by_cases h:k∈q
  · obtain⟨i,_,_,_,_,_,I⟩:=C.yes m h
    rw[decide_eq_true h];exact eJ_ A B F hm (m.ok k) I
  · rw[decide_eq_false h]
    exact eV_ A J B F hm (m.ok k) (C.no m h)
theorem yy_ {t kt F:TypeId} {x:Operand} {h c:Nat} {es:Array MapEntry} (C:∀ w,(underlying t).run P w=.ok (.map kt F) w) (E:Fr.ev fr x=some (.map (some h))) (hm:∀ v,v.sat H→ad_ Γ v→v.w.heap[h]? = some (.map es c)) :
    Yld P N fr H Γ (.call ⟨.builtin .len,#[x],#[t]⟩) ty (.int .i64 (es.size:Int)) :=
  fun a v m A B _ _ _=>by
    have y:=MapKept.run_getObj_map (P:=P) (hm v A B);simp[execOp,resolve,invoke,builtin,Builtin.len_,m.ev E,C,y,goInt]
theorem fy_ {o:Op} {t kt O:TypeId} {x y z:Operand} {b c i:Nat} (n:Nat) {es:Array MapEntry} {e:MapEntry} {k:K} {u u':Value} (I:KeyT P kt kv) (J:o=.insert t x y z∨o=.mapUpdate t x y z) (L:∀ w,(underlying t).run P w=.ok (.map kt O) w)
    (X:Fr.ev fr x=some (.map (some b))) (Y:Fr.ev fr y=some (kv k)) (U:Fr.ev fr z=some u) (hi:H[n]? = some (b,.map es c)) (W:da_ P kt (kv k) es.toList (some (i,u'))) (A:es[i]? = some e) (m:e.key=kv k)
    (C:Ops P R N v0 H0 ops lo Kk fr (H.set n (b,.map (es.modify i fun y=>{ y with key:=kv k,val:=u }) c)) Γ):Ops P R N v0 H0 ops (⟨none,o,ty,ps,af,none⟩::lo) Kk fr H Γ :=
  cR_ rfl fun a v h E Z S=>by
    have B:=(E.own _ (List.mem_of_getElem? hi)).1;have T:=MapKept.run_getObj_map (P:=P) B;have M:=MapKept.run_setObj_map (P:=P) (.map (es.modify i fun y=>{ y with key:=kv k,val:=u }) c) B
    have A:(execOp a.eval ⟨none,o,ty,ps,af,none⟩).run P v.w=.ok .skip { v.w with heap:=v.w.heap.setIfInBounds b (.map (es.modify i fun y=>{ y with key:=kv k,val:=u }) c) }:=by
      rcases J with rfl|rfl<;>simp[execOp,h.ev X,h.ev Y,h.ev U,Instr.mapUpdate,L,T,I.ok _ _ _,W _,M,Instr.keyThatStays,A,m,I.same]
    unfold Oper.wp;rw[A];have G:=MapKept.heap_set (o':=.map (es.modify i fun y=>{ y with key:=kv k,val:=u }) c) B;obtain⟨V,F⟩:=eY_ (w':={ v.w with heap:=v.w.heap.setIfInBounds b (.map (es.modify i fun y=>{ y with key:=kv k,val:=u }) c) }) E hi rfl rfl rfl (Nat.le_refl _) zaf_ G.1 (fun k Q=>G.2 k Q);exact C a _ h V (Z.trans F) (aD_ (F.le E) S)
theorem hd_ {es:Array MapEntry} {i:Nat} {e:MapEntry} {key val:Value} (v:es[i]? = some e) (m:e.key=key) (x:e.val=val):(es.modify i fun y=>{ y with key:=key,val:=val })=es:=by
 apply Array.ext_getElem?
 intro j;rw[Array.getElem?_modify]
 by_cases h:i=j
 ·subst h;rw[if_pos rfl,v];simp only[Option.map_some];rw[← m,← x]
 rw[if_neg h]
theorem kX_ {o:Op} {t kt L:TypeId} {x y z:Operand} {b c:Nat} (n:Nat) {es:Array MapEntry} {q:List K} {k:K} (A:KeyT P kt kv) (B:o=.insert t x y z∨o=.mapUpdate t x y z) (E:∀ w,(underlying t).run P w=.ok (.map kt L) w)
    (F:Fr.ev fr x=some (.map (some b))) (I:Fr.ev fr y=some (kv k)) (J:Fr.ev fr z=some (.bool true)) (hi:H[n]? = some (b,.map es c)) (v:SetE kv es q)
    (m:∀ es' c',SetE kv es' (if k∈q then q else q++[k])→Ops P R N v0 H0 ops lo Kk fr (H.set n (b,.map es' c')) Γ):Ops P R N v0 H0 ops (⟨none,o,ty,ps,af,none⟩::lo) Kk fr H Γ:=by
  by_cases h:k∈q
  · obtain⟨i,e,Q,C,G,O,M⟩:=v.yes A h
    refine fy_ n A B E F I J hi M C G ?_;rw[hd_ C G O];exact m es c (by rw[if_pos h];exact v)
  · exact aC_ n B E F I J hi (A.ok k) (v.no A h) (m _ _ (by rw[if_neg h];exact v.push h c))
theorem fA_ {t kt T:TypeId} {x y:Operand} {m:Nat} {e:TypeId} {sz:Nat} {l:List (K×D)} {k:K} {Q F:Hp} (I:KeyT P kt kv) (hm:ds_ kv cells e sz l m Q) (S:∀ w,(underlying t).run P w=.ok (.map kt T) w) (hz:∀ w,(zeroValue T).run P w=.ok (.slice none 0 0) w)
    (Z:Fr.ev fr x=some (.map (some m))) (hy:Fr.ev fr y=some (kv k)) (hH:H.Perm (Q++F)) (hN:Nat.blt d N.n=true)
    (O:∀ es c i st sv C Hr,MOpn kv cells e sz l m k es c i st Hr→az_ e sz sv (lat l k).length ((lat l k).flatMap cells) C→Ops P R N v0 H0 ops lo Kk ((d,.tuple #[sv,.int .i64 st])::fr) ((m,.map es c)::(C++(Hr++F))) Γ) :
    Ops P R N v0 H0 ops (⟨some d,.mapEntry t x y,ty,ps,af,none⟩::lo) Kk fr H Γ:=by
  obtain⟨es,c,h,B,i,st,sv,C,Hr,p1,p2,p3,p4⟩:=hm.entry I k;refine cR_ rfl fun a v E h2 h3 h4=>?_
  have hp:H.Perm ((m,.map es c)::(C++(Hr++F))):=hH.trans (by
    have:=p1.append_right F;simpa [List.append_assoc] using this)
  have A:=h2.perm hp;have G:=(A.own _ List.mem_cons_self).1;have U:=MapKept.run_getObj_map (P:=P) G
  have he:(execOp a.eval ⟨some d,.mapEntry t x y,ty,ps,af,none⟩).run P v.w=.ok (.value (.tuple #[sv,.int .i64 st])) { v.w with heap:=v.w.heap.setIfInBounds m (.map h B) }:=by
    rcases p4 with⟨L,rfl,rfl,rfl,rfl⟩|⟨j,z,L,V,X,rfl,rfl,rfl⟩
    · have M:=MapKept.run_setObj_map (P:=P) (.map (es.push ⟨kv k,.slice none 0 0,c⟩) (c+1)) G
      simp[execOp,E.ev Z,E.ev hy,Instr.mapEntry,S,U,I.ok _ _ _,L _,hz,M,goInt]
    · have M:=MapKept.run_setObj_map (P:=P) (.map h B) G
      simp[execOp,E.ev Z,E.ev hy,Instr.mapEntry,S,U,I.ok _ _ _,L _,Instr.keyThatStays,V,X,I.same,uP_ V X,M,goInt]
  unfold Oper.wp;rw[he];have Y:=MapKept.heap_set (o':=.map h B) G;obtain⟨W,J⟩:=eY_ (i:=0) (o':=.map h B) (w':={ v.w with heap:=v.w.heap.setIfInBounds m (.map h B) }) A rfl rfl rfl rfl (Nat.le_refl _) zaf_ Y.1 (fun k O=>Y.2 k O);simp only[List.set_cons_zero]at W J;exact O h B i st sv C Hr p3 p2 _ _ (E.put hN) W (h3.trans (J.permL hp.symm)) (aD_ (J.le A) h4)
theorem cU_ {t:TypeId} {x y z:Operand} {h c i:Nat} {e:TypeId} {sz:Nat} {l:List (K×D)} {k:K} {dd:D} {es:Array MapEntry} {st:Int} {sv:Value} {B Hr F:Hp} (I:MOpn kv cells e sz l h k es c i st Hr) (T:az_ e sz sv (lat (l++[(k,dd)]) k).length ((lat (l++[(k,dd)]) k).flatMap cells) B)
    (hx:Fr.ev fr x=some (.map (some h))) (hy:Fr.ev fr y=some (.int .i64 st)) (W:Fr.ev fr z=some sv) (O:H.Perm ((h,.map es c)::(B++(Hr++F))))
    (G:∀ H',ds_ kv cells e sz (l++[(k,dd)]) h H'→Ops P R N v0 H0 ops lo Kk fr (H'++F) Γ):Ops P R N v0 H0 ops (⟨none,.entryStore t x y z,ty,ps,af,none⟩::lo) Kk fr H Γ:=by
  obtain⟨H',Q,X⟩:=I.close dd sv B T;refine cR_ rfl fun a v C h2 h3 U=>?_;have m:=h2.perm O;have A:=(m.own _ List.mem_cons_self).1;have V:=MapKept.run_getObj_map (P:=P) A;have S:=MapKept.run_setObj_map (P:=P) (.map (es.modify i fun y=>{ y with val:=sv }) c) A
  have Y:(execOp a.eval ⟨none,.entryStore t x y z,ty,ps,af,none⟩).run P v.w=.ok .skip { v.w with heap:=v.w.heap.setIfInBounds h (.map (es.modify i fun y=>{ y with val:=sv }) c) }:=by
    have Z:=I.find;simp[execOp,C.ev hx,C.ev hy,C.ev W,Instr.entryStore,V,S,asInt,asIntOf,Z]
  unfold Oper.wp;rw[Y];have L:=MapKept.heap_set (o':=.map (es.modify i fun y=>{ y with val:=sv }) c) A;obtain⟨J,E⟩:=eY_ (i:=0) (o':=.map (es.modify i fun y=>{ y with val:=sv }) c) (w':={ v.w with heap:=v.w.heap.setIfInBounds h (.map (es.modify i fun y=>{ y with val:=sv }) c) }) m rfl rfl rfl rfl (Nat.le_refl _) zaf_ L.1 (fun k G=>L.2 k G);simp only[List.set_cons_zero]at J E
  have M:((h,Obj.map (es.modify i fun y=>{ y with val:=sv }) c)::(B++(Hr++F))).Perm (H'++F):=by
    have:=(X.append_right F).symm;simpa [List.append_assoc] using this
  exact G H' Q _ _ C (J.perm M) (h3.trans ((E.permL O.symm).subR fun b A=>((M.map Prod.fst).mem_iff).2 A)) (aD_ (E.le m) U)
def MOp (P:Program) (kt:TypeId) (kv:K→Value) (cells:D→List Value) (e:TypeId) (sz:Nat) (l:List (K×D)) (mb:Nat) (k:K) (es:Array MapEntry) (c:Nat) (sv:Value) (Hr:Hp):Prop :=
  (da_ P kt (kv k) es.toList none∧sv=.slice none 0 0∧∀ d sv' Hk',az_ e sz sv' (lat (l++[(k,d)]) k).length ((lat (l++[(k,d)]) k).flatMap cells) Hk'→∃ H',ds_ kv cells e sz (l++[(k,d)]) mb H'∧H'.Perm ((mb,.map (es.push ⟨kv k,sv',c⟩) (c+1))::(Hk'++Hr))) ∨
  (∃ i x,da_ P kt (kv k) es.toList (some (i,sv))∧es[i]? = some x∧x.key=kv k∧x.val=sv∧∀ d sv' Hk',az_ e sz sv' (lat (l++[(k,d)]) k).length ((lat (l++[(k,d)]) k).flatMap cells) Hk'→∃ H',ds_ kv cells e sz (l++[(k,d)]) mb H'∧H'.Perm ((mb,.map (es.modify i fun y=>{ y with key:=kv k,val:=sv' }) c)::(Hk'++Hr)))
theorem vZ_ {x:Act→World→Prop} {kt:TypeId} {v:Nat} {e:TypeId} {sz:Nat} {l:List (K×D)} {y F:Hp} (G:KeyT P kt kv) (k:K) (hm:ds_ kv cells e sz l v y) (E:H.Perm (y++F))
    (h:∀ es c sv m Hr,az_ e sz sv (lat l k).length ((lat l k).flatMap cells) m→MOp P kt kv cells e sz l v k es c sv Hr→Ok N v0 H0 x fr ((v,.map es c)::(m++(Hr++F))) Γ):Ok N v0 H0 x fr H Γ:=by
  obtain⟨es,c,sv,m,Hr,A,B,C⟩:=hm.open G k
  refine A_ (E.trans (by
    have:=A.append_right F;simpa [List.append_assoc] using this)) (h es c sv m Hr B C)
theorem jv_ {t kt E:TypeId} {x y:Operand} {m c:Nat} {e:TypeId} {sz:Nat} {l:List (K×D)} {k:K} {es:Array MapEntry} {sv:Value} {Hr:Hp} (G:KeyT P kt kv) (I:MOp P kt kv cells e sz l m k es c sv Hr) (B:∀ w,(underlying t).run P w=.ok (.map kt E) w) (J:∀ w,(zeroValue E).run P w=.ok (.slice none 0 0) w)
    (C:Fr.ev fr x=some (.map (some m))) (F:Fr.ev fr y=some (kv k)) (i:Nat) (hi:H[i]? = some (m,.map es c)):Yld P N fr H Γ (.lookup t x y false) ty sv:=by
  have hm:∀ v,v.sat H→ad_ Γ v→v.w.heap[m]? = some (.map es c):=fun v h _=>(h.own _ (List.mem_of_getElem? hi)).1
  rcases I with⟨A,rfl,_⟩|⟨i,z,A,_⟩
  · exact eV_ B J C F hm (G.ok k) A
  · exact eJ_ B C F hm (G.ok k) A
theorem oI_ {o:Op} {t kt U:TypeId} {x y z:Operand} {A c:Nat} {e:TypeId} {sz:Nat} {l:List (K×D)} {k:K} {dd:D} {es:Array MapEntry} {sv h:Value} {v Hr F:Hp} (S:KeyT P kt kv) (T:MOp P kt kv cells e sz l A k es c sv Hr) (L:az_ e sz h (lat (l++[(k,dd)]) k).length ((lat (l++[(k,dd)]) k).flatMap cells) v)
    (m:o=.insert t x y z∨o=.mapUpdate t x y z) (I:∀ w,(underlying t).run P w=.ok (.map kt U) w) (O:Fr.ev fr x=some (.map (some A))) (Q:Fr.ev fr y=some (kv k)) (M:Fr.ev fr z=some h) (X:H.Perm ((A,.map es c)::(v++(Hr++F))))
    (J:∀ H',ds_ kv cells e sz (l++[(k,dd)]) A H'→Ops P R N v0 H0 ops lo Kk fr (H'++F) Γ):Ops P R N v0 H0 ops (⟨none,o,ty,ps,af,none⟩::lo) Kk fr H Γ:=by
  refine A_ X ?_;rcases T with⟨E,_,G⟩|⟨i,q,E,W,V,_,G⟩
  · obtain⟨H',B,C⟩:=G dd h v L
    refine aC_ 0 m I O Q M rfl (S.ok k) E ?_;simp only[List.set_cons_zero];exact A_ zbz_ (J H' B)
  · obtain⟨H',B,C⟩:=G dd h v L
    refine fy_ 0 S m I O Q M rfl E W V ?_;simp only[List.set_cons_zero];exact A_ zbz_ (J H' B)
theorem fa_ {b:Nat×Obj} {O Q F:Hp} (h:H.Perm ((b::(O++Q))++F)):H.Perm (b::(O++(Q++F))):=by simpa [List.append_assoc] using h
theorem bg_ {b:Nat×Obj} {F:Hp} (h:H.Perm ([b]++F)):H.Perm (b::F):=h
theorem R_ {b:Nat×Obj} {F m:Hp} (h:H.Perm ([b]++F)) (v:F.Perm m):H.Perm (b::m):=List.Perm.trans h (v.cons b)
theorem qc_ {fn:Func} {m:Ending→World→Prop} {c:Code} (h:Run P (bodyPost P fn m) N v0 H0 c [] fr H Γ):Run P (bodyPost P fn m) N v0 H0 (.scope c) [] fr H Γ :=
  fun a v x y A B=>wp_scope_straight (wp_mono (h a v x y A B) fun e a w C=>by cases e<;>exact C)
theorem qe_ {c:Nat} (h:Fin P R N v0 H0 Kk fr H Γ):Run P R N v0 H0 (.label c) Kk fr H Γ :=
  fun a v m x y A=>wp_label (h a v m x y A)
end ops
end Go.Sx
namespace Go.Vs
open Go Go.Sx
structure Rul where
  f:Str
  s:Str
  r:Str
  deriving DecidableEq
structure Itm where
  r:Str
  i:Nat
  j:Nat
  deriving DecidableEq
def addI {α:Type} [DecidableEq α] (y:α) (l:List α):List α:=if y∈l then l else l++[y]
theorem lw_ {α:Type} [DecidableEq α] {y z:α} {l:List α}:z∈addI y l↔z∈l∨z=y:=by
 unfold addI
 by_cases h:y∈l
 ·rw[if_pos h];exact⟨.inl,fun q=>q.elim id fun e=>e▸h⟩
 rw[if_neg h,List.mem_append,List.mem_singleton]
section
variable {R:List Rul} {U:List Str} {n:Nat}
def Pr1 (n:Nat) (x:Itm) (T0:List Itm) (L:List Rul) (T:List Itm):Prop:=∀ y∈L,∀ e,x.j≤e→e≤n→(⟨y.s,x.j,e⟩:Itm)∈T0→(⟨y.r,x.i,e⟩:Itm)∈T
def Pr2 (x:Itm) (T0:List Itm) (L:List Rul) (T:List Itm):Prop:=∀ y∈L,∀ b,b≤x.i→(⟨y.f,b,x.i⟩:Itm)∈T0→(⟨y.r,b,x.j⟩:Itm)∈T
theorem Pr1.mono {x:Itm} {d T m:List Itm} {L:List Rul} (h:Pr1 n x d L T) (E:∀ y∈T,y∈m):Pr1 n x d L m:=fun y v e A B C=>E _ (h y v e A B C)
theorem Pr2.mono {x:Itm} {d T e:List Itm} {L:List Rul} (h:Pr2 x d L T) (B:∀ y∈T,y∈e):Pr2 x d L e:=fun y m b v A=>B _ (h y m b v A)
end
end Go.Vs
namespace Go.Sx
open Go Go.Vs
def lC_ (T:List Itm) (r:Str):List Value:=(List.range 4225).map fun k=>.bool (decide ((⟨r,k / 65,k%65⟩:Itm)∈T))
theorem os_ (T:List Itm) (r:Str):(lC_ T r).length=4225:=by simp[lC_]
theorem rl_ (T:List Itm) (r:Str) {k:Nat} (e:k<4225):(lC_ T r)[k]? = some (.bool (decide ((⟨r,k / 65,k%65⟩:Itm)∈T))):=by
  unfold lC_;rw[List.getElem?_map,List.getElem?_range e];rfl
theorem yZ_ {i j:Nat} (e:j≤64):(i*65+j) / 65=i∧(i*65+j)%65=j:=by omega
theorem zb_ (T:List Itm) (r:Str) {i j:Nat} (hi:i≤64) (m:j≤64):(lC_ T r)[i*65+j]? = some (.bool (decide ((⟨r,i,j⟩:Itm)∈T))):=by
  obtain⟨e,h⟩:=yZ_ (i:=i) m;rw[rl_ T r zaa_,e,h]
theorem or_ {T:List Itm} {r q:Str} {i j:Nat} (h:q≠r):lC_ (addI ⟨r,i,j⟩ T) q=lC_ T q:=by
  unfold lC_
  apply List.map_congr_left
  intro k _
  congr 1
  apply decide_eq_decide.2
  rw[lw_];exact⟨fun q=>q.elim id fun e=>absurd (congrArg Itm.r e) h,.inl⟩
theorem za_ (T:List Itm) (r:Str) {i j:Nat} (hi:i≤64) (m:j≤64):(lC_ T r).set (i*65+j) (.bool true)=lC_ (addI ⟨r,i,j⟩ T) r:=by
 apply List.ext_getElem?
 intro k;rw[List.getElem?_set,os_];obtain⟨v,x⟩:=yZ_ (i:=i) m
 by_cases h:i*65+j=k
 ·subst h
  rw[if_pos rfl,if_pos zaa_,zb_ _ _ hi m,decide_eq_true (lw_.2 (.inr rfl))]
 rw[if_neg h]
 by_cases hl:k<4225
 ·rw[rl_ _ _ hl,rl_ _ _ hl]
  congr 2
  apply decide_eq_decide.2
  rw[lw_];refine⟨.inl,fun q=>q.elim id fun e=>?_⟩;simp only[Itm.mk.injEq,true_and]at e;omega
 rw[List.getElem?_eq_none (by rw[os_];omega),List.getElem?_eq_none (by rw[os_];omega)]
def hq_ (ks:List (Str×Nat)) (k:Str):Option Nat:=(ks.find? fun p=>decide (p.1=k)).map (·.2)
def tptr (o:Option Nat):Value:=.pointer (o.map fun b=>⟨b,0,none⟩)
def re_ (tt:TypeId) (T:List Itm) (p:Str×Nat):Nat×Obj:=(p.2,.cells (lC_ T p.1).toArray tt (0,0))
structure TabE (ks:List (Str×Nat)) (T:List Itm) (es:Array MapEntry):Prop where
  keys:es.toList.map (·.key)=(ks.map (·.1)).map str
  vals:es.toList.map (·.val)=ks.map fun p=>tptr (some p.2)
  nd:(ks.map (·.1)).Nodup
  all:∀ x∈T,x.r∈ks.map (·.1)
def TabO (tt mb:Nat) (ks:List (Str×Nat)) (T:List Itm) (H:Hp):Prop:=∃ es c,H=(mb,.map es c)::ks.map (re_ tt T)∧TabE ks T es
theorem lB_ {ks:List (Str×Nat)} {k:Str} {b:Nat} (h:hq_ ks k=some b):(k,b)∈ks:=by
  unfold hq_ at h;rw[Option.map_eq_some_iff]at h;obtain⟨p,e,rfl⟩:=h;have m:=List.find?_some e;have v:=List.mem_of_find?_eq_some e;simp only[decide_eq_true_eq]at m;subst m;exact v
theorem jy_ {ks:List (Str×Nat)} {k:Str} (h:hq_ ks k=none):k ∉ ks.map (·.1):=by
  unfold hq_ at h;rw[Option.map_eq_none_iff,List.find?_eq_none]at h;intro hm;obtain⟨p,e,rfl⟩:=List.mem_map.1 hm;exact h p e zaf_
theorem yP_ {ks:List (Str×Nat)} {k:Str} {b:Nat} (h:hq_ ks k=none):hq_ (ks++[(k,b)]) k=some b:=by
  unfold hq_ at h ⊢;rw[Option.map_eq_none_iff]at h;rw[List.find?_append,h];simp
section
variable {P:Program} {kt:TypeId} {tt mb:Nat} {ks:List (Str×Nat)} {T:List Itm} {es:Array MapEntry} {H:Hp}
theorem TabO.at (h:TabO tt mb ks T H) {k:Str} {b:Nat} (G:hq_ ks k=some b):∃ Hr,H.Perm ((b,.cells (lC_ T k).toArray tt (0,0))::Hr) ∧
    ∀ i j,i≤64→j≤64→∃ H',TabO tt mb ks (addI ⟨k,i,j⟩ T) H'∧((b,Obj.cells ((lC_ T k).set (i*65+j) (.bool true)).toArray tt (0,0))::Hr).Perm H':=by
  obtain⟨es,c,rfl,hE⟩:=h;have hm:=lB_ G;obtain⟨v,y,rfl⟩:=List.append_of_mem hm;refine⟨(mb,.map es c)::(v++y).map (re_ tt T),?_,fun i j hi I=>?_⟩
  · rw[List.map_append,List.map_cons,List.map_append]
    exact (List.Perm.cons _ List.perm_middle).trans (.swap _ _ _)
  · refine⟨(mb,.map es c)::(v++(k,b)::y).map (re_ tt (addI ⟨k,i,j⟩ T)),⟨es,c,rfl,hE.keys,hE.vals,hE.nd,fun x A=>?_⟩,?_⟩
    · rcases lw_.1 A with A|rfl
      · exact hE.all x A
      · simp
    · have m:=hE.nd
      rw[List.map_append,List.map_cons,List.nodup_append,List.nodup_cons]at m
      have C:v.map (re_ tt (addI ⟨k,i,j⟩ T))=v.map (re_ tt T):=List.map_congr_left fun p B=>by
        unfold re_;rw[or_ fun e=>m.2.2 p.1 (List.mem_map_of_mem B) k zaf_ e]
      have E:y.map (re_ tt (addI ⟨k,i,j⟩ T))=y.map (re_ tt T):=List.map_congr_left fun p B=>by
        unfold re_;rw[or_ fun e=>m.2.1.1 (List.mem_map.2 ⟨p,B,e⟩)]
      rw[za_ T k hi I,List.map_append,List.map_append,List.map_cons,C,E];exact ((List.Perm.cons _ List.perm_middle).trans (.swap _ _ _)).symm
end
section ops
variable {P:Program} {N:Nf} {v0:Vw} {H0:Hp} {R:Exit→Act→World→Prop} {K:List Kt} {fr:Fr} {H F:Hp} {Γ:List Fct}
variable {ops:Array Oper} {l:List Oper} {d:Nat} {ty:TypeId} {ps:String} {af:Array Edge}
variable {tt mb:Nat} {ks:List (Str×Nat)} {T:List Itm} {Hx:Hp}
end ops
end Go.Sx
namespace Go.Sx
open Go Go.Vs
structure IntE {K:Type} (kv:K→Value) (es:Array MapEntry) (ks:List K) (vs:List Int):Prop where
  keys:es.toList.map (·.key)=ks.map kv
  vals:es.toList.map (·.val)=vs.map fun n=>Value.int .i64 n
  nd:ks.Nodup
section
variable {P:Program} {K:Type} [DecidableEq K] {kv:K→Value} {kt:TypeId} {es:Array MapEntry} {ks:List K} {vs:List Int}
theorem IntE.nil:IntE kv #[] ([]:List K) []:=⟨rfl,rfl,List.nodup_nil⟩
theorem IntE.no (m:KeyT P kt kv) (h:IntE kv es ks vs) {k:K} (e:k ∉ ks):da_ P kt (kv k) es.toList none:=m.nf k es.toList ks h.keys e
theorem IntE.push (h:IntE kv es ks vs) {k:K} (v:k ∉ ks) (n:Int) (c:Nat):IntE kv (es.push ⟨kv k,.int .i64 n,c⟩) (ks++[k]) (vs++[n]):=by
  refine⟨by simp[h.keys],by simp[h.vals],?_⟩;rw[List.nodup_append];exact⟨h.nd,by simp,fun a x b m e=>by simp at m;subst m;subst e;exact v x⟩
end
section ops
variable {P:Program} {N:Nf} {v0:Vw} {H0:Hp} {R:Exit→Act→World→Prop} {Kk:List Kt} {fr:Fr} {H:Hp} {Γ:List Fct}
variable {ops:Array Oper} {lo:List Oper} {d:Nat} {ty:TypeId} {ps:String} {af:Array Edge}
variable {K:Type} [DecidableEq K] {kv:K→Value}
theorem uK_ {o:Op} {t kt E:TypeId} {x y z:Operand} {e c:Nat} (j:Nat) {es:Array MapEntry} {ks:List K} {vs:List Int} {k:K} {n:Int} (v:KeyT P kt kv) (A:o=.insert t x y z∨o=.mapUpdate t x y z) (B:∀ w,(underlying t).run P w=.ok (.map kt E) w)
    (C:Fr.ev fr x=some (.map (some e))) (F:Fr.ev fr y=some (kv k)) (G:Fr.ev fr z=some (.int .i64 n)) (hi:H[j]? = some (e,.map es c)) (hE:IntE kv es ks vs) (m:k ∉ ks)
    (h:∀ es' c',IntE kv es' (ks++[k]) (vs++[n])→Ops P R N v0 H0 ops lo Kk fr (H.set j (e,.map es' c')) Γ):Ops P R N v0 H0 ops (⟨none,o,ty,ps,af,none⟩::lo) Kk fr H Γ :=
  aC_ j A B C F G hi (v.ok k) (hE.no v m) (h _ _ (hE.push m n c))
end ops
def iot (n:Nat):List Int:=(List.range n).map Int.ofNat
theorem wh_ {n i:Nat} {m:Int} (h:(iot n)[i]? = some m):m=i:=by
  unfold iot at h;rw[List.getElem?_map]at h;cases hq:(List.range n)[i]? with
  | none=>rw[hq]at h;simp at h
  | some j =>
    rw[hq]at h;obtain⟨v,e⟩:=List.getElem?_eq_some_iff.1 hq;simp at e h
    omega
theorem lj_ (n:Nat):iot (n+1)=iot n++[(n:Int)]:=by simp[iot,List.range_succ]
theorem Cd_ (n:Nat):(iot n).length=n:=by simp[iot]
end Go.Sx
namespace Go.Sx
open Go
section
variable {P:Program} {N:Nf} {v0:Vw} {H0:Hp} {R:Exit→Act→World→Prop} {K:List Kt} {fr:Fr} {H F:Hp} {Γ:List Fct} {ops:Array Oper} {l:List Oper} {d:Nat} {ty:TypeId} {ps:String} {af:Array Edge} {e:TypeId} {sz n:Nat} {sv:Value} {xs:List Value} {Hr:Hp}
theorem td_ {x y:Operand} {t A:TypeId} {by':Nat} {k kn:IntKind} (m:Elt P t e sz by') (B:P.underlying A=some (.int kn)) (J:Fr.ev fr x=some (.slice none 0 0)) (M:Fr.ev fr y=some (.int k (n:Int))) (U:0<n) (V:n*by'≤140737488355328) (h:n≤maxLen) (L:Nat.blt d N.n=true)
    (O:∀ (y:Nat×Array Value) (b:Nat),(n≤y.1∧y.1≤maxLen∧y.2.size=y.1*sz)→Ops P R N v0 H0 ops l K ((d,.slice (some ⟨b,0,none⟩) n y.1)::fr) ((b,.cells y.2 e (0,0))::H) Γ) :
    Ops P R N v0 H0 ops (⟨some d,.call ⟨.builtin .append,#[x,y],#[t,A]⟩,ty,ps,af,none⟩::l) K fr H Γ :=
  oH_ (β:=Nat×Array Value) (x:=fun y b=>.slice (some ⟨b,0,none⟩) n y.1) (o:=fun y=>.cells y.2 e (0,0)) (fun y=>n≤y.1∧y.1≤maxLen∧y.2.size=y.1*sz) L
    (fun a v G W X=>by
      obtain⟨i,z,hi,T,es,Q,I⟩:=m.info;subst es Q;have S:=Lib.run_append_nil_zeros (P:=P) v.w t A ty e i z k kn m.und B hi T n U m.pos (by simp only[maxLen]at h;omega) zaa_;have E:=grownCap_ge v.w n 0 e;have C:=grownCap_le_maxLen v.w n 0 e h;refine⟨(grownCap v.w n 0 e,Builtin.zeroCells z.cells n++Builtin.zeroCells z.cells (grownCap v.w n 0 e - n)),v.w.drew.alloc (.cells (Builtin.zeroCells z.cells n++Builtin.zeroCells z.cells (grownCap v.w n 0 e - n)) e),⟨E,C,?_⟩,?_,rfl,rfl,rfl,rfl,by simp⟩
      · simp only[Array.size_append,size_zeroCells,I,← Nat.add_mul]
        congr 1
        omega
      · simp only[execOp,resolve,invoke,builtin,Sem.run_bind,Sem.run_pure,Result.andThen_ok,List.map_toArray,List.map_cons,List.map_nil,G.ev J,G.ev M,S])
    O
theorem sl_ {x:Operand} {t:TypeId} {ad:Ao} {len cap:Nat} (m:∀ w,(underlying t).run P w=.ok (.slice e) w) (y:Fr.ev fr x=some (.slice ad len cap)) :
    Yld P N fr H Γ (.call ⟨.builtin .cap,#[x],#[t]⟩) ty (.int .i64 (cap:Int)) :=
  fun a v h _ _ _ _ _=>by simp[execOp,resolve,invoke,builtin,Builtin.cap_,m,h.ev y,goInt]
theorem wV_ {b cap:Nat} {cur:Array Value} (h:cap≤maxLen) (m:cur.size=cap*sz):az_ e sz (.slice (some ⟨b,0,none⟩) 0 cap) 0 [] [(b,.cells cur e (0,0))] :=
  ⟨by simp,.inr ⟨b,cap,cur,rfl,rfl,Nat.zero_le _,h,m,by simp⟩⟩
end
end Go.Sx
namespace Go.Sx
open Go
theorem tr_ {P:Program} {G:TypeId} {m:IntKind} (C:P.underlying G=some (.int m)):KeyT P G (fun n:Int=>.int m n) where
  ok:=fun k=>aS_ C
  nf:=fun k es ks h A=>ay_ C (by
    have:∀ (ks:List Int) (es:List MapEntry) (i:Nat),es.map (·.key)=ks.map (fun n:Int=>Value.int m n)→k ∉ ks→Instr.findNow (.int m) (.int m k) es i=some none:=by
      intro ks
      induction ks with
      | nil => intro es i h _; have : es = [] := by simpa using h
               subst this;rfl
      | cons q ks ih =>
        intro es i h A;cases es with
        | nil=>simp at h
        | cons e es =>
          simp only[List.map_cons,List.cons.injEq]at h;simp only[List.mem_cons,not_or]at A
          have y:Instr.sameNow (.int m) (.int m k) e.key=some false:=by
            rw[h.1];simp[Instr.sameNow,A.1]
          simp only[Instr.findNow,y];exact ih es (i+1) h.2 A.2
    exact this ks es 0 h A)
  sf:=fun k es ks i e h B hi v=>ay_ C (by
    have:∀ (ks:List Int) (es:List MapEntry) (j i:Nat),es.map (·.key)=ks.map (fun n:Int=>Value.int m n)→ks.Nodup→ks[i]? = some k→es[i]? = some e→Instr.findNow (.int m) (.int m k) es j=some (some (j+i,e.val)):=by
      intro ks
      induction ks with
      | nil=>intro es j i _ _ h;simp at h
      | cons q ks ih =>
        intro es j i h B hi v;cases es with
        | nil=>simp at h
        | cons x es =>
          simp only[List.map_cons,List.cons.injEq]at h;rw[List.nodup_cons]at B;cases i with
          | zero =>
            simp only[List.getElem?_cons_zero,Option.some.injEq]at hi v;subst hi;subst v
            have y:Instr.sameNow (.int m) (.int m q) x.key=some true:=by
              rw[h.1];simp[Instr.sameNow]
            simp only[Instr.findNow,y,Nat.add_zero]
          | succ i =>
            simp only[List.getElem?_cons_succ]at hi v;have E:k≠q:=fun e=>B.1 (e▸List.mem_of_getElem? hi)
            have y:Instr.sameNow (.int m) (.int m k) x.key=some false:=by
              rw[h.1];simp[Instr.sameNow,E]
            simp only[Instr.findNow,y];rw[ih es (j+1) i h.2 B.2 hi v,show j+1+i=j+(i+1) by omega]
    have:=this ks es 0 i h B hi v;rwa [Nat.zero_add]at this)
  same:=fun k=>ez_ 10000 k
end Go.Sx
namespace Go.Sx
open Go
section
variable {P:Program} {N:Nat} {v0:Vw} {H0:Hp} {R:Exit→Act→World→Prop} {Kk:List Kt} {fr:Fr} {H:Hp} {Γ:List Fct}
variable {ops:Array Oper} {lo:List Oper} {d:Nat} {ty:TypeId} {ps:String} {af:Array Edge}
variable {K:Type} [DecidableEq K] {kv:K→Value}
theorem xB_ {o:Op} {t J O:TypeId} {x y z:Operand} {b c:Nat} (n:Nat) {es:Array MapEntry} {q:List K} {k:K} (A:KeyT P J kv) (B:o=.insert t x y z∨o=.mapUpdate t x y z) (E:∀ w,(underlying t).run P w=.ok (.map J O) w)
    (G:Fr.ev fr x=some (.map (some b))) (L:Fr.ev fr y=some (kv k)) (M:Fr.ev fr z=some (.bool true)) (hi:H[n]? = some (b,.map es c)) (v:SetE kv es q)
    (m:∀ es' c',SetE kv es' (if k∈q then q else q++[k])→(Born es c→Born es' c')→Ops P R N v0 H0 ops lo Kk fr (H.set n (b,.map es' c')) Γ):Ops P R N v0 H0 ops (⟨none,o,ty,ps,af,none⟩::lo) Kk fr H Γ:=by
  by_cases h:k∈q
  · obtain⟨i,e,T,C,I,S,Q⟩:=v.yes A h
    refine fy_ n A B E G L M hi Q C I ?_;rw[hd_ C I S];exact m es c (by rw[if_pos h];exact v) id
  · exact aC_ n B E G L M hi (A.ok k) (v.no A h) (m _ _ (by rw[if_neg h];exact v.push h c) (fun hB=>hB.push _ _))
theorem qp_ {t h e:TypeId} {x:Operand} {b c:Nat} (n:Nat) {es:Array MapEntry} (m:P.underlying t=some (.map h e)) (y:Fr.ev fr x=some (.map (some b))) (hi:H[n]? = some (b,.map es c)) (B:Nat.blt d N=true)
    (E:∀ r,Ops P R N v0 H0 ops lo Kk ((d,.pointer (some ⟨r,0,none⟩))::fr) ((r,.mapIter (some b) c #[] c)::H) Γ):Ops P R N v0 H0 ops (⟨some d,.range t x,ty,ps,af,none⟩::lo) Kk fr H Γ :=
  hb_ (x:=fun b=>.pointer (some ⟨b,0,none⟩)) B (fun a v C G _=>by
    have A:=(G.own _ (List.mem_of_getElem? hi)).1;simp[execOp,C.ev y,run_range_map v.w t h e b es c m A]) E
theorem tb_ {J:Operand} {b r c h M:Nat} {es:Array MapEntry} {y:Array Nat} (n m:Nat) (hit:Fr.ev fr J=some (.pointer (some ⟨r,0,none⟩))) (Z:H[n]? = some (r,.mapIter (some b) h y M)) (hb:H[m]? = some (b,.map es c)) (I:∀ x∈es.toList,x.born<h) (U:h≤M) (hN:Nat.blt d N=true)
    (h0:(leftOf es y).size=0→Ops P R N v0 H0 ops lo Kk ((d,.tuple #[.bool false])::fr) H Γ)
    (Q:∀ e,e∈(leftOf es y).toList→Ops P R N v0 H0 ops lo Kk ((d,.tuple #[.bool true,e.key,e.val])::fr) (H.set n (r,.mapIter (some b) h (y.push e.born) c)) Γ):Ops P R N v0 H0 ops (⟨some d,.next J false,ty,ps,af,none⟩::lo) Kk fr H Γ :=
  cR_ rfl fun a v L G h3 h4=>by
    have E:=(G.own _ (List.mem_of_getElem? Z)).1;have W:=(G.own _ (List.mem_of_getElem? hb)).1;unfold Oper.wp;rcases run_next_at (P:=P) v.w ty r b h M y es c E W I U with⟨e0,B⟩|⟨e,he,C,A,B⟩
    · have V:(execOp a.eval ⟨some d,.next J false,ty,ps,af,none⟩).run P v.w=.ok (.value (.tuple #[.bool false])) v.w:=by simp[execOp,L.ev hit,B]
      rw[V];exact h0 e0 _ v (L.put hN) G h3 h4
    · have V:(execOp a.eval ⟨some d,.next J false,ty,ps,af,none⟩).run P v.w=.ok (.value (.tuple #[.bool true,e.key,e.val])) (ChangeMaps.setBlock C r (.mapIter (some b) h (y.push e.born) c)):=by simp[execOp,L.ev hit,B]
      rw[V];have O:C.heap[r]? = some (.mapIter (some b) h y M):=by rcases A with rfl|rfl<;>exact E
      have T:r<C.heap.size:=(Array.getElem?_eq_some_iff.1 O).1;have Y:C.heap=v.w.heap:=by rcases A with rfl|rfl<;>rfl
      have S:v.w.drawn≤C.drawn:=by
        rcases A with rfl|rfl
        · exact Nat.le_refl _
        · exact Nat.le_succ _
      obtain⟨g1,X⟩:=eY_ (w':=ChangeMaps.setBlock C r (.mapIter (some b) h (y.push e.born) c)) G Z zbO_ zbO_ zbO_ S (by simp[ChangeMaps.setBlock,Y])
        (by simp only[ChangeMaps.setBlock];rw[Array.getElem?_setIfInBounds_self_of_lt T]) (fun k Q=>by simp only[ChangeMaps.setBlock];rw[Array.getElem?_setIfInBounds_ne (Ne.symm Q),Y])
      exact Q e he _ ⟨v.im,_,v.sl⟩ (L.put hN) g1 (h3.trans X) (aD_ (X.le G) h4)
theorem pS_ {y:Operand} {b r c h:Nat} {es:Array MapEntry} {x:Array Nat} {e:MapEntry} (n m:Nat) (hit:Fr.ev fr y=some (.pointer (some ⟨r,0,none⟩))) (G:H[n]? = some (r,.mapIter (some b) h (x.push e.born) c)) (C:H[m]? = some (b,.map es c)) (B:e∈es.toList) (hB:Born es c) :
    Yld P N fr H Γ (.entry y) ty (.tuple #[e.key,e.val]) :=
  fun a v E A _ _ _ _=>by
    have:=run_entry_at (P:=P) v.w r b h x es c e (A.own _ (List.mem_of_getElem? G)).1 (A.own _ (List.mem_of_getElem? C)).1 B hB.nd;simp[execOp,E.ev hit,this]
structure ItS (kv:K→Value) (es:Array MapEntry) (seen:Array Nat) (done:List K):Prop where
  nd:done.Nodup
  mem:∀ e∈es.toList,seen.contains e.born=true↔∃ k∈done,e.key=kv k
  sub:∀ k∈done,∃ e∈es.toList,e.key=kv k
theorem ItS.nil {es:Array MapEntry}:ItS kv es #[] []:=⟨List.nodup_nil,fun e _=>by simp,fun k h=>by simp at h⟩
end
section
variable {P:Program} {N:Nat} {v0:Vw} {H0:Hp} {R:Exit→Act→World→Prop} {K:List Kt} {fr:Fr} {H F:Hp} {Γ:List Fct}
def sd_ {σ:Type} (v0:Vw) (H0:Hp) (Hj:σ→Hp) (ok:σ→Prop) (HL:Hp):Exit→Act→World→Prop
  | .normal,_,w=>∃ s' v,ok s'∧v.w=w∧v.sat (Hj s'++HL)∧v0.to H0 v (Hj s'++HL)
  | _,_,_=>False
theorem iL_ {σ ι:Type} {l D:Nat} {h:Loop} {B:Nat} {x:Value} {Hj:σ→Hp} {s:σ} {ok:σ→Prop} (M:ι→Fr) (L:ι→Hp)
    (hp:h.params=#[B]) (V:h.state=.ready) (hpe:h.pending=none) (ht:Fr.sat N fr ⟨h.tmps,[]⟩) (a0:Nat.blt B N=true)
    (y:∀ n v0 H0 HL,it_ (Fence.wide.inRound l) n P (Mid N v0 H0 M (fun i=>L i++HL) (fun _=>Γ)) N [] v0 H0 h.assign [] ((B,x)::fr) (Hj s++HL) Γ)
    (A:∀ n v0 H0 HL i,it_ (Fence.wide.inRound l) n P (sd_ v0 H0 Hj ok HL) N [] v0 H0 h.body [] (M i) (L i++HL) Γ) :
    jr_ P l x (Hj s++HLp l D h) Γ (fun _:{G:σ // ok G}=>.bool true) (fun G=>Hj G.1++HLp l D h) (fun _=>[]):=by
  intro v hs hΓ
  have m:∀ (X:Hp) r,(X++HLp l D r).Perm ((l,.loop r)::(X++[(D,.deferred (some []))])):=fun X r=>by
    unfold HLp;exact List.perm_middle
  have hl:v.w.heap[l]? = some (.loop h):=((hs.perm (m _ _)).own _ List.mem_cons_self).1;refine⟨h.fn,_,h.assign,h.body,run_yield hl (by simp[hp]),fun n=>roundIn_of_wpIn trivial ?_⟩;have Q:(h.params.zip #[x]).foldl (fun tmps (t,a)=>tmps.setIfInBounds t a) h.tmps=h.tmps.setIfInBounds B x:=by simp[hp]
  rw[Q];have J:Fr.sat N ((B,x)::fr) ⟨h.tmps.setIfInBounds B x,[]⟩:=ht.put a0;refine wpIn_mono (dA_.1 (y n v (Hj s++HLp l D h) (HLp l D h)) ⟨h.tmps.setIfInBounds B x,[]⟩ v J hs (Vw.to.refl _ _) hΓ) ?_;rintro e a1 w1 ⟨rfl,i,O,rfl,k1,k2,k3,k4⟩;have C:=k2.perm (m _ _);have T:=(C.own _ List.mem_cons_self).1;obtain⟨m1,m2⟩:=eZ_ (o':=.loop { h with state:=.busy }) C;refine⟨_,run_beginRound T V,?_⟩;have m3:=m1.perm (m (L i) { h with state:=.busy }).symm
  have m4:v.to (Hj s++HLp l D h) ⟨O.im,O.w.putObj l (.loop { h with state:=.busy }),O.sl⟩ (L i++HLp l D { h with state:=.busy }) :=
    (k3.trans ((m2.permL (m _ _).symm).subR fun b W=>((m (L i) { h with state:=.busy }).map Prod.fst).mem_iff.1 W))
  have Z:=aD_ (m2.le C) k4;refine wpIn_mono (dA_.1 (A n v (Hj s++HLp l D h) (HLp l D { h with state:=.busy }) i) a1 ⟨O.im,_,O.sl⟩ k1 m3 m4 Z) ?_;intro e2 a2 w2 E;cases e2 with
  | normal =>
    obtain⟨G,S,U,rfl,q1,q2⟩:=E;have I:=q1.perm (m _ _);have Y:=(I.own _ List.mem_cons_self).1;obtain⟨z1,z2⟩:=eZ_ (o':=.loop h) I;have er:({ h with state:=.ready,pending:=none }:Loop)=h:=by cases h;simp_all
    refine⟨_,_,run_endRound none Y,⟨G,U⟩,⟨S.im,S.w.putObj l (.loop h),S.sl⟩,rfl,?_,z1.perm (m _ _).symm,trivial,q2.trans ((z2.permL (m _ _).symm).subR fun b W=>((m (Hj G) h).map Prod.fst).mem_iff.1 W)⟩;simp[er]
  | ret=>exact E.elim
  | exit id=>exact E.elim
  | goto t=>exact E.elim
  | panic c=>exact E.elim
  | outgrown=>exact E.elim
theorem ko_ {σ:Type} {Hj:σ→Hp} {h G:Hp} {ok:σ→Prop} (e:σ) (m:ok e) (A:H.Perm (Hj e++h++G)):OkD N [] v0 H0 (sd_ v0 H0 Hj ok h .normal) fr H Γ :=
  cI_ (Γ':=[]) A (fun _ _ _=>trivial) fun a v B x y _=>⟨e,v,m,rfl,x,y⟩
theorem iW_ {σ α:Type} {g:Operand} {pm:Nat} {assign body:Code} {S:FuncId} {caps:List Value} {Hj:σ→Hp} {Hc:Hp} {Γi:List Fct} (Γx:List Fct) {xv:α→Value} {good:σ→α→Prop} {nx:α→σ→σ→Prop} {Rc:σ→Prop}
    (s0:σ) (hg:Fr.ev fr g=some (.func (.func S) #[] caps.toArray)) (hH:H.Perm (Hc++Hj s0)) (a3:∀ v,v.sat H→ad_ Γ v→ad_ Γi v)
    (C:∀ l D (m:Loop),m.params=#[pm]→m.state=.ready→m.pending=none→Fr.sat N fr ⟨m.tmps,[]⟩→m.assign=assign→m.body=body→∀ s x,good s x →
      jr_ P l (xv x) (Hj s++HLp l D m) Γx (fun _:{A:σ // nx x s A}=>.bool true) (fun A=>Hj A.1++HLp l D m) (fun _=>[]))
    (hit:∀ l (Gj:σ→Hp),(∀ s x,good s x→jr_ P l (xv x) (Gj s) Γx (fun _:{A:σ // nx x s A}=>.bool true) (fun A=>Gj A.1) (fun _=>[])) →
      Tri P S (.func (.yield l) #[] #[]::caps).toArray (Hc++Gj s0) Γi (fun _:{A:σ // Rc A}=>.tuple #[]) (fun A=>Hc++Gj A.1) (fun _=>[]))
    (G:∀ A,Rc A→∀ D l r,vB_ Fence.wide 0 P R N (pH_ D) v0 H0 K fr (Hc++Hj A++HLp l D r) Γ) :
    Run P R N v0 H0 (.rangeFunc g #[pm] assign body) K fr H Γ:=by
  intro a v I T h3 h4;refine wpIn_wide (n:=0) |>.1 (wpIn_mono (Q:=et_ Fence.wide 0 P R K) (wpIn_rangeFunc fun fn _=>?_) fun e a w hq=>bx_ K e a w hq)
  obtain⟨a1,a2⟩:=gd_ (w':=v.w.alloc (.deferred (some []))) (o:=.deferred (some [])) T rfl rfl rfl rfl (Nat.le_refl _);obtain⟨m,y⟩:∃ m:Loop,m={ state:=.ready,pending:=none,fn,tmps:=a.tmps,params:=#[pm],assign,body,defers:=v.w.heap.size }:=⟨_,rfl⟩;obtain⟨b1,b2⟩:=gd_ (w':=(v.w.alloc (.deferred (some []))).alloc (.loop m)) (o:=.loop m) a1 rfl rfl rfl rfl (Nat.le_refl _);have M:(v.w.alloc (Obj.deferred (some []))).heap.size=v.w.heap.size+1:=by simp
  have W:(⟨v.im,(v.w.alloc (.deferred (some []))).alloc (.loop m),v.sl⟩:Vw).sat ((v.w.heap.size+1,.loop m)::(v.w.heap.size,.deferred (some []))::H):=M▸b1;have J:v.to H ⟨v.im,(v.w.alloc (.deferred (some []))).alloc (.loop m),v.sl⟩ ((v.w.heap.size+1,.loop m)::(v.w.heap.size,.deferred (some []))::H):=a2.trans (M▸b2)
  have B:((v.w.heap.size+1,Obj.loop m)::(v.w.heap.size,.deferred (some []))::H).Perm (Hc++(Hj s0++HLp (v.w.heap.size+1) v.w.heap.size m)):=by
    rw[← List.append_assoc];exact (List.perm_append_comm (l₁:=HLp (v.w.heap.size+1) v.w.heap.size m) (l₂:=H)).trans (hH.append_right _)
  have hT:=hit (v.w.heap.size+1) (fun s=>Hj s++HLp (v.w.heap.size+1) v.w.heap.size m)
    (C _ _ m (by rw[y]) (by rw[y]) (by rw[y]) (by rw[y];exact⟨I.size,rfl,I.val⟩) (by rw[y]) (by rw[y]))
  have hΓ2:=aD_ (J.le T) (a3 v T h4);have he:=I.ev hg;refine⟨v.w.heap.size+1,pH_ v.w.heap.size,(v.w.alloc (.deferred (some []))).alloc (.loop m),⟨.fn (.func S) caps.toArray,#[.func (.yield (v.w.heap.size+1)) #[] #[]]⟩,(v.w.alloc (.deferred (some []))).alloc (.loop m),S,(.func (.yield (v.w.heap.size+1)) #[] #[]::caps).toArray,_,?_,?_,fun _ _=>trivial,?_,fun h=>(by cases h),callsIn_wide.2 ((hT.run ⟨v.im,_,v.sl⟩ (W.perm B) hΓ2).mono ?_)⟩
  · rw[y];exact run_enterLoop_outer _ _ _ _ _
  · simp only[resolve,rangeCall,List.map_toArray,List.map_cons,List.map_nil,he,Deferred.ofValue]
    rfl
  · have:=hT.callable (.func (.yield (v.w.heap.size+1)) #[] #[]::caps).toArray ((v.w.alloc (.deferred (some []))).alloc (.loop m))
    simpa [invoke] using this
  · rintro e w' ⟨⟨A,U⟩,v',rfl,rfl,g1,g2,g3⟩
    have O:=J.trans (g3.permL B.symm);have V:=aD_ (O.le T) h4;have a0:∀ L,SatD N L fr { a with defers:=L++a.defers }:=fun L=>⟨⟨I.size,rfl,I.val⟩,by show L++a.defers=L;rw[I.defers];simp⟩
    have E:∀ (X Y:Hp) r,(Y++(X++HLp (v.w.heap.size+1) v.w.heap.size r)).Perm ((v.w.heap.size+1,.loop r)::(Y++X++[(v.w.heap.size,.deferred (some []))])):=fun X Y r=>by
      unfold HLp;rw[← List.append_assoc];exact List.perm_middle
    have q:=g1.perm (E (Hj A) Hc m);have hl:=(q.own _ List.mem_cons_self).1;obtain⟨z1,z2⟩:=eZ_ (o':=.loop { m with state:=.exhausted }) q
    have zp:((v.w.heap.size+1,Obj.loop { m with state:=.exhausted })::(Hc++Hj A++[(v.w.heap.size,.deferred (some []))])).Perm (Hc++Hj A++HLp (v.w.heap.size+1) v.w.heap.size { m with state:=.exhausted }):=by
      have:=(E (Hj A) Hc { m with state:=.exhausted }).symm;rw[← List.append_assoc]at this;exact this
    refine⟨m.pending,_,run_endLoop hl (by rw[y];simp),?_⟩;have Z:m.pending=none:=by rw[y]
    split
    case h_2=>rename_i c hc;rw[Z]at hc;cases hc
    exact G A U _ _ _ _ ⟨v'.im,_,v'.sl⟩ (a0 _) (z1.perm zp) (h3.trans (O.trans ((z2.permL (E _ _ _).symm).subR fun b hb=>(zp.map Prod.fst).mem_iff.2 hb))) (aD_ (z2.le q) V)
theorem uw_ {σ α:Type} {g:Operand} {B:Nat} {assign body:Code} {A:FuncId} {caps:List Value} {Hj:σ→Hp} {Hc:Hp} {Γi:List Fct} {xv:α→Value} {good:σ→α→Prop} {nx:α→σ→σ→Prop} {Rc:σ→Prop}
    (y:σ) (C:Fr.ev fr g=some (.func (.func A) #[] caps.toArray)) (E:H.Perm (Hc++Hj y)) (m:∀ v,v.sat H→ad_ Γ v→ad_ Γi v)
    (e:∀ l D (rec:Loop),rec.params=#[B]→rec.state=.ready→rec.pending=none→Fr.sat N fr ⟨rec.tmps,[]⟩→rec.assign=assign→rec.body=body→∀ s x,good s x →
      jr_ P l (xv x) (Hj s++HLp l D rec) [] (fun _:{s':σ // nx x s s'}=>.bool true) (fun s'=>Hj s'.1++HLp l D rec) (fun _=>[]))
    (hit:∀ l (Gj:σ→Hp),(∀ s x,good s x→jr_ P l (xv x) (Gj s) [] (fun _:{s':σ // nx x s s'}=>.bool true) (fun s'=>Gj s'.1) (fun _=>[])) →
      Tri P A (.func (.yield l) #[] #[]::caps).toArray (Hc++Gj y) Γi (fun _:{s':σ // Rc s'}=>.tuple #[]) (fun s'=>Hc++Gj s'.1) (fun _=>[]))
    (h:∀ s',Rc s'→∀ D l r,vB_ Fence.wide 0 P R N (pH_ D) v0 H0 K fr (Hc++Hj s'++HLp l D r) Γ) :
    Run P R N v0 H0 (.rangeFunc g #[B] assign body) K fr H Γ:=
  iW_ [] y C E m e hit h
end
section
variable {Fc:Fence} {n:Nat} {P:Program} {N:Nat} {D:List Deferred} {v0:Vw} {H0:Hp} {R:Exit→Act→World→Prop} {K:List Kt} {fr:Fr} {H:Hp} {Γ:List Fct}
variable {ops:Array Oper} {l:List Oper} {d:Nat} {ty:TypeId} {ps:String} {af:Array Edge}
theorem qs_ {t e:TypeId} {len sz:Nat} {parts:List (Nat×Operand)} {vs:List (Nat×Value)} {y:Value} {cs:List Value} (hF:Opn Fc) (U:∀ w,(underlying t).run P w=.ok (.slice e) w) (V:∀ w,(sizeOf e).run P w=.ok sz w) (S:∀ w,(zeroValue e).run P w=.ok y w)
    (C:y.cells.toList.length=sz) (Z:Nat.blt 0 (len*sz)=true) (B:Nat.ble (len*sz) 16777216=true) (W:Fr.evp fr parts=some vs) (T:ng_ (fun i=>some (i*sz,sz)) (jO_ y.cells.toList len) vs=some cs) (X:Nat.blt d N=true)
    (Y:∀ b,fi_ Fc n P R N D v0 H0 ops l K ((d,.slice (some ⟨b,0,none⟩) len len)::fr) ((b,.cells cs.toArray e (0,0))::H) Γ):fi_ Fc n P R N D v0 H0 ops (⟨some d,.buildSlice t len parts.toArray,ty,ps,af,none⟩::l) K fr H Γ :=
  eg_ rfl fun a v J M h3 h4=>by
    refine⟨fun f _=>hF.fn f,?_⟩;rw[semAt_eq rfl]
    have Q:(execOp a.eval ⟨some d,.buildSlice t len parts.toArray,ty,ps,af,none⟩).run P v.w=.ok (.value (.slice (some ⟨v.w.heap.size,0,none⟩) len len)) (v.w.alloc (.cells cs.toArray e (0,0))):=by
      have E:=J.sat.evp W;have h:=je_ _ _ _ _ T;have m:0<len*sz:=by simpa [Nat.blt_eq] using Z
      have L:0<sz:=Nat.pos_of_mul_pos_left m;have O:len*sz≤16777216:=Nat.le_of_ble_eq_true B;have G:=kt_ y.cells.toList zaa_ len;rw[C]at G;simp only[Array.toArray_toList]at G;rw[← G]at h;have A:(parts.map fun (i,x)=>(i,a.eval x))=vs:=E;simp only[execOp,Instr.buildSlice,Sem.run_bind,U,Result.andThen_ok,V,List.map_toArray,A];rw[if_neg zaa_,if_neg zaa_];simp only[Sem.run_bind,Sem.run_pure,S,Result.andThen_ok,h];rfl
    rw[Q];obtain⟨g1,I⟩:=gd_ (w':=v.w.alloc (.cells cs.toArray e (0,0))) (o:=.cells cs.toArray e (0,0)) M rfl rfl rfl rfl (Nat.le_refl _);exact Y v.w.heap.size _ ⟨v.im,_,v.sl⟩ (J.put X) g1 (h3.trans I) (aD_ (I.le M) h4)
theorem fP_ {k:Act→World→Prop} {H':Hp} (e:H.Perm H') (h:OkD N D v0 H0 k fr H' Γ):OkD N D v0 H0 k fr H Γ :=
  fun a v m y A B=>h a v m (y.perm e) (A.subR fun b x=>(e.map Prod.fst).mem_iff.2 x) B
theorem jV_ {t e:TypeId} {x y:Operand} {b off sz m:Nat} {sv:Value} {xs:List Value} {Hr:Hp} (G:Opn Fc) (i:Nat) {cur:Array Value} {T:TypeId} (h:az_ e sz sv m xs Hr) (A:∀ w,(sizeOf t).run P w=.ok 1 w)
    (B:Fr.ev fr x=some (.pointer (some ⟨b,off,none⟩))) (C:Fr.ev fr y=some sv) (hi:H[i]? = some (b,.cells cur T (0,0))) (v:Nat.ble (off+1) cur.size=true)
    (E:fi_ Fc n P R N D v0 H0 ops l K fr (H.set i (b,.cells (cur.toList.take off++[sv]++cur.toList.drop (off+1)).toArray T (0,0))) Γ):fi_ Fc n P R N D v0 H0 ops (⟨none,.store t x y,ty,ps,af,none⟩::l) K fr H Γ :=
  ef_ G i A B C hi (by rw[(dy_ h).1];rfl) v (by rw[(dy_ h).1];simp[(dy_ h).2]) (by rw[(dy_ h).1];exact E)
theorem na_ {x y:Operand} {t e:TypeId} {sz by' m k c:Nat} {sv:Value} {xs news:List Value} {Hr F:Hp} {ad:Addr} (hF:Opn Fc) (G:Elt P t e sz by') (A:az_ e sz sv m xs Hr)
    (hx:Fr.ev fr x=some sv) (hy:Fr.ev fr y=some (.slice (some ad) k c)) (M:H.Perm (Hr++F)) (hl:news.length=k*sz) (B:∀ v,v.sat H→ad_ Γ v→∀ j u,news[j]? = some u→v.w.cell? (ad.add j)=some u) (E:∀ u∈news,u.oneCell'=true)
    (C:m+k≤maxLen) (X:(m+k)*by'≤140737488355328) (hN:Nat.blt d N=true)
    (hk:∀ sv' h,az_ e sz sv' (m+k) (xs++news) h→fi_ Fc n P R N D v0 H0 ops l K ((d,sv')::fr) (h++F) Γ) :
    fi_ Fc n P R N D v0 H0 ops (⟨some d,.call ⟨.builtin .append,#[x,y],#[t,t]⟩,ty,ps,af,none⟩::l) K fr H Γ :=
  eg_ rfl fun a v J L h3 U=>by
    refine⟨fun f _=>hF.fn f,?_⟩;rw[semAt_eq rfl];obtain⟨i,z,hi,W,es,S,ez⟩:=G.info;have g:=L.perm M;have V:=B v L U;have O:=A.owns g;obtain⟨Q,w',T,q1,q2,_⟩:=run_append_own (P:=P) v.w 0 t ty e i z sz by' G.und hi W es S ez G.pos sv m xs O ad k c news hl V E C X (Nat.zero_le _)
    obtain⟨a1,a2⟩:=lv_ v.w G.und hi W es O hl V E C (by rw[S];exact X) T;obtain⟨h,k1,k2,Y⟩:=qG_ A g q1 q2 a1 a2;have Z:a.eval x=sv:=J.sat.ev hx;have e2:a.eval y=.slice (some ad) k c:=J.sat.ev hy
    have I:(execOp a.eval ⟨some d,.call ⟨.builtin .append,#[x,y],#[t,t]⟩,ty,ps,af,none⟩).run P v.w=.ok (.value Q) w':=by
      simp only[execOp,resolve,invoke,builtin,Sem.run_bind,Sem.run_pure,Result.andThen_ok,List.map_toArray,List.map_cons,List.map_nil,Z,e2,T]
    rw[I];exact hk Q h k1 _ ⟨v.im,w',v.sl⟩ (J.put hN) k2 (h3.trans (Y.permL M.symm)) (aD_ ((Y.permL M.symm).le L) U)
end
end Go.Sx
namespace Go.Vs
open Go Go.Sx
abbrev RSt:=Str×Str×Bool
def nw_ (l:List Str) (x:Str):List Str:=if x∈l then l else l++[x]
def oe_ (l:List Str):List Str:=l.foldl nw_ []
theorem un_ (l:List Str) (x:Str):oe_ (l++[x])=nw_ (oe_ l) x:=by simp[oe_]
theorem AL_ {l:List Str} {x y:Str}:y∈nw_ l x↔y∈l∨y=x:=by
 unfold nw_
 split
 ·rename_i h
  exact⟨.inl,fun q=>q.elim id fun e=>e▸h⟩
 simp
theorem CF_ {l:List Str} {x:Str} (h:l.Nodup):(nw_ l x).Nodup:=by
 unfold nw_
 split
 ·exact h
 rename_i y
 rw[List.nodup_append];exact⟨h,by simp,fun a v b m e=>by simp at m;subst m;subst e;exact y v⟩
theorem od_ (l:List Str):(oe_ l).Nodup∧∀ y,y∈oe_ l↔y∈l:=by
  unfold oe_
  have A:∀ (l e:List Str),e.Nodup→(l.foldl nw_ e).Nodup∧∀ y,y∈l.foldl nw_ e↔y∈e∨y∈l:=by
    intro l
    induction l with
    | nil=>intro e h;exact⟨h,fun y=>by simp⟩
    | cons x l ih =>
      intro e h;obtain⟨m,v⟩:=ih (nw_ e x) (CF_ h);refine⟨m,fun y=>?_⟩;rw[List.foldl_cons,v,AL_,List.mem_cons,or_assoc]
  obtain⟨m,v⟩:=A l [] List.nodup_nil;exact⟨m,fun y=>by rw[v];simp⟩
def ik (S:List RSt) (r:Str):List Str:=oe_ ((S.filter fun z=>decide (z.1=r)).map (·.2.1))
def flg (S:List RSt) (r s:Str):Bool:=S.any fun z=>decide (z.1=r)&&(decide (z.2.1=s)&&z.2.2)
theorem pa_ {S:List RSt} {r s:Str}:s∈ik S r↔∃ c,(r,s,c)∈S:=by
 unfold ik;rw[(od_ _).2,List.mem_map];constructor
 ·rintro ⟨⟨a,b,c⟩,h,rfl⟩
  rw[List.mem_filter,decide_eq_true_eq]at h;obtain⟨e,rfl⟩:=h;exact⟨c,e⟩
 rintro ⟨c,h⟩;exact⟨(r,s,c),by rw[List.mem_filter];exact⟨h,by simp⟩,rfl⟩
theorem CS_ (S:List RSt) (r:Str):(ik S r).Nodup:=(od_ _).1
theorem rH_ (S:List RSt) (r s:Str) (c:Bool) (q:Str):ik (S++[(r,s,c)]) q=if r=q then nw_ (ik S q) s else ik S q:=by
 unfold ik;rw[List.filter_append,List.map_append]
 by_cases h:r=q
 ·rw[if_pos h]
  simp only[List.filter_cons,h,decide_true,if_true,List.filter_nil,List.map_cons,List.map_nil];exact un_ _ _
 rw[if_neg h];simp[h]
theorem pe_ {S:List RSt} {r s:Str}:flg S r s=true↔(r,s,true)∈S:=by
 unfold flg;rw[List.any_eq_true];constructor
 ·rintro ⟨⟨a,b,c⟩,h,e⟩
  simp only[Bool.and_eq_true,decide_eq_true_eq]at e;obtain⟨rfl,rfl,rfl⟩:=e;exact h
 exact fun h=>⟨_,h,by simp⟩
theorem pf_ (S:List RSt) (r s:Str) (c:Bool) (q t:Str):flg (S++[(r,s,c)]) q t=(flg S q t||(decide (r=q)&&(decide (s=t)&&c))):=by
  unfold flg;rw[List.any_append];simp
theorem flg_no {S:List RSt} {r s:Str} (h:s ∉ ik S r):flg S r s=false:=by
 cases e:flg S r s
 ·rfl
 exact absurd (pa_.2 ⟨true,pe_.1 e⟩) h
end Go.Vs
namespace Go.Sx
open Go Go.Vs
structure BolE (es:Array MapEntry) (ks:List Str) (g:Str→Bool):Prop where
  keys:es.toList.map (·.key)=ks.map str
  vals:es.toList.map (·.val)=ks.map fun k=>Value.bool (g k)
  nd:ks.Nodup
section
variable {P:Program} {kt:TypeId} {es:Array MapEntry} {ks:List Str} {g:Str→Bool}
theorem BolE.nil {g:Str→Bool}:BolE #[] [] g:=⟨rfl,rfl,List.nodup_nil⟩
theorem BolE.no (m:KeyT P kt str) (h:BolE es ks g) {k:Str} (e:k ∉ ks):da_ P kt (str k) es.toList none:=m.nf k es.toList ks h.keys e
theorem BolE.yes (B:KeyT P kt str) (h:BolE es ks g) {k:Str} (A:k∈ks):∃ i e,ks[i]? = some k∧es[i]? = some e∧e.key=str k∧e.val=.bool (g k)∧da_ P kt (str k) es.toList (some (i,.bool (g k))):=by
  obtain⟨i,hi⟩:=List.getElem?_of_mem A
  have y:i<es.toList.length:=by
    have:=(List.getElem?_eq_some_iff.1 hi).1;have e:=congrArg List.length h.keys;simp only[List.length_map]at e;omega
  have v:=List.getElem?_eq_getElem y;have x:=congrArg (fun l=>l[i]?) h.vals;simp only[List.getElem?_map,v,Option.map_some,hi,Option.some.injEq]at x;have m:=congrArg (fun l=>l[i]?) h.keys;simp only[List.getElem?_map,v,Option.map_some,hi,Option.some.injEq]at m;refine⟨i,es.toList[i],hi,by rw[← Array.getElem?_toList];exact v,m,x,?_⟩;have:=B.sf k es.toList ks i _ h.keys h.nd hi v;rwa [x]at this
theorem BolE.push (h:BolE es ks g) {k:Str} (y:k ∉ ks) (b:Bool) (c:Nat) {m:Str→Bool} (x:m k=b) (A:∀ q,q∈ks→m q=g q):BolE (es.push ⟨str k,.bool b,c⟩) (ks++[k]) m:=by
 refine⟨by simp[h.keys],?_,?_⟩
 ·rw[Array.toList_push,List.map_append,h.vals,List.map_append]
  simp only[List.map_cons,List.map_nil,x];rw[show List.map (fun q=>Value.bool (g q)) ks=List.map (fun q=>Value.bool (m q)) ks from List.map_congr_left fun q C=>by rw[A q C]]
 rw[List.nodup_append];exact⟨h.nd,by simp,fun a B b v e=>by simp at v;subst v;subst e;exact y B⟩
theorem BolE.set (h:BolE es ks g) {k:Str} {i:Nat} (hi:ks[i]? = some k) (b:Bool) {G:Str→Bool} (Q:G k=b) (T:∀ q,q≠k→G q=g q):BolE (es.modify i fun y=>{ y with key:=str k,val:=.bool b }) ks G:=by
 have A:=congrArg List.length h.keys;simp only[List.length_map]at A;refine⟨?_,?_,h.nd⟩
 ·rw[← h.keys]
  apply List.ext_getElem?
  intro j;simp only[List.getElem?_map,Array.getElem?_toList,Array.getElem?_modify]
  by_cases m:i=j
  ·subst m
   rw[if_pos rfl];have I:=congrArg (fun l=>l[i]?) h.keys;simp only[List.getElem?_map,hi,Option.map_some,Array.getElem?_toList]at I;cases he:es[i]? with
   | none=>rfl
   | some e=>rw[he]at I;simpa using I.symm
  rw[if_neg m]
 apply List.ext_getElem?
 intro j;have O:=congrArg (fun l=>l[j]?) h.vals;simp only[List.getElem?_map,Array.getElem?_toList,Array.getElem?_modify]at O ⊢
 by_cases m:i=j
 ·subst m
  have J:i<es.size:=by
    have:=(List.getElem?_eq_some_iff.1 hi).1;rw[Array.length_toList]at A;omega
  rw[if_pos rfl,Array.getElem?_eq_getElem J,hi];simp[Q]
 rw[if_neg m,O];cases hq:ks[j]? with
 | none=>rfl
 | some q =>
   have:q≠k:=fun e=>by
     subst e;have v:=(List.getElem?_eq_some_iff.1 hi).1;have x:=(List.getElem?_eq_some_iff.1 hq).1;have L:=(List.getElem?_eq_some_iff.1 hi).2;have M:=(List.getElem?_eq_some_iff.1 hq).2;have C:=h.nd;unfold List.Nodup at C;rw[List.pairwise_iff_getElem]at C;rcases Nat.lt_trichotomy i j with B|B|B
     · exact C i j v x B (L.trans M.symm)
     · exact m B
     · exact C j i x v B (M.trans L.symm)
   simp[T q this]
end
def gN_ (E:Str→Array MapEntry×Nat) (p:Str×Nat):Nat×Obj:=(p.2,.map (E p.1).1 (E p.1).2)
def nn_ (o:Option Nat):Value:=.map o
structure MmE (ks:List (Str×Nat)) (S:List RSt) (es:Array MapEntry) (c:Nat) (E:Str→Array MapEntry×Nat):Prop where
  keys:es.toList.map (·.key)=(ks.map (·.1)).map str
  vals:es.toList.map (·.val)=ks.map fun p=>nn_ (some p.2)
  nd:(ks.map (·.1)).Nodup
  all:∀ z∈S,z.1∈ks.map (·.1)
  born:Born es c
  inn:∀ k∈ks.map (·.1),BolE (E k).1 (ik S k) (flg S k)∧Born (E k).1 (E k).2
def MmO (mb:Nat) (ks:List (Str×Nat)) (S:List RSt) (H:Hp):Prop:=∃ es c E,H=(mb,.map es c)::ks.map (gN_ E)∧MmE ks S es c E
theorem MmO.nil (mb c:Nat):MmO mb [] [] [(mb,.map #[] c)]:=⟨#[],c,fun _=>(#[],0),rfl,rfl,rfl,List.nodup_nil,by simp,Born.nil c,by simp⟩
section
variable {P:Program} {kt:TypeId} {mb:Nat} {ks:List (Str×Nat)} {S:List RSt} {es:Array MapEntry} {c:Nat} {E:Str→Array MapEntry×Nat} {H:Hp}
theorem MmE.no (m:KeyT P kt str) (h:MmE ks S es c E) {k:Str} (e:hq_ ks k=none):da_ P kt (str k) es.toList none:=m.nf k es.toList _ h.keys (jy_ e)
theorem MmE.yes (v:KeyT P kt str) (h:MmE ks S es c E) {k:Str} {b:Nat} (m:hq_ ks k=some b):∃ i,da_ P kt (str k) es.toList (some (i,nn_ (some b))):=by
  obtain⟨i,hi⟩:=List.getElem?_of_mem (lB_ m);have e:=congrArg (fun l=>l[i]?) h.vals;simp only[List.getElem?_map,hi,Option.map_some]at e;cases hx:es.toList[i]? with
  | none=>rw[hx]at e;simp at e
  | some x =>
    rw[hx]at e;simp only[Option.map_some,Option.some.injEq]at e;refine⟨i,?_⟩;have:=v.sf k es.toList _ i x h.keys h.nd (by rw[List.getElem?_map,hi];rfl) hx;rwa [e]at this
theorem MmO.at (h:MmO mb ks S H) {k:Str} {b:Nat} (M:hq_ ks k=some b):∃ es c Hr,H.Perm ((b,.map es c)::Hr)∧BolE es (ik S k) (flg S k)∧Born es c ∧
    ∀ s d m v,BolE m (ik (S++[(k,s,d)]) k) (flg (S++[(k,s,d)]) k)→Born m v→∃ H',MmO mb ks (S++[(k,s,d)]) H'∧((b,Obj.map m v)::Hr).Perm H':=by
  obtain⟨es,c,E,rfl,hE⟩:=h;have hm:=lB_ M;have x:k∈ks.map (·.1):=List.mem_map_of_mem hm;obtain⟨B,C,rfl⟩:=List.append_of_mem hm;refine⟨(E k).1,(E k).2,(mb,.map es c)::(B++C).map (gN_ E),?_,(hE.inn k x).1,(hE.inn k x).2,fun s d m v hB G=>?_⟩
  · rw[List.map_append,List.map_cons,List.map_append]
    exact (List.Perm.cons _ List.perm_middle).trans (.swap _ _ _)
  · have y:=hE.nd
    rw[List.map_append,List.map_cons,List.nodup_append,List.nodup_cons]at y
    have J:B.map (gN_ fun q=>if q=k then (m,v) else E q)=B.map (gN_ E):=List.map_congr_left fun p I=>by
      unfold gN_;dsimp only;rw[if_neg fun e=>y.2.2 p.1 (List.mem_map_of_mem I) k zaf_ e]
    have O:C.map (gN_ fun q=>if q=k then (m,v) else E q)=C.map (gN_ E):=List.map_congr_left fun p I=>by
      unfold gN_;dsimp only;rw[if_neg fun e=>y.2.1.1 (List.mem_map.2 ⟨p,I,e⟩)]
    refine⟨(mb,.map es c)::(B++(k,b)::C).map (gN_ fun q=>if q=k then (m,v) else E q),⟨es,c,_,rfl,hE.keys,hE.vals,hE.nd,fun z A=>?_,hE.born,fun q L=>?_⟩,?_⟩
    · rcases List.mem_append.1 A with A|A
      · exact hE.all z A
      · rw[List.mem_singleton]at A;subst A;exact x
    · by_cases e:q=k
      · subst e;rw[if_pos rfl];exact⟨hB,G⟩
      · rw[if_neg e,rH_,if_neg (Ne.symm e)]
        have:flg (S++[(k,s,d)]) q=flg S q:=funext fun t=>by rw[pf_,decide_eq_false (Ne.symm e)];simp
        rw[this];exact hE.inn q L
    · have Q:gN_ (fun q=>if q=k then (m,v) else E q) (k,b)=(b,.map m v):=by unfold gN_;dsimp only;rw[if_pos rfl]
      rw[List.map_append,List.map_append,List.map_cons,J,O,Q];exact ((List.Perm.cons _ List.perm_middle).trans (.swap _ _ _)).symm
theorem MmE.push (h:MmE ks S es c E) {k:Str} (B:hq_ ks k=none) (b I:Nat):MmE (ks++[(k,b)]) S (es.push ⟨str k,nn_ (some b),c⟩) (c+1) (fun q=>if q=k then (#[],I) else E q):=by
 have v:=jy_ B;refine⟨by simp[h.keys],by simp[h.vals],?_,fun x y=>by simp only[List.map_append,List.mem_append];exact .inl (h.all x y),h.born.push _ _,fun q m=>?_⟩
 ·rw[List.map_append,List.nodup_append]
  exact⟨h.nd,by simp,fun a G q m e=>by simp at m;subst m;subst e;exact v G⟩
 by_cases e:q=k
 ·subst e
  rw[if_pos rfl]
  have:ik S q=[]:=List.eq_nil_iff_forall_not_mem.2 fun s A=>by
    obtain⟨d,C⟩:=pa_.1 A;exact v (h.all _ C)
  rw[this];exact⟨BolE.nil,Born.nil _⟩
 rw[if_neg e];refine h.inn q ?_;rw[List.map_append,List.mem_append]at m;rcases m with m|m
 ·exact m
 simp at m;exact absurd m e
end
section ops
variable {P:Program} {N:Nf} {v0:Vw} {H0:Hp} {R:Exit→Act→World→Prop} {K:List Kt} {fr:Fr} {H F:Hp} {Γ:List Fct}
variable {ops:Array Oper} {l:List Oper} {d:Nat} {ty:TypeId} {ps:String} {af:Array Edge}
variable {mb:Nat} {ks:List (Str×Nat)} {S:List RSt} {Hx:Hp}
theorem fn_ {t kt B:TypeId} {x y:Operand} {k:Str} (e:KeyT P kt str) (m:∀ w,(underlying t).run P w=.ok (.map kt B) w) (L:∀ w,(zeroValue B).run P w=.ok (.map none) w) (J:MmO mb ks S Hx) (A:Fr.ev fr x=some (.map (some mb))) (C:Fr.ev fr y=some (str k)) (I:H.Perm (Hx++F)) :
    Yld P N fr H Γ (.lookup t x y false) ty (nn_ (hq_ ks k)):=by
  obtain⟨es,c,E,rfl,hE⟩:=J;have hm:∀ v:Vw,v.sat H→ad_ Γ v→v.w.heap[mb]? = some (.map es c):=fun v h _=>(h.own (mb,.map es c) (I.mem_iff.2 zaf_)).1
  cases hk:hq_ ks k with
  | none=>exact eV_ m L A C hm (e.ok k) (hE.no e hk)
  | some b =>
    obtain⟨i,G⟩:=hE.yes e hk;exact eJ_ m A C hm (e.ok k) G
theorem yx_ {t G kt e:TypeId} {x y:Operand} {o:Option Nat} (B:P.underlying t=some (.map kt e)) (C:Fr.ev fr x=some (nn_ o)) (m:Fr.ev fr y=some (.map none)):Yld P N fr H Γ (.binOp .eql t x y G) ty (.bool (decide (o=none))) :=
  fun a v h _ _ _ _ _=>by
    have A:decide (o=none)=o.isNone:=by cases o<;>simp
    rw[A];have:=run_eql_map_nil (P:=P) v.w t kt e o B;simp[execOp,h.ev C,h.ev m,eqGuard,nn_,this]
theorem kg_ {t kt C:TypeId} {x y:Operand} {k s:Str} {b:Nat} (e:KeyT P kt str) (A:∀ w,(underlying t).run P w=.ok (.map kt C) w) (T:∀ w,(zeroValue C).run P w=.ok (.bool false) w) (Q:MmO mb ks S Hx) (L:hq_ ks k=some b) (B:Fr.ev fr x=some (.map (some b))) (G:Fr.ev fr y=some (str s)) (O:H.Perm (Hx++F)) :
    Yld P N fr H Γ (.lookup t x y false) ty (.bool (flg S k s)):=by
  obtain⟨es,c,Hr,M,I,_,_⟩:=Q.at L;have hm:∀ v:Vw,v.sat H→ad_ Γ v→v.w.heap[b]? = some (.map es c):=fun v h _=>(h.own _ (O.mem_iff.2 (List.mem_append_left _ (M.mem_iff.2 List.mem_cons_self)))).1
  by_cases m:s∈ik S k
  · obtain⟨_,_,_,_,_,_,J⟩:=I.yes e m
    exact eJ_ A B G hm (e.ok s) J
  · rw[flg_no m]
    exact eV_ A T B G hm (e.ok s) (I.no e m)
theorem zA_ {o:Op} {t kt M:TypeId} {x y z:Operand} {k:Str} {b h:Nat} (C:KeyT P kt str) (I:o=.insert t x y z∨o=.mapUpdate t x y z) (J:∀ w,(underlying t).run P w=.ok (.map kt M) w) (Q:MmO mb ks S Hx) (v:hq_ ks k=none)
    (L:Fr.ev fr x=some (.map (some mb))) (O:Fr.ev fr y=some (str k)) (T:Fr.ev fr z=some (.map (some b))) (A:H.Perm ((b,.map #[] h)::(Hx++F)))
    (B:∀ H',MmO mb (ks++[(k,b)]) S H'→Ops P R N v0 H0 ops l K fr (H'++F) Γ):Ops P R N v0 H0 ops (⟨none,o,ty,ps,af,none⟩::l) K fr H Γ:=by
  obtain⟨es,c,E,rfl,hE⟩:=Q
  have G:ks.map (gN_ fun q=>if q=k then (#[],h) else E q)=ks.map (gN_ E):=List.map_congr_left fun p A=>by
    unfold gN_;dsimp only;rw[if_neg fun e:p.1=k=>jy_ v (e▸List.mem_map_of_mem A)]
  have U:gN_ (fun q=>if q=k then (#[],h) else E q) (k,b)=(b,.map #[] h):=by unfold gN_;dsimp only;rw[if_pos rfl]
  have m:H.Perm ((mb,.map es c)::((ks++[(k,b)]).map (gN_ fun q=>if q=k then (#[],h) else E q)++F)):=by
    refine A.trans ?_;rw[List.map_append,List.map_cons,List.map_nil,G,U,List.cons_append];refine (List.Perm.swap _ _ _).trans (.cons _ ?_);rw[List.append_assoc];exact List.perm_middle.symm
  refine A_ m ?_;refine aC_ 0 I J L O T rfl (C.ok k) (hE.no C v) ?_;simp only[List.set_cons_zero];exact B _ ⟨_,_,_,rfl,hE.push v b h⟩
theorem ta_ {o:Op} {t kt Y:TypeId} {x y z:Operand} {k s:Str} {b:Nat} {e M:Bool} (A:KeyT P kt str) (I:o=.insert t x y z∨o=.mapUpdate t x y z) (L:∀ w,(underlying t).run P w=.ok (.map kt Y) w) (hT:MmO mb ks S Hx) (hk:hq_ ks k=some b) (he:M=(flg S k s||e))
    (U:Fr.ev fr x=some (.map (some b))) (V:Fr.ev fr y=some (str s)) (Q:Fr.ev fr z=some (.bool M)) (hp:H.Perm (Hx++F))
    (m:∀ H',MmO mb ks (S++[(k,s,e)]) H'→Ops P R N v0 H0 ops l K fr (H'++F) Γ):Ops P R N v0 H0 ops (⟨none,o,ty,ps,af,none⟩::l) K fr H Γ:=by
  subst he;obtain⟨es,c,Hr,h1,v,W,O⟩:=hT.at hk;have T:flg (S++[(k,s,e)]) k s=(flg S k s||e):=by rw[pf_];simp
  have J:∀ q,q≠s→flg (S++[(k,s,e)]) k q=flg S k q:=fun q C=>by rw[pf_,decide_eq_false (Ne.symm C)];simp
  refine A_ (hp.trans (h1.append_right F)) ?_
  by_cases h:s∈ik S k
  · obtain⟨i,en,g1,X,g3,g4,Z⟩:=v.yes A h
    obtain⟨H',B,G⟩:=O s e (es.modify i fun y=>{ y with key:=str s,val:=.bool (flg S k s||e) }) c (by rw[rH_,if_pos rfl,nw_,if_pos h];exact v.set g1 _ T J) (W.modify i _ fun _=>rfl);exact fy_ 0 A I L U V Q rfl Z X g3 (A_ (G.append_right F) (m H' B))
  · obtain⟨H',B,G⟩:=O s e (es.push ⟨str s,.bool (flg S k s||e),c⟩) (c+1) (by rw[rH_,if_pos rfl,nw_,if_neg h];exact v.push h (flg S k s||e) c T fun q C=>J q (fun e=>h (e▸C))) (W.push _ _)
    exact aC_ 0 I L U V Q rfl (A.ok s) (v.no A h) (A_ (G.append_right F) (m H' B))
end ops
end Go.Sx
namespace Go.Vs
open Go Go.Sx
def Ax.selfs (x:Ax):Nat:=x.roles.countP fun r=>decide (r=x.role)
def Ax.exm (x:Ax) (i:Nat):Bool:=decide (x.roles[i]? = some x.role)&&((decide (x.selfs=1)&&(decide (i=0)||decide (i+1=x.roles.length)))||(decide (x.selfs=2)&&decide (x.roles.length=2)))
def Ax.chs (x:Ax):Nat→List RSt
  | 0=>[]
  | i+1=>x.chs i++(match x.roles[i]? with|some r=>if x.exm i=true then [] else [(r,x.role,true)]|none=>[])
def Ax.steps (x:Ax):List RSt :=
  if x.kind=5 then (match x.roles[0]? with|some r=>if r=x.role then [] else [(r,x.role,false)]|none=>[])
  else if x.kind=6 then x.chs x.roles.length else []
def do_ (l:List Ax):List RSt:=l.flatMap Ax.steps
theorem us_ {l m:List Ax} (h:∀ x∈l,x∈m):∀ z∈do_ l,z∈do_ m:=fun z d=>by
  unfold do_ at d ⊢;rw[List.mem_flatMap]at d ⊢;obtain⟨x,e,d⟩:=d;exact⟨x,h x e,d⟩
theorem dE_ {l:List Ax} {i:Nat} {x:Ax} (h:l[i]? = some x):do_ (l.take (i+1))=do_ (l.take i)++x.steps:=by
  unfold do_;rw[List.take_add_one,h,List.flatMap_append];simp
theorem Ax.steps_five {x:Ax} {r:Str} (d:x.kind=5) (h:x.roles[0]? = some r) (e:r≠x.role):x.steps=[(r,x.role,false)]:=by unfold Ax.steps;rw[if_pos d,h];dsimp only;rw[if_neg e]
theorem Ax.steps_same {x:Ax} {r:Str} (d:x.kind=5) (h:x.roles[0]? = some r) (e:r=x.role):x.steps=[]:=by unfold Ax.steps;rw[if_pos d,h];dsimp only;rw[if_pos e]
theorem Ax.steps_six {x:Ax} (d:x.kind=6):x.steps=x.chs x.roles.length:=by unfold Ax.steps;rw[if_neg zaa_,if_pos d]
theorem Ax.steps_no {x:Ax} (d:x.kind≠5) (e:x.kind≠6):x.steps=[]:=by unfold Ax.steps;rw[if_neg d,if_neg e]
theorem Ax.chs_yes {x:Ax} {i:Nat} {r:Str} (h:x.roles[i]? = some r) (d:x.exm i=true):x.chs (i+1)=x.chs i:=by rw[Ax.chs,h];dsimp only;rw[if_pos d,List.append_nil]
theorem Ax.chs_no {x:Ax} {i:Nat} {r:Str} (h:x.roles[i]? = some r) (d:x.exm i=false):x.chs (i+1)=x.chs i++[(r,x.role,true)]:=by rw[Ax.chs,h];dsimp only;rw[if_neg (by rw[d];simp)]
def Frm (ks:List (Str×Nat)) (S:List RSt):Prop:=∀ k∈ks.map (·.1),∃ s c,(k,s,c)∈S
theorem Frm.nil {S:List RSt}:Frm [] S:=fun k d=>by simp at d
theorem Frm.more {ks:List (Str×Nat)} {S T:List RSt} (h:Frm ks S):Frm ks (S++T):=fun k e=>by
  obtain⟨s,c,d⟩:=h k e;exact⟨s,c,List.mem_append_left _ d⟩
theorem Frm.add {ks d:List (Str×Nat)} {S:List RSt} {r s:Str} {e:Bool} (h:Frm ks S) (x:∀ k∈d.map (·.1),k∈ks.map (·.1)∨k=r):Frm d (S++[(r,s,e)]):=fun k v=>by
 rcases x k v with y|rfl
 ·obtain⟨t,c,m⟩:=h k y
  exact⟨t,c,List.mem_append_left _ m⟩
 exact⟨s,e,by simp⟩
def sE (S:List RSt) (r s:Str) (c:Bool):Prop:=(r,s,c)∈S
def yv_ (S:List RSt):Prop:=∃ n,Clo (sE S) n
theorem Clo.sub {α:Type} {E F:α→α→Bool→Prop} {n:Nat} (h:∀ x y c,E x y c→F x y c):Clo E n→Clo F n:=fun⟨f,c,d,e,v,A⟩=>⟨f,c,d,e,fun m hm=>h _ _ _ (v m hm),A⟩
theorem yv_.sub {S T:List RSt} (h:∀ z∈S,z∈T):yv_ S→yv_ T:=fun⟨n,d⟩=>⟨n,d.sub fun x y c e=>h _ e⟩
theorem zC_ {α:Type} {l:List α} (h:l.Nodup) {i j:Nat} {x:α} (hi:l[i]? = some x) (y:l[j]? = some x):i=j:=by
 have d:=(List.getElem?_eq_some_iff.1 hi).1;have e:=(List.getElem?_eq_some_iff.1 y).1;have m:=(List.getElem?_eq_some_iff.1 hi).2;have v:=(List.getElem?_eq_some_iff.1 y).2;unfold List.Nodup at h;rw[List.pairwise_iff_getElem]at h;rcases Nat.lt_trichotomy i j with g|g|g
 ·exact absurd (m.trans v.symm) (h i j d e g)
 ·exact g
 exact absurd (v.trans m.symm) (h j i e d g)
structure GrO (S:List RSt) (R:List Str) (G:List (List (Nat×Bool))):Prop where
  len:G.length=R.length
  nd:R.Nodup
  mem:∀ r,r∈R↔∃ s c,(r,s,c)∈S
  row:∀ (i:Nat) (r:Str) (l:List (Nat×Bool)),R[i]? = some r→G[i]? = some l→∀ (j:Nat) (c:Bool),(j,c)∈l↔∃ s,R[j]? = some s∧(∃ c',(r,s,c')∈S)∧c=flg S r s
theorem GrO.to {S:List RSt} {R:List Str} {G:List (List (Nat×Bool))} (h:GrO S R G):∀ (i:Nat) (l:List (Nat×Bool)),G[i]? = some l→∀ s∈l,s.1<G.length:=by
  intro i l hl s m;have d:=(List.getElem?_eq_some_iff.1 hl).1;rw[h.len]at d;obtain⟨t,e,_⟩:=(h.row i _ l (List.getElem?_eq_getElem d) hl s.1 s.2).1 m;rw[h.len];exact (List.getElem?_eq_some_iff.1 e).1
theorem GrO.circ {S:List RSt} {R:List Str} {G:List (List (Nat×Bool))} (h:GrO S R G):yv_ S↔∃ n,Clo (gE G) n:=by
 constructor
 ·rintro ⟨n,f,c,H,I,y,C,e,x⟩
  have Q:∀ m,∃ j,m≤n→R[j]? = some (f m):=fun m=>by
    by_cases g:m≤n
    · by_cases N:m<n
      · obtain⟨j,L⟩:=List.getElem?_of_mem ((h.mem (f m)).2 ⟨_,_,y m N⟩)
        exact⟨j,fun _=>L⟩
      · obtain⟨j,L⟩:=List.getElem?_of_mem ((h.mem (f 0)).2 ⟨_,_,y 0 H⟩)
        exact⟨j,fun _=>by rw[show m=n by omega,I];exact L⟩
    · exact⟨0,fun q=>absurd q g⟩
  obtain⟨g,F⟩:=Classical.axiomOfChoice Q;refine⟨n,g,fun m=>flg S (f m) (f (m+1)),H,?_,fun m hm=>?_,C,e,?_⟩
  ·have v:=F n (Nat.le_refl _)
   have J:=F 0 (Nat.zero_le _);rw[I]at v;exact zC_ h.nd v J
  ·have v:=F m zaa_
   have B:g m<G.length:=by rw[h.len];exact (List.getElem?_eq_some_iff.1 v).1
   exact⟨_,List.getElem?_eq_getElem B,(h.row (g m) (f m) _ v (List.getElem?_eq_getElem B) _ _).2 ⟨f (m+1),F (m+1) zaa_,⟨_,y m hm⟩,rfl⟩⟩
  have:=y C e;rw[x]at this;exact pe_.2 this
 rintro ⟨n,g,c,H,I,y,C,e,x⟩
 have K:∀ m,m<n→∃ d,((R[g m]?).getD [],(R[g (m+1)]?).getD [],d)∈S∧(c m=true→d=true):=fun m hm=>by
   obtain⟨l,hl,O⟩:=y m hm;have E:g m<R.length:=by rw[← h.len];exact (List.getElem?_eq_some_iff.1 hl).1
   obtain⟨s,v,⟨P,J⟩,M⟩:=(h.row (g m) _ l (List.getElem?_eq_getElem E) hl _ _).1 O;rw[List.getElem?_eq_getElem E,v];simp only[Option.getD_some];cases hc:c m
   · exact⟨P,J,fun q=>by cases q⟩
   · rw[hc]at M
     exact⟨true,pe_.1 M.symm,fun _=>rfl⟩
 have A:∀ m,∃ d,m<n→((R[g m]?).getD [],(R[g (m+1)]?).getD [],d)∈S∧(c m=true→d=true):=fun m=>by
   by_cases g:m<n
   · obtain⟨d,A⟩:=K m g
     exact⟨d,fun _=>A⟩
   · exact⟨false,fun q=>absurd q g⟩
 obtain⟨d,A⟩:=Classical.axiomOfChoice A;exact⟨n,fun m=>(R[g m]?).getD [],d,H,by dsimp only;rw[I],fun m hm=>(A m hm).1,C,e,(A C e).2 x⟩
end Go.Vs
namespace Go.Sx
open Go
section
variable {P:Program} {N:Nat} {v0:Vw} {H0:Hp} {R:Exit→Act→World→Prop} {K:List Kt} {fr:Fr} {H F:Hp} {Γ:List Fct}
theorem bW_ {n:Nat}:∀ (K:List Kt) (e:Exit) (a:Act) (w:World),post P R K e a w→et_ Fence.wide n P R K e a w
 | [],_,_,_,h=>h
 | .seq c::K,.normal,a,w,h=>wpIn_wide.2 (wp_mono h fun e a w d=>bW_ K e a w d)
 | .seq _::K,.exit _,a,w,h=>bW_ K _ a w h
 | .seq _::K,.goto _,a,w,h=>bW_ K _ a w h
 | .seq _::K,.ret,a,w,h=>bW_ K _ a w h
 | .seq _::K,.panic _,a,w,h=>bW_ K _ a w h
 | .seq _::K,.outgrown,a,w,h=>bW_ K _ a w h
 | .inv J::_,.normal,_,_,h=>h
 | .inv _::K,.exit _,a,w,h=>bW_ K _ a w h
 | .inv _::K,.goto _,a,w,h=>bW_ K _ a w h
 | .inv _::K,.ret,a,w,h=>bW_ K _ a w h
 | .inv _::K,.panic _,a,w,h=>bW_ K _ a w h
 | .inv _::K,.outgrown,a,w,h=>bW_ K _ a w h
 | .blk id::K,.exit id',a,w,h=>by
   simp only[et_,post]at h ⊢
   split
   · rename_i e;rw[if_pos e]at h;exact bW_ K _ a w h
   · rename_i e;rw[if_neg e]at h;exact bW_ K _ a w h
 | .blk _::K,.normal,a,w,h=>bW_ K _ a w h
 | .blk _::K,.goto _,a,w,h=>bW_ K _ a w h
 | .blk _::K,.ret,a,w,h=>bW_ K _ a w h
 | .blk _::K,.panic _,a,w,h=>bW_ K _ a w h
 | .blk _::K,.outgrown,a,w,h=>bW_ K _ a w h
end
end Go.Sx
namespace Go.Sx
open Go
section
variable {P:Program} {N:Nf} {v0:Vw} {H0:Hp} {R:Exit→Act→World→Prop} {K:List Kt} {fr:Fr} {H F:Hp} {Γ:List Fct} {ops:Array Oper} {l:List Oper} {d:Nat} {ty:TypeId} {ps:String} {af:Array Edge} {e:TypeId} {sz n:Nat} {sv:Value} {xs:List Value} {Hr:Hp}
theorem zK_ (z:List Value) (h:0<z.length) (n:Nat):madeCells z.toArray (n*z.length)=(jO_ z n).toArray:=kt_ z h n
theorem mY_ {t:TypeId} {x y:Operand} {by':Nat} {z:Value} (O:P.underlying t=some (.slice e)) (hi:(P.info? e).map (fun i=>(i.zero,i.size,i.bytes))=some (some z,sz,by')) (m:z.cells.toList.length=sz) (G:0<sz) (I:Fr.ev fr x=some (.int .i64 (n:Int))) (L:Fr.ev fr y=some (.int .i64 (n:Int)))
    (Q:by'*n≤281474976710656) (A:n≤maxLen) (J:Nat.blt d N.n=true)
    (M:∀ sv Hr,az_ e sz sv n (jO_ z.cells.toList n) Hr→Ops P R N v0 H0 ops l K ((d,sv)::fr) (Hr++H) Γ):Ops P R N v0 H0 ops (⟨some d,.makeSlice t x y,ty,ps,af,none⟩::l) K fr H Γ:=by
  refine hb_ (x:=fun b=>.slice (some ⟨b,0,none⟩) n n) (o:=.cells (jO_ z.cells.toList n).toArray e (0,0)) J (fun a v C _ _=>?_) (fun b=>M _ [(b,.cells (jO_ z.cells.toList n).toArray e (0,0))] ⟨?_,.inr ⟨b,n,(jO_ z.cells.toList n).toArray,rfl,rfl,Nat.le_refl _,A,?_,?_⟩⟩)
  · cases h:P.info? e with
    | none=>rw[h]at hi;cases hi
    | some i =>
      rw[h]at hi;simp only[Option.map_some,Option.some.injEq,Prod.mk.injEq]at hi
      have B:(i.bytes:Int)*(n:Int)≤281474976710656:=by
        rw[hi.2.2];have h:((by'*n:Nat):Int)≤281474976710656:=by omega
        rwa [Int.natCast_mul]at h
      have E:=run_make (P:=P) v.w t e i z O h hi.1 .i64 .i64 (n:Int) (n:Int) zaa_ (Int.le_refl _) B (by simp only[maxLen]at A;omega);have hm:=zK_ z.cells.toList zaa_ n;rw[m,Array.toArray_toList]at hm;rw[hi.2.1,Int.toNat_natCast,hm]at E;simp only[execOp,C.ev I,C.ev L];simp[E]
  · rw[iK_,m]
  · simp only[List.size_toArray];rw[iK_,m]
  · rw[List.toList_toArray,List.take_of_length_le (by rw[iK_,m];exact Nat.le_refl _)]
theorem nR_ {α:Type} (f:α→List Value) (z:α):∀ n,jO_ (f z) n=(List.replicate n z).flatMap f
  | 0=>rfl
  | n+1=>by rw[jO_,List.replicate_succ,List.flatMap_cons,nR_ f z n]
end
end Go.Sx
namespace Go.Vs
open Go Go.Sx
def Ky.cells (k:Ky):List Value:=[.int .i64 k.kind,str k.role,str k.atom]
def Ky.val (k:Ky):Value:=.agg k.cells.toArray
def sE_ (s:kF_):List Value:=[str s.1,str s.2]
def in_ (s:kF_):Value:=.agg (sE_ s).toArray
def Ky.eqb (p q:Ky):Bool:=(p.kind==q.kind)&&((p.role==q.role)&&((p.atom==q.atom)&&true))
theorem Ky.eqb_eq (p q:Ky):p.eqb q=decide (p=q):=by
  rw[Bool.eq_iff_iff];cases p;cases q;simp[Ky.eqb]
def CO_ (p q:kF_):Bool:=(p.1==q.1)&&((p.2==q.2)&&true)
theorem yY_ (p q:kF_):CO_ p q=decide (p=q):=by
  rw[Bool.eq_iff_iff];cases p;cases q;simp[CO_]
theorem Fc.cells_one (p:Fc):p.cells.all Value.oneCell'=true:=rfl
end Go.Vs
namespace Go.Sx
open Go Go.Vs
structure Emt (P:Program) (tF:TypeId) where
  stp:Fc→List Fc→List Fc
  kof:List Fc→List Fc
  St:List Fc→List Fc→Hp→Prop
  fn:FuncId
  caps:List Value
  ef:Fct
  kb:Nat
  fb:Nat
  grows:Grows stp kof
  emit:∀ f nw fm H,St nw fm H→Tri P fn (f.val::caps).toArray H [ef] (fun _:{H':Hp // St (stp f nw) fm H'}=>.tuple #[]) (fun y=>y.1) (fun _=>[])
  known:∀ {nw fm H},St nw fm H→∃ es c,(kb,Obj.map es c)∈H∧SetE Fc.val es (kof nw)
  firm:∀ {nw fm H},St nw fm H→∃ es c q,(fb,Obj.map es c)∈H∧SetE Fc.val es q∧∀ f,f∈q↔f∈fm
  setf:∀ {nw fm H} (f:Fc),St nw fm H→∃ es c q Hr,H.Perm ((fb,Obj.map es c)::Hr)∧SetE Fc.val es q∧(∀ f,f∈q↔f∈fm)∧∀ es' c',SetE Fc.val es' (if f∈q then q else q++[f])→∃ H',St nw (f::fm) H'∧H'.Perm ((fb,Obj.map es' c')::Hr)
section
variable {P:Program} {N:Nf} {v0:Vw} {H0:Hp} {R:Exit→Act→World→Prop} {K:List Kt} {fr:Fr} {H:Hp} {Γ:List Fct}
variable {ops:Array Oper} {l:List Oper} {d:Nat} {ty:TypeId} {ps:String} {af:Array Edge} {tF:TypeId} {E:Emt P tF} {nw fm:List Fc} {Hs F:Hp}
theorem oE_ {b:Nat} {o:Obj} {v:Vw} (e:H.Perm (Hs++F)) (hm:(b,o)∈Hs) (h:v.sat H):v.w.heap[b]? = some o:=(h.own _ (e.mem_iff.2 (List.mem_append_left _ hm))).1
theorem jw_ {t e:TypeId} {x y:Operand} {f:Fc} (hS:E.St nw fm Hs) (L:KeyT P tF Fc.val) (A:∀ w,(underlying t).run P w=.ok (.map tF e) w) (I:∀ w,(zeroValue e).run P w=.ok (.bool false) w) (B:Fr.ev fr x=some (.map (some E.kb))) (C:Fr.ev fr y=some f.val) (G:H.Perm (Hs++F)) :
    Yld P N fr H Γ (.lookup t x y false) ty (.bool (decide (f∈E.kof nw))):=by
  obtain⟨es,c,J,m⟩:=E.known hS;exact ec_ L A I B C m fun v h _=>oE_ G J h
theorem sk_ {t m:TypeId} {x y:Operand} {f:Fc} (hS:E.St nw fm Hs) (O:KeyT P tF Fc.val) (B:∀ w,(underlying t).run P w=.ok (.map tF m) w) (L:∀ w,(zeroValue m).run P w=.ok (.bool false) w) (C:Fr.ev fr x=some (.map (some E.fb))) (I:Fr.ev fr y=some f.val) (J:H.Perm (Hs++F)) :
    Yld P N fr H Γ (.lookup t x y false) ty (.bool (decide (f∈fm))):=by
  obtain⟨es,c,q,M,A,G⟩:=E.firm hS;have:=ec_ (P:=P) (N:=N) (H:=H) (Γ:=Γ) (ty:=ty) O B L C I A fun v h _=>oE_ J M h
  have e:decide (f∈q)=decide (f∈fm):=by rw[decide_eq_decide];exact G f
  rw[← e];exact this
theorem zz_ {o:Op} {t J:TypeId} {x y z:Operand} {f:Fc} (hS:E.St nw fm Hs) (U:KeyT P tF Fc.val) (A:o=.insert t x y z∨o=.mapUpdate t x y z) (C:∀ w,(underlying t).run P w=.ok (.map tF J) w)
    (G:Fr.ev fr x=some (.map (some E.fb))) (L:Fr.ev fr y=some f.val) (T:Fr.ev fr z=some (.bool true)) (Q:H.Perm (Hs++F))
    (O:∀ Hs',E.St nw (f::fm) Hs'→Ops P R N v0 H0 ops l K fr (Hs'++F) Γ):Ops P R N v0 H0 ops (⟨none,o,ty,ps,af,none⟩::l) K fr H Γ:=by
  obtain⟨es,c,q,Hr,m,I,V,B⟩:=E.setf f hS;refine A_ (H':=(E.fb,.map es c)::(Hr++F)) (Q.trans (by have:=m.append_right F;simpa using this)) ?_;refine kX_ 0 U A C G L T rfl I fun e S h=>?_;obtain⟨H',v,M⟩:=B e S h;simp only[List.set_cons_zero];exact A_ (by have:=(M.append_right F).symm;simpa using this) (O H' v)
end
structure EngB where
  g:Nat
  pb:Nat
  ab:Nat
  ub:Nat
  ob:Nat
  ib:Nat
  rb:Nat
  sb:Nat
  lad:Ao
  lcap:Nat
  lps:List Str
structure EngA where
  p:Ky→Ao×Nat
  a:Str→Ao×Nat
  u:Str→Ao×Nat
  o:kF_→Ao×Nat
  i:kF_→Ao×Nat
  r:kF_→Ao×Nat
  s:kF_→Ao×Nat
def EngB.cells (B:EngB) {P:Program} {tF:TypeId} (E:Emt P tF):List Value :=
  [.map (some B.pb),.slice B.lad B.lps.length B.lcap,.map (some E.kb),.func (.func E.fn) #[] E.caps.toArray,.map (some B.ab),.map (some B.ub),.map (some B.ob),.map (some B.ib),.map (some B.rb),.map (some B.sb),.map (some E.fb)]
structure IxH where
  a:Hp
  u:Hp
  o:Hp
  i:Hp
  r:Hp
  s:Hp
def IxO (tS tF:TypeId) (B:EngB) (x:Ix) (y:IxH):Prop :=
  ds_ str au_ tS 1 x.above B.ab y.a∧ds_ str au_ tS 1 x.under B.ub y.u∧ds_ in_ au_ tS 1 x.frm B.ob y.o∧ds_ in_ au_ tS 1 x.into B.ib y.i∧ds_ in_ Fc.cells tF 6 x.ranges B.rb y.r∧ds_ in_ Fc.cells tF 6 x.firms B.sb y.s
end Go.Sx
