/-
  Part of the proof of the law CanonReaches over this seat: the small logic, the data, the contracts of functions (no condition).
-/
import Derived.Test.YtpbnmnfdgckaiaaGreatDoorQCanonReaches7
import Derived.Test.YtpbnmnfdgckaiaaGreatDoorQCanonReaches1
import Derived.Scope
import Derived.Test.YtpbnmnfdgckaiaaGreatDoorQCanonReaches6
import Derived.Lib.Join
import Derived.Lib.AppendZeros
import Derived.Test.YtpbnmnfdgckaiaaGreatDoorQCanonReaches2
import Derived.Test.YtpbnmnfdgckaiaaGreatDoorQCanonReaches3
import Derived.Maps.RangeRun
import Derived.WalkSpells
set_option linter.unusedVariables false
set_option linter.unusedSimpArgs false
set_option linter.unusedSectionVars false
set_option maxHeartbeats 1000000
namespace Go.Sx
open Go Go.Vs
theorem ql_ {P:Program} {f:FuncId} {args:Array Value} {H:Hp} {Γ M:List Fct} {ι:Type} {E:ι→Value} {H':ι→Hp} (B:Hp) (L:Tri P f args H Γ E H' (fun _=>[]))
    (Q:∀ v:Vw,(∀ p∈B,v.im p.1∧v.w.heap[p.1]? = some p.2)→Z_ M v→Z_ Γ v):Tri P f args (B++H) M E (fun x=>B++H' x) (fun _=>[]):=by
  refine⟨L.callable,fun v A S=>?_⟩;have y:=A.nodup;rw[List.map_append,List.nodup_append]at y;have G:∀ p∈B,p.1<v.w.heap.size:=fun p k=>(Array.getElem?_eq_some_iff.1 (A.own p (List.mem_append_left _ k)).1).1
  have J:(⟨fun b=>v.im b∨b∈B.map Prod.fst,v.w,v.sl⟩:Vw).sat H:=by
    refine⟨fun p k=>⟨(A.own p (List.mem_append_right _ k)).1,fun hi=>?_⟩,y.2.1,fun b m=>?_⟩
    · rcases hi with hi|hi
      · exact (A.own p (List.mem_append_right _ k)).2 hi
      · exact y.2.2 _ hi _ (List.mem_map_of_mem k) rfl
    · rcases m with m|m
      · exact A.lt b m
      · obtain⟨p,k,rfl⟩:=List.mem_map.1 m
        exact G p k
  have I:v.le ⟨fun b=>v.im b∨b∈B.map Prod.fst,v.w,v.sl⟩:=⟨fun b h=>.inl h,fun _ _=>rfl,rfl⟩;have T:=Q ⟨fun b=>v.im b∨b∈B.map Prod.fst,v.w,v.sl⟩ (fun p k=>⟨.inr (List.mem_map_of_mem k),(A.own p (List.mem_append_left _ k)).1⟩) (ao_ I S);refine (L.run _ J T).mono ?_;rintro e w' ⟨x,F,rfl,rfl,C,_,q⟩;have hB:∀ b,b∈B.map Prod.fst→F.im b:=fun b m=>q.imUp b (.inr m)
  refine⟨x,⟨fun b=>F.im b∧b ∉ B.map Prod.fst,F.w,F.sl⟩,rfl,rfl,⟨fun p k=>?_,?_,fun b m=>C.lt b m.1⟩,trivial,?_⟩
  · rcases List.mem_append.1 k with k|k
    · refine⟨?_,fun h=>h.2 (List.mem_map_of_mem k)⟩
      have:=(q.le J).block p.1 (.inr (List.mem_map_of_mem k));exact this.trans (A.own p (List.mem_append_left _ k)).1
    · exact⟨(C.own p k).1,fun h=>(C.own p k).2 h.1⟩
  · rw[List.map_append,List.nodup_append]
    refine⟨y.1,C.nodup,fun a O b m e=>?_⟩;subst e;obtain⟨p,k,rfl⟩:=List.mem_map.1 m;exact (C.own p k).2 (hB _ O)
  · refine⟨q.os,q.tape,q.output,q.size,fun b m U=>q.block b m (fun hm=>U ?_),fun b m=>⟨q.imUp b (.inl m),fun hm=>?_⟩,fun b m=>?_,fun b m=>?_,q.sl,q.dr⟩
    · rw[List.map_append];exact List.mem_append_right _ hm
    · obtain⟨p,k,rfl⟩:=List.mem_map.1 hm
      exact (A.own p (List.mem_append_left _ k)).2 m
    · rcases q.imNew b m.1 with (h|h)|h|h
      · exact .inl h
      · exact absurd h m.2
      · exact .inr (.inl (by rw[List.map_append];exact List.mem_append_right _ h))
      · exact .inr (.inr h)
    · rw[List.map_append]at m ⊢
      rcases List.mem_append.1 m with h|h
      · exact .inl (List.mem_append_left _ h)
      · exact (q.hNew b h).imp (List.mem_append_right _) id
structure KeyT (P:Program) (kt:TypeId) {K:Type} [DecidableEq K] (kv:K→Value):Prop where
  ok:∀ k,hg_ P kt (kv k)
  nf:∀ (k:K) (es:List MapEntry) (ks:List K),es.map (·.key)=ks.map kv→k ∉ ks→db_ P kt (kv k) es none
  sf:∀ (k:K) (es:List MapEntry) (ks:List K) (i:Nat) (e:MapEntry),es.map (·.key)=ks.map kv→ks.Nodup→ks[i]? = some k→es[i]? = some e→db_ P kt (kv k) es (some (i,e.val))
  same:∀ k,Instr.sameBits 10000 (kv k) (kv k)=true
section
variable {P:Program}
theorem nU_ (a b:List UInt8):((⟨a.toArray⟩:ByteArray)==⟨b.toArray⟩)=decide (a=b):=by
  show (a.toArray==b.toArray)=_
  rw[Bool.eq_iff_iff];simp
theorem qZ_ {kt:TypeId} (C:P.underlying kt=some .string):KeyT P kt str where
  ok:=fun k e w=>by
    have key:∀ m,(Instr.checkKey e (m+1) kt (str k)).run P w=.ok () w:=fun m=>by simp[Instr.checkKey,run_underlying C,str]
    exact key 9999
  nf:=fun k es ks h hk=>aJ_ C (by
    have:∀ (ks:List Str) (es:List MapEntry) (i:Nat),es.map (·.key)=ks.map str→k ∉ ks→Instr.findNow .string (str k) es i=some none:=by
      intro ks
      induction ks with
      | nil => intro es i h _; have : es = [] := by simpa using h
               subst this;rfl
      | cons q ks ih =>
        intro es i h hk;cases es with
        | nil=>simp at h
        | cons e es =>
          simp only[List.map_cons,List.cons.injEq]at h;simp only[List.mem_cons,not_or]at hk
          have y:Instr.sameNow .string (str k) e.key=some false:=by
            rw[h.1];show some ((⟨k.toArray⟩:ByteArray)==⟨q.toArray⟩)=some false
            rw[nU_,decide_eq_false hk.1]
          simp only[Instr.findNow,y];exact ih es (i+1) h.2 hk.2
    exact this ks es 0 h hk)
  sf:=fun k es ks i e h A hi v=>aJ_ C (by
    have:∀ (ks:List Str) (es:List MapEntry) (j i:Nat),es.map (·.key)=ks.map str→ks.Nodup→ks[i]? = some k→es[i]? = some e→Instr.findNow .string (str k) es j=some (some (j+i,e.val)):=by
      intro ks
      induction ks with
      | nil=>intro es j i _ _ h;simp at h
      | cons q ks ih =>
        intro es j i h A hi v;cases es with
        | nil=>simp at h
        | cons x es =>
          simp only[List.map_cons,List.cons.injEq]at h;rw[List.nodup_cons]at A;cases i with
          | zero =>
            simp only[List.getElem?_cons_zero,Option.some.injEq]at hi v;subst hi;subst v
            have y:Instr.sameNow .string (str q) x.key=some true:=by
              rw[h.1];show some ((⟨q.toArray⟩:ByteArray)==⟨q.toArray⟩)=some true
              rw[nU_,decide_eq_true rfl]
            simp only[Instr.findNow,y,Nat.add_zero]
          | succ i =>
            simp only[List.getElem?_cons_succ]at hi v;have B:k≠q:=fun e=>A.1 (e▸List.mem_of_getElem? hi)
            have y:Instr.sameNow .string (str k) x.key=some false:=by
              rw[h.1];show some ((⟨k.toArray⟩:ByteArray)==⟨q.toArray⟩)=some false
              rw[nU_,decide_eq_false B]
            simp only[Instr.findNow,y];rw[ih es (j+1) i h.2 A.2 hi v,show j+1+i=j+(i+1) by omega]
    have:=this ks es 0 i h A hi v;rwa [Nat.zero_add]at this)
  same:=fun k=>by
    have key:∀ m,Instr.sameBits m (str k) (str k)=true:=fun m=>by
      cases m<;>(show ((⟨k.toArray⟩:ByteArray)==⟨k.toArray⟩)=true;rw[nU_,decide_eq_true rfl])
    exact key 10000
theorem fy_ {K:Type} [DecidableEq K] {kt:TypeId} {fs:Array Field} {kv:K→Value} (F:P.underlying kt=some (.struct fs)) (C:∀ k,hg_ P kt (kv k)) (v:∀ p q w,(Op.equal kt (kv p) (kv q)).run P w=.ok (decide (p=q)) w) (y:∀ k,Instr.sameBits 10000 (kv k) (kv k)=true):KeyT P kt kv where
  ok:=C
  nf:=fun k es ks h hk=>(hH_ F v k ks es h).1 hk
  sf:=fun k es ks i e h B hi m=>by
    have key:∀ (ks:List K) (es:List MapEntry) (j i:Nat),es.map (·.key)=ks.map kv→ks.Nodup→ks[i]? = some k→es[i]? = some e→∀ w,(Instr.findAsking kt (kv k) es j).run P w=.ok (some (j+i,e.val)) w:=by
      intro ks
      induction ks with
      | nil=>intro es j i _ _ h;simp at h
      | cons q ks ih =>
        intro es j i h B hi m w;cases es with
        | nil=>simp at h
        | cons x es =>
          simp only[List.map_cons,List.cons.injEq]at h;rw[List.nodup_cons]at B;cases i with
          | zero =>
            simp only[List.getElem?_cons_zero,Option.some.injEq]at hi m;subst hi;subst m;simp only[Instr.findAsking,Sem.run_bind,h.1,v,Result.andThen_ok,decide_true,if_true,Sem.run_pure,Nat.add_zero]
          | succ i =>
            simp only[List.getElem?_cons_succ]at hi m;have E:k≠q:=fun e=>B.1 (e▸List.mem_of_getElem? hi)
            simp only[Instr.findAsking,Sem.run_bind,h.1,v,Result.andThen_ok,E,decide_false,Bool.false_eq_true,if_false];rw[ih es (j+1) i h.2 B.2 hi m w,show j+1+i=j+(i+1) by omega]
    intro w;have A:∀ (x:MapEntry) (r:List MapEntry),Instr.findNow (.struct fs) (kv k) (x::r) 0=none:=fun x r=>by simp[Instr.findNow,Instr.sameNow]
    cases es with
    | nil=>simp at m
    | cons x r =>
      simp only[Instr.findKey,Sem.run_bind,run_underlying F,Result.andThen_ok,A];have:=key ks (x::r) 0 i h B hi m w;rwa [Nat.zero_add]at this
  same:=y
end
theorem en_ (n:Nat) {k:IntKind} (i:Int):Instr.sameBits n (.int k i) (.int k i)=true:=by
  cases n<;>simp[Instr.sameBits]
theorem dl_ (n:Nat) (s:List UInt8):Instr.sameBits n (str s) (str s)=true:=by
  cases n<;>(show ((⟨s.toArray⟩:ByteArray)==⟨s.toArray⟩)=true;rw[nU_,decide_eq_true rfl])
theorem it_ {n:Nat} {l:List Value} (h:∀ v∈l,Instr.sameBits n v v=true):Instr.sameBits (n+1) (.agg l.toArray) (.agg l.toArray)=true:=by
 simp only[Instr.sameBits,BEq.rfl,Bool.true_and,List.all_eq_true];intro p k
 have:∀ (l:List Value),(∀ v∈l,Instr.sameBits n v v=true)→∀ p∈l.zip l,Instr.sameBits n p.1 p.2=true:=by
   intro l
   induction l with
   | nil=>intro _ p k;simp at k
   | cons a l ih =>
     intro h p k;simp only[List.zip_cons_cons,List.mem_cons]at k;rcases k with rfl|k
     · exact h a zB_
     · exact ih (fun v m=>h v (by simp[m])) p k
 exact this l h p k
structure Born (es:Array MapEntry) (c:Nat):Prop where
  lt:∀ x∈es.toList,x.born<c
  nd:(es.toList.map (·.born)).Nodup
theorem Born.nil (c:Nat):Born #[] c:=⟨by simp,by simp⟩
theorem Born.push {es:Array MapEntry} {c:Nat} (h:Born es c) (m val:Value):Born (es.push ⟨m,val,c⟩) (c+1):=by
 refine⟨fun x k=>?_,?_⟩
 ·rw[Array.toList_push,List.mem_append]at k
  rcases k with k|k
  ·exact Nat.lt_succ_of_lt (h.lt x k)
  rw[List.mem_singleton]at k;rw[k];exact Nat.lt_succ_self _
 rw[Array.toList_push,List.map_append,List.nodup_append];refine⟨h.nd,by simp,fun a q b v e=>?_⟩;obtain⟨x,k,rfl⟩:=List.mem_map.1 q;simp at v
 have:=h.lt x k;omega
theorem Born.modify {es:Array MapEntry} {c:Nat} (h:Born es c) (i:Nat) (f:MapEntry→MapEntry) (m:∀ e,(f e).born=e.born):Born (es.modify i f) c:=by
 have k:(es.modify i f).toList.map (·.born)=es.toList.map (·.born):=by
   apply List.ext_getElem?
   intro j;simp only[List.getElem?_map,Array.getElem?_toList,Array.getElem?_modify]
   split
   · cases es[j]? <;> simp[m]
   · rfl
 refine⟨fun x q=>?_,by rw[k];exact h.nd⟩;have:x.born∈(es.modify i f).toList.map (·.born):=List.mem_map_of_mem q;rw[k]at this;obtain⟨y,v,e⟩:=List.mem_map.1 this;rw[← e];exact h.lt y v
theorem Born.find {es:Array MapEntry} {c i:Nat} {x:MapEntry} (h:Born es c) (q:es[i]? = some x):es.findIdx? (fun e=>(e.born:Int)==(x.born:Int))=some i:=by
  rw[Array.findIdx?_eq_some_iff_getElem];obtain⟨hi,rfl⟩:=Array.getElem?_eq_some_iff.1 q;refine⟨hi,by simp,fun j m=>?_⟩;simp only[beq_eq_false_iff_ne,ne_eq,Bool.not_eq_true];intro e;have k:j<es.size:=Nat.lt_trans m hi;have:=h.nd;rw[List.nodup_iff_pairwise_ne,List.pairwise_iff_getElem]at this;have:=this j i zax_ (by simpa using hi) m;simp at this
  exact this (by exact_mod_cast e)
section
variable {K D:Type} [DecidableEq K] (kv:K→Value) (cells:D→List Value) (e:TypeId) (sz:Nat) (l:List (K×D))
def hf_:List K→List MapEntry→Hp→Prop
  | [],[],H=>H=[]
  | k::ks,x::es,H=>∃ Hk Hr,H=Hk++Hr∧x.key=kv k∧ay_ e sz x.val (lat l k).length ((lat l k).flatMap cells) Hk∧hf_ ks es Hr
  | _,_,_=>False
def cW_ (mb:Nat) (H:Hp):Prop:=∃ ks es c Hr,H=(mb,.map es c)::Hr∧ks.Nodup∧(∀ x∈l,x.1∈ks)∧hf_ kv cells e sz l ks es.toList Hr∧Born es c
end
section
variable {K D:Type} [DecidableEq K] {kv:K→Value} {cells:D→List Value} {e:TypeId} {sz:Nat} {l:List (K×D)}
theorem hf_.keys:∀ {ks:List K} {es:List MapEntry} {H:Hp},hf_ kv cells e sz l ks es H→es.map (·.key)=ks.map kv
  | [],[],_,_=>rfl
  | k::ks,x::es,_,h=>by
    obtain⟨v,Hr,_,q,_,m⟩:=h;simp[q,m.keys]
  | [],_::_,_,h=>h.elim
  | _::_,[],_,h=>h.elim
theorem hf_.congr {m:List (K×D)}:∀ {ks:List K} {es:List MapEntry} {H:Hp},(∀ k∈ks,lat m k=lat l k)→hf_ kv cells e sz l ks es H→hf_ kv cells e sz m ks es H
  | [],[],_,_,h=>h
  | k::ks,x::es,_,hl,h=>by
    obtain⟨E,Hr,B,C,A,v⟩:=h;exact⟨E,Hr,B,C,by rw[hl k zB_];exact A,v.congr fun q y=>hl q (by simp[y])⟩
  | [],_::_,_,_,h=>h.elim
  | _::_,[],_,_,h=>h.elim
theorem hf_.get : ∀ {ks : List K} {es : List MapEntry} {H : Hp} {i : Nat} {k : K}, hf_ kv cells e sz l ks es H → ks.Nodup → ks[i]? = some k → ∃ x A Hr, es[i]? = some x ∧ H.Perm (A ++ Hr) ∧ x.key = kv k ∧ ay_ e sz x.val (lat l k).length ((lat l k).flatMap cells) A ∧
      ∀ (v:List (K×D)) (y:MapEntry) (m:Hp),y.key=kv k→(∀ q,q≠k→lat v q=lat l q)→ay_ e sz y.val (lat v k).length ((lat v k).flatMap cells) m→∃ H',hf_ kv cells e sz v ks (es.set i y) H'∧H'.Perm (m++Hr)
  | [],_,_,_,_,_,_,h=>by simp at h
  | _::_,[],_,_,_,h,_,_=>h.elim
  | q::ks,x::es,H,0,k,h,hn,hi=>by
    simp only[List.getElem?_cons_zero,Option.some.injEq]at hi;subst hi;rw[List.nodup_cons]at hn;obtain⟨A,Hr,J,L,F,I⟩:=h;exact⟨x,A,Hr,rfl,J▸.refl _,L,F,fun v y m M C E=>⟨m++Hr,⟨m,Hr,rfl,M,E,I.congr fun z S=>C z (fun e=>hn.1 (e▸S))⟩,.refl _⟩⟩
  | q::ks,x::es,H,i+1,k,h,hn,hi=>by
    simp only[List.getElem?_cons_succ]at hi;rw[List.nodup_cons]at hn;obtain⟨B,Y,J,L,F,I⟩:=h;obtain⟨y,A,Hr,U,T,Q,X,V⟩:=I.get hn.2 hi;have G:q≠k:=fun e=>hn.1 (e▸List.mem_of_getElem? hi)
    refine⟨y,A,B++Hr,U,?_,Q,X,fun v z m M C E=>?_⟩
    · rw[J]
      refine (List.Perm.append_left B T).trans ?_;rw[← List.append_assoc,← List.append_assoc];exact List.perm_append_comm.append_right _
    · obtain⟨H',O,W⟩:=V v z m M C E
      refine⟨B++H',⟨B,H',rfl,L,by rw[C q G];exact F,O⟩,(List.Perm.append_left B W).trans ?_⟩;rw[← List.append_assoc,← List.append_assoc];exact List.perm_append_comm.append_right _
theorem hf_.push:∀ {ks:List K} {es:List MapEntry} {H:Hp} {k:K} {x:MapEntry} {Hk:Hp},hf_ kv cells e sz l ks es H→x.key=kv k→ay_ e sz x.val (lat l k).length ((lat l k).flatMap cells) Hk→hf_ kv cells e sz l (ks++[k]) (es++[x]) (H++Hk)
  | [],[],_,k,x,Hk,h,h1,h2=>by subst h;exact⟨Hk,[],by simp,h1,h2,rfl⟩
  | q::ks,y::es,_,k,x,Hk,h,h1,h2=>by
    obtain⟨B,Hr,rfl,A,m,v⟩:=h;exact⟨B,Hr++Hk,by simp,A,m,v.push h1 h2⟩
  | [],_::_,_,_,_,_,h,_,_=>h.elim
  | _::_,[],_,_,_,_,h,_,_=>h.elim
theorem iT_ {k q:K} {d:D} (h:q≠k):lat (l++[(k,d)]) q=lat l q:=by
  rw[nx_];simp[lat,Ne.symm h]
theorem ee_ {k:K} {d:D}:lat (l++[(k,d)]) k=lat l k++[d]:=by
  rw[nx_];simp[lat]
theorem cW_.open {P:Program} {kt:TypeId} (O:KeyT P kt kv) {A:Nat} {H:Hp} (h:cW_ kv cells e sz l A H) (k:K) :
    ∃ es c sv F Hr,H.Perm ((A,.map es c)::(F++Hr))∧ay_ e sz sv (lat l k).length ((lat l k).flatMap cells) F ∧
      ((db_ P kt (kv k) es.toList none∧sv=.slice none 0 0∧∀ d sv' m,ay_ e sz sv' (lat (l++[(k,d)]) k).length ((lat (l++[(k,d)]) k).flatMap cells) m→∃ H',cW_ kv cells e sz (l++[(k,d)]) A H'∧H'.Perm ((A,.map (es.push ⟨kv k,sv',c⟩) (c+1))::(m++Hr))) ∨
       (∃ i x,db_ P kt (kv k) es.toList (some (i,sv))∧es[i]? = some x∧x.key=kv k∧x.val=sv∧∀ d sv' m,ay_ e sz sv' (lat (l++[(k,d)]) k).length ((lat (l++[(k,d)]) k).flatMap cells) m→∃ H',cW_ kv cells e sz (l++[(k,d)]) A H'∧H'.Perm ((A,.map (es.modify i fun y=>{ y with key:=kv k,val:=sv' }) c)::(m++Hr)))):=by
  obtain⟨ks,es,c,Q,rfl,G,hl,hm,C⟩:=h
  by_cases hk:k∈ks
  · obtain⟨i,hi⟩:=List.getElem?_of_mem hk
    obtain⟨x,F,Hr,L,Z,g3,g4,X⟩:=hm.get G hi;have S:es[i]? = some x:=by rw[← Array.getElem?_toList];exact L
    refine⟨es,c,x.val,F,Hr,.cons _ Z,g4,.inr ⟨i,x,O.sf k es.toList ks i x hm.keys G hi L,S,g3,rfl,fun d sv' m M=>?_⟩⟩;obtain⟨H',U,j2⟩:=X (l++[(k,d)]) { x with key:=kv k,val:=sv' } m rfl (fun q J=>iT_ J) M;refine⟨(A,.map (es.modify i fun y=>{ y with key:=kv k,val:=sv' }) c)::H',⟨ks,_,c,H',rfl,G,fun y v=>?_,?_,C.modify i _ fun _=>rfl⟩,.cons _ j2⟩
    · rcases List.mem_append.1 v with v|v
      · exact hl y v
      · simp at v;rw[v];exact hk
    · have W:(es.modify i fun y=>{ y with key:=kv k,val:=sv' }).toList=es.toList.set i { x with key:=kv k,val:=sv' }:=by
        apply List.ext_getElem?
        intro j;rw[Array.getElem?_toList,Array.getElem?_modify,List.getElem?_set,Array.getElem?_toList]
        by_cases E:i=j
        · subst E
          have I:i<es.toList.length:=(List.getElem?_eq_some_iff.1 L).1;simp only[if_true,S,Option.map_some,if_pos I]
        · simp[E]
      rw[W];exact U
  · have B:lat l k=[]:=by
      apply List.eq_nil_iff_forall_not_mem.2
      intro d Y;exact hk (hl _ (bM_.1 Y))
    refine⟨es,c,.slice none 0 0,[],Q,.refl _,by rw[B];exact ay_.nil _ _,.inl ⟨O.nf k es.toList ks hm.keys hk,rfl,fun d sv' m M=>?_⟩⟩;refine⟨(A,.map (es.push ⟨kv k,sv',c⟩) (c+1))::(Q++m),⟨ks++[k],_,_,_,rfl,?_,fun y v=>?_,?_,C.push _ _⟩,.cons _ List.perm_append_comm⟩
    · rw[List.nodup_append];exact⟨G,by simp,fun a V b T e=>by simp at T;subst T;subst e;exact hk V⟩
    · rcases List.mem_append.1 v with v|v
      · exact List.mem_append_left _ (hl y v)
      · simp at v;simp[v]
    · rw[Array.toList_push]
      exact (hm.congr fun q J=>iT_ (fun (e:q=k)=>hk (e▸J))).push rfl M
structure MOpn (kv:K→Value) (cells:D→List Value) (e:TypeId) (sz:Nat) (l:List (K×D)) (mb:Nat) (k:K) (es:Array MapEntry) (c i:Nat) (st:Int) (Hr:Hp):Prop where
  find:es.findIdx? (fun x=>(x.born:Int)==st)=some i
  close:∀ d sv' Hk',ay_ e sz sv' (lat (l++[(k,d)]) k).length ((lat (l++[(k,d)]) k).flatMap cells) Hk'→∃ H',cW_ kv cells e sz (l++[(k,d)]) mb H'∧H'.Perm ((mb,.map (es.modify i fun y=>{ y with val:=sv' }) c)::(Hk'++Hr))
theorem sn_ {es:Array MapEntry} {i:Nat} {x:MapEntry} {key:Value} (k:es[i]? = some x) (hk:x.key=key):(es.modify i fun y=>{ y with key:=key })=es:=by
 apply Array.ext_getElem?
 intro j;rw[Array.getElem?_modify]
 by_cases h:i=j
 ·subst h;rw[if_pos rfl,k];simp only[Option.map_some];rw[← hk]
 rw[if_neg h]
theorem cW_.entry {P:Program} {kt:TypeId} (W:KeyT P kt kv) {C:Nat} {H:Hp} (h:cW_ kv cells e sz l C H) (k:K) :
    ∃ es c B T i st sv I Hr,H.Perm ((C,.map es c)::(I++Hr))∧ay_ e sz sv (lat l k).length ((lat l k).flatMap cells) I∧MOpn kv cells e sz l C k B T i st Hr ∧
      ((db_ P kt (kv k) es.toList none∧sv=.slice none 0 0∧B=es.push ⟨kv k,.slice none 0 0,c⟩∧T=c+1∧st=(c:Int))∨(∃ j x,db_ P kt (kv k) es.toList (some (j,sv))∧es[j]? = some x∧x.key=kv k∧B=es∧T=c∧st=(x.born:Int))):=by
  have h0:=h;obtain⟨ks,es,c,X,rfl,L,hl,hm,v⟩:=h0
  by_cases hk:k∈ks
  · obtain⟨i,hi⟩:=List.getElem?_of_mem hk
    obtain⟨x,I,Hr,Q,g2,Y,g4,g5⟩:=hm.get L hi;have V:es[i]? = some x:=by rw[← Array.getElem?_toList];exact Q
    refine⟨es,c,es,c,i,x.born,x.val,I,Hr,.cons _ g2,g4,⟨v.find V,fun d sv' A S=>?_⟩,.inr ⟨i,x,W.sf k es.toList ks i x hm.keys L hi Q,V,Y,rfl,rfl,rfl⟩⟩;obtain⟨H',j1,j2⟩:=g5 (l++[(k,d)]) { x with key:=kv k,val:=sv' } A rfl (fun q O=>iT_ O) S;refine⟨(C,.map (es.modify i fun y=>{ y with val:=sv' }) c)::H',⟨ks,_,c,H',rfl,L,fun y m=>?_,?_,v.modify i _ fun _=>rfl⟩,.cons _ j2⟩
    · rcases List.mem_append.1 m with m|m
      · exact hl y m
      · simp at m;rw[m];exact hk
    · have e1:(es.modify i fun y=>{ y with val:=sv' }).toList=es.toList.set i { x with key:=kv k,val:=sv' }:=by
        apply List.ext_getElem?
        intro j;rw[Array.getElem?_toList,Array.getElem?_modify,List.getElem?_set,Array.getElem?_toList]
        by_cases G:i=j
        · subst G
          have M:i<es.toList.length:=(List.getElem?_eq_some_iff.1 Q).1;simp only[if_true,V,Option.map_some,if_pos M];rw[← Y]
        · simp[G]
      rw[e1];exact j1
  · have E:lat l k=[]:=by
      apply List.eq_nil_iff_forall_not_mem.2
      intro d hd;exact hk (hl _ (bM_.1 hd))
    have U:=v.push (kv k) (.slice none 0 0);have F:(es.push ⟨kv k,.slice none 0 0,c⟩)[es.size]? = some ⟨kv k,.slice none 0 0,c⟩:=by simp
    refine⟨es,c,es.push ⟨kv k,.slice none 0 0,c⟩,c+1,es.size,(c:Int),.slice none 0 0,[],X,.refl _,by rw[E];exact ay_.nil _ _,⟨U.find F,fun d sv' A S=>?_⟩,.inl ⟨W.nf k es.toList ks hm.keys hk,rfl,rfl,rfl,rfl⟩⟩
    have e2:((es.push ⟨kv k,.slice none 0 0,c⟩).modify es.size fun y=>{ y with val:=sv' })=es.push ⟨kv k,sv',c⟩:=by
      apply Array.ext_getElem?
      intro j;rw[Array.getElem?_modify,Array.getElem?_push,Array.getElem?_push]
      by_cases J:j=es.size
      · subst J;simp
      · rw[if_neg (fun q=>J q.symm),if_neg J,if_neg J]
    rw[e2];refine⟨(C,.map (es.push ⟨kv k,sv',c⟩) (c+1))::(X++A),⟨ks++[k],_,_,_,rfl,?_,fun y m=>?_,?_,v.push _ _⟩,.cons _ List.perm_append_comm⟩
    · rw[List.nodup_append];exact⟨L,by simp,fun a ha b Z e=>by simp at Z;subst Z;subst e;exact hk ha⟩
    · rcases List.mem_append.1 m with m|m
      · exact List.mem_append_left _ (hl y m)
      · simp at m;simp[m]
    · rw[Array.toList_push]
      exact (hm.congr fun q O=>iT_ (fun (e:q=k)=>hk (e▸O))).push rfl S
theorem cW_.nil (h:Nat) (c:Nat):cW_ kv cells e sz ([]:List (K×D)) h [(h,.map #[] c)]:=⟨[],#[],c,[],rfl,List.nodup_nil,by simp,rfl,Born.nil c⟩
def mlF (P:Program) (kt:TypeId) (kv:K→Value) (cells:D→List Value) (mb:Nat) (l:List (K×D)) (adr:K→Option Addr×Nat):Fct where
  p:=fun v=>v.im mb∧∃ es c,v.w.heap[mb]? = some (.map es c)∧∀ k,bx_ v (adr k).1 ((lat l k).flatMap cells) ∧
    ((db_ P kt (kv k) es.toList none∧Value.slice (adr k).1 (lat l k).length (adr k).2=.slice none 0 0)∨∃ i,db_ P kt (kv k) es.toList (some (i,.slice (adr k).1 (lat l k).length (adr k).2)))
  mono:=fun v v' h ⟨h1,es,c,h2,h3⟩=>⟨h.imUp mb h1,es,c,by rw[h.block mb h1];exact h2,fun k=>⟨(ah_ _ _).mono v v' h (h3 k).1,(h3 k).2⟩⟩
theorem aV_ {P:Program} {kt:TypeId} {m:Nat} {adr:K→Option Addr×Nat} {v:Vw} (h:(mlF P kt kv cells m l adr).p v) (k:K):bx_ v (adr k).1 ((lat l k).flatMap cells):=by
  obtain⟨_,_,_,_,h⟩:=h;exact (h k).1
theorem tV_ {sv:Value} {n:Nat} {m:List Value} {Hr:Hp} {v:Vw} (h:ay_ e sz sv n m Hr) (A:∀ p∈Hr,v.im p.1∧v.w.heap[p.1]? = some p.2):∃ ad cap,sv=.slice ad n cap∧n≤cap∧cap≤maxLen∧(n≠0→∃ b,ad=some ⟨b,0,none⟩)∧bx_ v ad m:=by
 rcases h.2 with⟨rfl,rfl,rfl⟩|⟨g,cap,cur,rfl,rfl,B,C,F,q⟩
 ·have:m=[]:=List.eq_nil_of_length_eq_zero (by simpa using h.1)
  exact⟨none,0,rfl,Nat.le_refl _,by simp[maxLen],fun h=>absurd rfl h,.inl this⟩
 obtain⟨E,y⟩:=A _ (List.mem_singleton.2 rfl);refine⟨some ⟨g,0,none⟩,cap,rfl,B,C,fun _=>⟨g,rfl⟩,.inr ⟨g,0,cur,e,(0,0),rfl,E,y,fun j x k=>?_⟩⟩;rw[← q,List.getElem?_take]at k
 split at k
 ·rw[Nat.zero_add,← Array.getElem?_toList];exact k
 cases k
theorem cW_.lentC {P:Program} {kt:TypeId} (L:KeyT P kt kv) {E:Nat} {H:Hp} (h:cW_ kv cells e sz l E H):∃ adr:K→Option Addr×Nat,(∀ k,(lat l k).length≤(adr k).2∧((adr k).1=none→(adr k).2=0))∧∀ v:Vw,(∀ p∈H,v.im p.1∧v.w.heap[p.1]? = some p.2)→(mlF P kt kv cells E l adr).p v:=by
 have Z:=h;obtain⟨ks,es,c,U,rfl,S,hl,hm,_⟩:=Z
 have y:∀ k,∃ q:Option Addr×Nat,((lat l k).length≤q.2∧(q.1=none→q.2=0))∧∀ v:Vw,(∀ p∈(E,Obj.map es c)::U,v.im p.1∧v.w.heap[p.1]? = some p.2)→bx_ v q.1 ((lat l k).flatMap cells)∧((db_ P kt (kv k) es.toList none∧Value.slice q.1 (lat l k).length q.2=.slice none 0 0)∨∃ i,db_ P kt (kv k) es.toList (some (i,.slice q.1 (lat l k).length q.2))):=fun k=>by
   by_cases hk:k∈ks
   · obtain⟨i,hi⟩:=List.getElem?_of_mem hk
     obtain⟨x,Hk,Hr,F,G,g3,O,_⟩:=hm.get S hi;have X:=L.sf k es.toList ks i x hm.keys S hi F
     have J:∃ ad cap,x.val=.slice ad (lat l k).length cap∧(lat l k).length≤cap∧(ad=none→cap=0):=by
       rcases O.2 with⟨B,q2,_⟩|⟨g,cap,cur,B,_,V,_⟩
       · exact⟨none,0,by rw[B,q2],by omega,fun _=>rfl⟩
       · exact⟨_,cap,B,V,fun q=>by cases q⟩
     obtain⟨ad,cap,Q,I⟩:=J;refine⟨(ad,cap),I,fun v A=>⟨?_,.inr ⟨i,by rw[← Q];exact X⟩⟩⟩;obtain⟨Y,M,C,_,_,_,W⟩:=tV_ O fun p T=>A p (List.mem_cons_of_mem _ (G.mem_iff.2 (List.mem_append_left _ T)))
     rw[Q]at C;simp only[Value.slice.injEq]at C;rw[C.1];exact W
   · have m:lat l k=[]:=by
       apply List.eq_nil_iff_forall_not_mem.2
       intro d hd;exact hk (hl _ (bM_.1 hd))
     exact⟨(none,0),⟨by rw[m];simp,fun _=>rfl⟩,fun v A=>⟨.inl (by rw[m];rfl),.inl ⟨L.nf k es.toList ks hm.keys hk,by rw[m];rfl⟩⟩⟩
 refine⟨fun k=>(y k).choose,fun k=>(y k).choose_spec.1,fun v A=>?_⟩;obtain⟨F,G⟩:=A _ List.mem_cons_self;exact⟨F,es,c,G,fun k=>(y k).choose_spec.2 v A⟩
theorem cW_.lent {P:Program} {kt:TypeId} (m:KeyT P kt kv) {k:Nat} {H:Hp} (h:cW_ kv cells e sz l k H):∃ adr,∀ v:Vw,(∀ p∈H,v.im p.1∧v.w.heap[p.1]? = some p.2)→(mlF P kt kv cells k l adr).p v:=⟨_,(h.lentC m).choose_spec.2⟩
end
section
variable {P:Program} {K:Type} [DecidableEq K] {kv:K→Value} {kt:TypeId}
structure SetE (kv:K→Value) (es:Array MapEntry) (q:List K):Prop where
  keys:es.toList.map (·.key)=q.map kv
  vals:∀ x∈es.toList,x.val=.bool true
  nd:q.Nodup
theorem SetE.nil:SetE kv #[] ([]:List K):=⟨rfl,by simp,List.nodup_nil⟩
theorem SetE.size {es:Array MapEntry} {q:List K} (h:SetE kv es q):es.size=q.length:=by
  have:=congrArg List.length h.keys;simpa using this
theorem SetE.yes (B:KeyT P kt kv) {es:Array MapEntry} {q:List K} (h:SetE kv es q) {k:K} (hk:k∈q):∃ i x,q[i]? = some k∧es[i]? = some x∧x.key=kv k∧x.val=.bool true∧db_ P kt (kv k) es.toList (some (i,.bool true)):=by
  obtain⟨i,hi⟩:=List.getElem?_of_mem hk
  have m:i<es.toList.length:=by
    have:=(List.getElem?_eq_some_iff.1 hi).1;have e:=congrArg List.length h.keys;simp at e this ⊢;omega
  have y:=List.getElem?_eq_getElem m;have A:=h.vals _ (List.getElem_mem m)
  have v:es.toList[i].key=kv k:=by
    have:=congrArg (fun l=>l[i]?) h.keys;simp only[List.getElem?_map,y,hi,Option.map_some,Option.some.injEq]at this;exact this
  refine⟨i,es.toList[i],hi,by rw[← Array.getElem?_toList];exact y,v,A,?_⟩;have:=B.sf k es.toList q i _ h.keys h.nd hi y;rwa [A]at this
theorem SetE.no (m:KeyT P kt kv) {es:Array MapEntry} {q:List K} (h:SetE kv es q) {k:K} (hk:k ∉ q):db_ P kt (kv k) es.toList none:=m.nf k es.toList q h.keys hk
theorem SetE.push {es:Array MapEntry} {q:List K} (h:SetE kv es q) {k:K} (hk:k ∉ q) (c:Nat):SetE kv (es.push ⟨kv k,.bool true,c⟩) (q++[k]):=by
 refine⟨by simp[h.keys],fun x m=>?_,?_⟩
 ·rw[Array.toList_push,List.mem_append]at m
  rcases m with m|m
  ·exact h.vals x m
  simp at m;rw[m]
 rw[List.nodup_append];exact⟨h.nd,by simp,fun a y b v e=>by simp at v;subst v;subst e;exact hk y⟩
end
section ops
variable {P:Program} {N:Nf} {v0:Vw} {H0:Hp} {R:Exit→Act→World→Prop} {Kk:List Kt} {fr:Fr} {H:Hp} {Γ:List Fct}
variable {ops:Array Oper} {lo:List Oper} {d:Nat} {ty:TypeId} {ps:String} {af:Array Edge}
variable {K D:Type} [DecidableEq K] {kv:K→Value} {cells:D→List Value}
theorem bD_ {t kt q:TypeId} {x y:Operand} {C:Nat} {l:List (K×D)} {adr:K→Option Addr×Nat} {k:K} (A:KeyT P kt kv) (B:∀ w,(underlying t).run P w=.ok (.map kt q) w) (J:∀ w,(zeroValue q).run P w=.ok (.slice none 0 0) w) (E:Fr.ev fr x=some (.map (some C))) (F:Fr.ev fr y=some (kv k))
    (hm:∀ v,v.sat H→Z_ Γ v→(mlF P kt kv cells C l adr).p v):Yld P N fr H Γ (.lookup t x y false) ty (.slice (adr k).1 (lat l k).length (adr k).2) :=
  fun a v h M O _ _ _=>by
    obtain⟨_,es,c,Q,I⟩:=hm v M O;have G:=MapKept.run_getObj_map (P:=P) Q;rcases (I k).2 with⟨m,L⟩|⟨i,m⟩
    · rw[L];simp[execOp,h.ev E,h.ev F,Instr.lookup,B,G,A.ok _ _ _,m _,J]
    · simp[execOp,h.ev E,h.ev F,Instr.lookup,B,G,A.ok _ _ _,m _]
theorem bg_ {t kt m:TypeId} {x y:Operand} {C c:Nat} {es:Array MapEntry} {q:List K} {k:K} (h:KeyT P kt kv) (B:∀ w,(underlying t).run P w=.ok (.map kt m) w) (G:∀ w,(zeroValue m).run P w=.ok (.bool false) w) (E:Fr.ev fr x=some (.map (some C))) (F:Fr.ev fr y=some (kv k))
    (A:SetE kv es q) (hm:∀ v,v.sat H→Z_ Γ v→v.w.heap[C]? = some (.map es c)):Yld P N fr H Γ (.lookup t x y false) ty (.bool (decide (k∈q))):=by
  by_cases hk:k∈q
  · obtain⟨i,_,_,_,_,_,I⟩:=A.yes h hk
    rw[decide_eq_true hk];exact eX_ B E F hm (h.ok k) I
  · rw[decide_eq_false hk]
    exact eG_ B G E F hm (h.ok k) (A.no h hk)
theorem uW_ {t kt m:TypeId} {x:Operand} {h c:Nat} {es:Array MapEntry} (C:∀ w,(underlying t).run P w=.ok (.map kt m) w) (k:Fr.ev fr x=some (.map (some h))) (hm:∀ v,v.sat H→Z_ Γ v→v.w.heap[h]? = some (.map es c)) :
    Yld P N fr H Γ (.call ⟨.builtin .len,#[x],#[t]⟩) ty (.int .i64 (es.size:Int)) :=
  fun a v B q y _ _ _=>by
    have A:=MapKept.run_getObj_map (P:=P) (hm v q y);simp[execOp,resolve,invoke,builtin,Builtin.len_,B.ev k,C,A,goInt]
theorem hw_ {o:Op} {t kt I:TypeId} {x y z:Operand} {b c i:Nat} (n:Nat) {es:Array MapEntry} {e:MapEntry} {k:K} {u u':Value} (E:KeyT P kt kv) (T:o=.insert t x y z∨o=.mapUpdate t x y z) (J:∀ w,(underlying t).run P w=.ok (.map kt I) w)
    (W:Fr.ev fr x=some (.map (some b))) (Q:Fr.ev fr y=some (kv k)) (V:Fr.ev fr z=some u) (hi:H[n]? = some (b,.map es c)) (L:db_ P kt (kv k) es.toList (some (i,u'))) (m:es[i]? = some e) (q:e.key=kv k)
    (A:Ops P R N v0 H0 ops lo Kk fr (H.set n (b,.map (es.modify i fun y=>{ y with key:=kv k,val:=u }) c)) Γ):Ops P R N v0 H0 ops (⟨none,o,ty,ps,af,none⟩::lo) Kk fr H Γ :=
  cq_ rfl fun a v h B M X=>by
    have C:=(B.own _ (List.mem_of_getElem? hi)).1;have O:=MapKept.run_getObj_map (P:=P) C;have U:=MapKept.run_setObj_map (P:=P) (.map (es.modify i fun y=>{ y with key:=kv k,val:=u }) c) C
    have m:(execOp a.eval ⟨none,o,ty,ps,af,none⟩).run P v.w=.ok .skip { v.w with heap:=v.w.heap.setIfInBounds b (.map (es.modify i fun y=>{ y with key:=kv k,val:=u }) c) }:=by
      rcases T with rfl|rfl<;>simp[execOp,h.ev W,h.ev Q,h.ev V,Instr.mapUpdate,J,O,E.ok _ _ _,L _,U,Instr.keyThatStays,m,q,E.same]
    unfold Oper.wp;rw[m];have G:=MapKept.heap_set (o':=.map (es.modify i fun y=>{ y with key:=kv k,val:=u }) c) C;obtain⟨S,F⟩:=eL_ (w':={ v.w with heap:=v.w.heap.setIfInBounds b (.map (es.modify i fun y=>{ y with key:=kv k,val:=u }) c) }) B hi rfl rfl rfl (Nat.le_refl _) zB_ G.1 (fun k hk=>G.2 k hk);exact A a _ h S (M.trans F) (ao_ (F.le B) X)
theorem iz_ {es:Array MapEntry} {i:Nat} {e:MapEntry} {key val:Value} (m:es[i]? = some e) (hk:e.key=key) (k:e.val=val):(es.modify i fun y=>{ y with key:=key,val:=val })=es:=by
 apply Array.ext_getElem?
 intro j;rw[Array.getElem?_modify]
 by_cases h:i=j
 ·subst h;rw[if_pos rfl,m];simp only[Option.map_some];rw[← hk,← k]
 rw[if_neg h]
theorem nj_ {o:Op} {t kt J:TypeId} {x y z:Operand} {b c:Nat} (n:Nat) {es:Array MapEntry} {q:List K} {k:K} (v:KeyT P kt kv) (B:o=.insert t x y z∨o=.mapUpdate t x y z) (F:∀ w,(underlying t).run P w=.ok (.map kt J) w)
    (G:Fr.ev fr x=some (.map (some b))) (I:Fr.ev fr y=some (kv k)) (E:Fr.ev fr z=some (.bool true)) (hi:H[n]? = some (b,.map es c)) (m:SetE kv es q)
    (h:∀ es' c',SetE kv es' (if k∈q then q else q++[k])→Ops P R N v0 H0 ops lo Kk fr (H.set n (b,.map es' c')) Γ):Ops P R N v0 H0 ops (⟨none,o,ty,ps,af,none⟩::lo) Kk fr H Γ:=by
  by_cases hk:k∈q
  · obtain⟨i,e,O,A,C,L,M⟩:=m.yes v hk
    refine hw_ n v B F G I E hi M A C ?_;rw[iz_ A C L];exact h es c (by rw[if_pos hk];exact m)
  · exact aR_ n B F G I E hi (v.ok k) (m.no v hk) (h _ _ (by rw[if_neg hk];exact m.push hk c))
theorem fk_ {t kt M:TypeId} {x y:Operand} {m:Nat} {e:TypeId} {sz:Nat} {l:List (K×D)} {k:K} {X F:Hp} (E:KeyT P kt kv) (hm:cW_ kv cells e sz l m X) (S:∀ w,(underlying t).run P w=.ok (.map kt M) w) (hz:∀ w,(zeroValue M).run P w=.ok (.slice none 0 0) w)
    (Y:Fr.ev fr x=some (.map (some m))) (U:Fr.ev fr y=some (kv k)) (hH:H.Perm (X++F)) (hN:Nat.blt d N.n=true)
    (hk:∀ es c i st sv B Hr,MOpn kv cells e sz l m k es c i st Hr→ay_ e sz sv (lat l k).length ((lat l k).flatMap cells) B→Ops P R N v0 H0 ops lo Kk ((d,.tuple #[sv,.int .i64 st])::fr) ((m,.map es c)::(B++(Hr++F))) Γ) :
    Ops P R N v0 H0 ops (⟨some d,.mapEntry t x y,ty,ps,af,none⟩::lo) Kk fr H Γ:=by
  obtain⟨es,c,h,A,i,st,sv,B,Hr,p1,p2,p3,p4⟩:=hm.entry E k;refine cq_ rfl fun a v C h2 h3 h4=>?_
  have O:H.Perm ((m,.map es c)::(B++(Hr++F))):=hH.trans (by
    have:=p1.append_right F;simpa [List.append_assoc] using this)
  have q:=h2.perm O;have G:=(q.own _ List.mem_cons_self).1;have T:=MapKept.run_getObj_map (P:=P) G
  have he:(execOp a.eval ⟨some d,.mapEntry t x y,ty,ps,af,none⟩).run P v.w=.ok (.value (.tuple #[sv,.int .i64 st])) { v.w with heap:=v.w.heap.setIfInBounds m (.map h A) }:=by
    rcases p4 with⟨I,rfl,rfl,rfl,rfl⟩|⟨j,z,I,Z,Q,rfl,rfl,rfl⟩
    · have L:=MapKept.run_setObj_map (P:=P) (.map (es.push ⟨kv k,.slice none 0 0,c⟩) (c+1)) G
      simp[execOp,C.ev Y,C.ev U,Instr.mapEntry,S,T,E.ok _ _ _,I _,hz,L,goInt]
    · have L:=MapKept.run_setObj_map (P:=P) (.map h A) G
      simp[execOp,C.ev Y,C.ev U,Instr.mapEntry,S,T,E.ok _ _ _,I _,Instr.keyThatStays,Z,Q,E.same,sn_ Z Q,L,goInt]
  unfold Oper.wp;rw[he];have W:=MapKept.heap_set (o':=.map h A) G;obtain⟨V,J⟩:=eL_ (i:=0) (o':=.map h A) (w':={ v.w with heap:=v.w.heap.setIfInBounds m (.map h A) }) q rfl rfl rfl rfl (Nat.le_refl _) zB_ W.1 (fun k hk=>W.2 k hk);simp only[List.set_cons_zero]at V J;exact hk h A i st sv B Hr p3 p2 _ _ (C.put hN) V (h3.trans (J.permL O.symm)) (ao_ (J.le q) h4)
theorem cZ_ {t:TypeId} {x y z:Operand} {h c i:Nat} {e:TypeId} {sz:Nat} {l:List (K×D)} {k:K} {dd:D} {es:Array MapEntry} {st:Int} {sv:Value} {A Hr F:Hp} (I:MOpn kv cells e sz l h k es c i st Hr) (Q:ay_ e sz sv (lat (l++[(k,dd)]) k).length ((lat (l++[(k,dd)]) k).flatMap cells) A)
    (Z:Fr.ev fr x=some (.map (some h))) (V:Fr.ev fr y=some (.int .i64 st)) (X:Fr.ev fr z=some sv) (L:H.Perm ((h,.map es c)::(A++(Hr++F))))
    (hk:∀ H',cW_ kv cells e sz (l++[(k,dd)]) h H'→Ops P R N v0 H0 ops lo Kk fr (H'++F) Γ):Ops P R N v0 H0 ops (⟨none,.entryStore t x y z,ty,ps,af,none⟩::lo) Kk fr H Γ:=by
  obtain⟨H',M,q2⟩:=I.close dd sv A Q;refine cq_ rfl fun a v B Y T h4=>?_;have m:=Y.perm L;have q:=(m.own _ List.mem_cons_self).1;have U:=MapKept.run_getObj_map (P:=P) q;have W:=MapKept.run_setObj_map (P:=P) (.map (es.modify i fun y=>{ y with val:=sv }) c) q
  have O:(execOp a.eval ⟨none,.entryStore t x y z,ty,ps,af,none⟩).run P v.w=.ok .skip { v.w with heap:=v.w.heap.setIfInBounds h (.map (es.modify i fun y=>{ y with val:=sv }) c) }:=by
    have S:=I.find;simp[execOp,B.ev Z,B.ev V,B.ev X,Instr.entryStore,U,W,asInt,asIntOf,S]
  unfold Oper.wp;rw[O];have G:=MapKept.heap_set (o':=.map (es.modify i fun y=>{ y with val:=sv }) c) q;obtain⟨E,C⟩:=eL_ (i:=0) (o':=.map (es.modify i fun y=>{ y with val:=sv }) c) (w':={ v.w with heap:=v.w.heap.setIfInBounds h (.map (es.modify i fun y=>{ y with val:=sv }) c) }) m rfl rfl rfl rfl (Nat.le_refl _) zB_ G.1 (fun k hk=>G.2 k hk);simp only[List.set_cons_zero]at E C
  have J:((h,Obj.map (es.modify i fun y=>{ y with val:=sv }) c)::(A++(Hr++F))).Perm (H'++F):=by
    have:=(q2.append_right F).symm;simpa [List.append_assoc] using this
  exact hk H' M _ _ B (E.perm J) (T.trans ((C.permL L.symm).subR fun b q=>((J.map Prod.fst).mem_iff).2 q)) (ao_ (C.le m) h4)
def MOp (P:Program) (kt:TypeId) (kv:K→Value) (cells:D→List Value) (e:TypeId) (sz:Nat) (l:List (K×D)) (mb:Nat) (k:K) (es:Array MapEntry) (c:Nat) (sv:Value) (Hr:Hp):Prop :=
  (db_ P kt (kv k) es.toList none∧sv=.slice none 0 0∧∀ d sv' Hk',ay_ e sz sv' (lat (l++[(k,d)]) k).length ((lat (l++[(k,d)]) k).flatMap cells) Hk'→∃ H',cW_ kv cells e sz (l++[(k,d)]) mb H'∧H'.Perm ((mb,.map (es.push ⟨kv k,sv',c⟩) (c+1))::(Hk'++Hr))) ∨
  (∃ i x,db_ P kt (kv k) es.toList (some (i,sv))∧es[i]? = some x∧x.key=kv k∧x.val=sv∧∀ d sv' Hk',ay_ e sz sv' (lat (l++[(k,d)]) k).length ((lat (l++[(k,d)]) k).flatMap cells) Hk'→∃ H',cW_ kv cells e sz (l++[(k,d)]) mb H'∧H'.Perm ((mb,.map (es.modify i fun y=>{ y with key:=kv k,val:=sv' }) c)::(Hk'++Hr)))
theorem mq_ {x:Act→World→Prop} {kt:TypeId} {q:Nat} {e:TypeId} {sz:Nat} {l:List (K×D)} {v F:Hp} (A:KeyT P kt kv) (k:K) (hm:cW_ kv cells e sz l q v) (E:H.Perm (v++F))
    (h:∀ es c sv m Hr,ay_ e sz sv (lat l k).length ((lat l k).flatMap cells) m→MOp P kt kv cells e sz l q k es c sv Hr→Ok N v0 H0 x fr ((q,.map es c)::(m++(Hr++F))) Γ):Ok N v0 H0 x fr H Γ:=by
  obtain⟨es,c,sv,m,Hr,B,C,y⟩:=hm.open A k
  refine y_ (E.trans (by
    have:=B.append_right F;simpa [List.append_assoc] using this)) (h es c sv m Hr C y)
theorem eA_ {t kt A:TypeId} {x y:Operand} {m c:Nat} {e:TypeId} {sz:Nat} {l:List (K×D)} {k:K} {es:Array MapEntry} {sv:Value} {Hr:Hp} (B:KeyT P kt kv) (G:MOp P kt kv cells e sz l m k es c sv Hr) (C:∀ w,(underlying t).run P w=.ok (.map kt A) w) (I:∀ w,(zeroValue A).run P w=.ok (.slice none 0 0) w)
    (E:Fr.ev fr x=some (.map (some m))) (F:Fr.ev fr y=some (kv k)) (i:Nat) (hi:H[i]? = some (m,.map es c)):Yld P N fr H Γ (.lookup t x y false) ty sv:=by
  have hm:∀ v,v.sat H→Z_ Γ v→v.w.heap[m]? = some (.map es c):=fun v h _=>(h.own _ (List.mem_of_getElem? hi)).1
  rcases G with⟨q,rfl,_⟩|⟨i,z,q,_⟩
  · exact eG_ C I E F hm (B.ok k) q
  · exact eX_ C E F hm (B.ok k) q
theorem hx_ {o:Op} {t kt Q:TypeId} {x y z:Operand} {m c:Nat} {e:TypeId} {sz:Nat} {l:List (K×D)} {k:K} {dd:D} {es:Array MapEntry} {sv sv':Value} {v Hr F:Hp} (G:KeyT P kt kv) (T:MOp P kt kv cells e sz l m k es c sv Hr) (I:ay_ e sz sv' (lat (l++[(k,dd)]) k).length ((lat (l++[(k,dd)]) k).flatMap cells) v)
    (h:o=.insert t x y z∨o=.mapUpdate t x y z) (J:∀ w,(underlying t).run P w=.ok (.map kt Q) w) (O:Fr.ev fr x=some (.map (some m))) (L:Fr.ev fr y=some (kv k)) (M:Fr.ev fr z=some sv') (U:H.Perm ((m,.map es c)::(v++(Hr++F))))
    (hk:∀ H',cW_ kv cells e sz (l++[(k,dd)]) m H'→Ops P R N v0 H0 ops lo Kk fr (H'++F) Γ):Ops P R N v0 H0 ops (⟨none,o,ty,ps,af,none⟩::lo) Kk fr H Γ:=by
  refine y_ U ?_;rcases T with⟨B,_,C⟩|⟨i,q,B,S,V,_,C⟩
  · obtain⟨H',A,E⟩:=C dd sv' v I
    refine aR_ 0 h J O L M rfl (G.ok k) B ?_;simp only[List.set_cons_zero];exact y_ zaH_ (hk H' A)
  · obtain⟨H',A,E⟩:=C dd sv' v I
    refine hw_ 0 G h J O L M rfl B S V ?_;simp only[List.set_cons_zero];exact y_ zaH_ (hk H' A)
theorem ec_ {b:Nat×Obj} {O Q F:Hp} (h:H.Perm ((b::(O++Q))++F)):H.Perm (b::(O++(Q++F))):=by simpa [List.append_assoc] using h
theorem bb_ {b:Nat×Obj} {F:Hp} (h:H.Perm ([b]++F)):H.Perm (b::F):=h
theorem R_ {b:Nat×Obj} {F k:Hp} (h:H.Perm ([b]++F)) (m:F.Perm k):H.Perm (b::k):=List.Perm.trans h (m.cons b)
theorem kI_ {fn:Func} {k:Ending→World→Prop} {c:Code} (h:Run P (bodyPost P fn k) N v0 H0 c [] fr H Γ):Run P (bodyPost P fn k) N v0 H0 (.scope c) [] fr H Γ :=
  fun a v y x m A=>wp_scope_straight (wp_mono (h a v y x m A) fun e a w q=>by cases e<;>exact q)
theorem kK_ {c:Nat} (h:Fin P R N v0 H0 Kk fr H Γ):Run P R N v0 H0 (.label c) Kk fr H Γ :=
  fun a v q m k x=>wp_label (h a v q m k x)
end ops
end Go.Sx
namespace Go.Vs
open Go Go.Sx
structure Rul where
  f:Str
  s:Str
  r:Str
  deriving DecidableEq
structure Itm where
  r:Str
  i:Nat
  j:Nat
  deriving DecidableEq
def Rul.cells (x:Rul):List Value:=[str x.f,str x.s,str x.r]
def Rul.val (x:Rul):Value:=.agg x.cells.toArray
theorem Rul.cells_len (x:Rul):x.cells.length=3:=rfl
def Itm.cells (x:Itm):List Value:=[str x.r,.int .i64 x.i,.int .i64 x.j]
def Itm.val (x:Itm):Value:=.agg x.cells.toArray
theorem Itm.cells_len (x:Itm):x.cells.length=3:=rfl
def addI {α:Type} [DecidableEq α] (y:α) (l:List α):List α:=if y∈l then l else l++[y]
def xd_ (y:Itm) (T Q:List Itm):List Itm:=if y∈T then Q else Q++[y]
theorem kB_ {α:Type} [DecidableEq α] {y z:α} {l:List α}:z∈addI y l↔z∈l∨z=y:=by
 unfold addI
 by_cases h:y∈l
 ·rw[if_pos h];exact⟨.inl,fun q=>q.elim id fun e=>e▸h⟩
 rw[if_neg h,List.mem_append,List.mem_singleton]
theorem yW_ {α:Type} [DecidableEq α] {y:α} {l:List α} (h:l.Nodup):(addI y l).Nodup:=by
 unfold addI
 by_cases d:y∈l
 ·rw[if_pos d];exact h
 rw[if_neg d,List.nodup_append];exact⟨h,by simp,fun a m b k e=>by simp at k;subst k;subst e;exact d m⟩
def Itm.In (U:List Str) (n:Nat) (x:Itm):Prop:=x.r∈U∧x.i≤x.j∧x.j≤n
section
variable {R:List Rul} {U:List Str} {n:Nat}
structure Rec (R:List Rul) (U:List Str) (n:Nat) (T Q:List Itm):Prop where
  nd:T.Nodup
  qnd:Q.Nodup
  sub:∀ y∈Q,y∈T
  bd:∀ y∈T,y.In U n
  cl:∀ p∈T,∀ q∈T,p ∉ Q→q ∉ Q→p.j=q.i→∀ y∈R,y.f=p.r→y.s=q.r→(⟨y.r,p.i,q.j⟩:Itm)∈T
structure Stg (U:List Str) (n:Nat) (x:Itm) (T0 Q0 T Q:List Itm):Prop where
  nd:T.Nodup
  qnd:Q.Nodup
  sub:∀ y∈Q,y∈T
  bd:∀ y∈T,y.In U n
  old:∀ y∈T0,y∈T
  new:∀ y∈T,y∈T0∨y∈Q
  q0:∀ y∈Q0,y∈Q
  nx:x ∉ Q
  xT:x∈T
  len:T.length+Q0.length=T0.length+Q.length
theorem Rec.pop {T Q:List Itm} {x:Itm} (h:Rec R U n T (Q++[x])):Stg U n x T Q T Q:=by
  have d:=h.qnd;rw[List.nodup_append]at d;exact⟨h.nd,d.1,fun y k=>h.sub y (by simp[k]),h.bd,fun _ h=>h,fun _ h=>.inl h,fun _ h=>h,fun e=>d.2.2 x e x zB_ rfl,h.sub x zB_,rfl⟩
theorem Stg.add {x:Itm} {B A T Q:List Itm} (h:Stg U n x B A T Q) {y:Itm} (E:y.In U n):Stg U n x B A (addI y T) (xd_ y T Q):=by
 by_cases hm:y∈T
 ·have k:addI y T=T:=by unfold addI;rw[if_pos hm]
  have m:xd_ y T Q=Q:=by unfold xd_;rw[if_pos hm]
  rw[k,m];exact h
 have k:addI y T=T++[y]:=by unfold addI;rw[if_neg hm]
 have m:xd_ y T Q=Q++[y]:=by unfold xd_;rw[if_neg hm]
 rw[k,m];have hl:=h.len;refine⟨k▸yW_ h.nd,?_,fun z d=>?_,fun z d=>?_,fun z d=>by simp[h.old z d],fun z d=>?_,fun z d=>by simp[h.q0 z d],fun d=>?_,by simp[h.xT],by simp only[List.length_append,List.length_cons,List.length_nil];omega⟩
 ·rw[List.nodup_append];exact⟨h.qnd,by simp,fun a C b v e=>by simp at v;subst v;subst e;exact hm (h.sub _ C)⟩
 ·rcases List.mem_append.1 d with d|d
  ·simp[h.sub z d]
  simp at d;simp[d]
 ·rcases List.mem_append.1 d with d|d
  ·exact h.bd z d
  simp at d;rw[d];exact E
 ·rcases List.mem_append.1 d with d|d
  ·exact (h.new z d).imp id fun q=>by simp[q]
  simp at d;exact .inr zaa_
 rcases List.mem_append.1 d with d|d
 ·exact h.nx d
 simp at d;exact hm (d▸h.xT)
def Pr1 (n:Nat) (x:Itm) (T0:List Itm) (L:List Rul) (T:List Itm):Prop:=∀ y∈L,∀ e,x.j≤e→e≤n→(⟨y.s,x.j,e⟩:Itm)∈T0→(⟨y.r,x.i,e⟩:Itm)∈T
def Pr2 (x:Itm) (T0:List Itm) (L:List Rul) (T:List Itm):Prop:=∀ y∈L,∀ b,b≤x.i→(⟨y.f,b,x.i⟩:Itm)∈T0→(⟨y.r,b,x.j⟩:Itm)∈T
theorem Pr1.mono {x:Itm} {k T d:List Itm} {L:List Rul} (h:Pr1 n x k L T) (B:∀ y∈T,y∈d):Pr1 n x k L d:=fun y q e v A m=>B _ (h y q e v A m)
theorem Pr2.mono {x:Itm} {e T d:List Itm} {L:List Rul} (h:Pr2 x e L T) (v:∀ y∈T,y∈d):Pr2 x e L d:=fun y m b q k=>v _ (h y m b q k)
theorem ji_ {α:Type} {L:List α} {i:Nat} {x y:α} (d:L[i]? = some x) (h:y∈L.take (i+1)):y∈L.take i∨y=x:=by
  rw[List.take_add_one,d,Option.toList_some,List.mem_append,List.mem_singleton]at h;exact h
theorem Pr1.step {x:Itm} {q T d:List Itm} {L:List Rul} {k:Nat} {y:Rul} (h:Pr1 n x q (L.take k) T) (E:L[k]? = some y) (F:∀ z∈T,z∈d) (C:∀ e,x.j≤e→e≤n→(⟨y.s,x.j,e⟩:Itm)∈q→(⟨y.r,x.i,e⟩:Itm)∈d):Pr1 n x q (L.take (k+1)) d:=fun z m e B A v=>by
 rcases ji_ E m with m|rfl
 ·exact F _ (h z m e B A v)
 exact C e B A v
theorem Pr2.step {x:Itm} {m T d:List Itm} {L:List Rul} {k:Nat} {y:Rul} (h:Pr2 x m (L.take k) T) (B:L[k]? = some y) (C:∀ z∈T,z∈d) (A:∀ b,b≤x.i→(⟨y.f,b,x.i⟩:Itm)∈m→(⟨y.r,b,x.j⟩:Itm)∈d):Pr2 x m (L.take (k+1)) d:=fun z e b v q=>by
 rcases ji_ B e with e|rfl
 ·exact C _ (h z e b v q)
 exact A b v q
theorem Stg.done {x:Itm} {A L T Q:List Itm} {K M:List Rul} (O:Rec R U n A (L++[x])) (h:Stg U n x A L T Q) (V:∀ y∈R,y.f=x.r→y∈K) (N:∀ y∈R,y.s=x.r→y∈M) (P:Pr1 n x A K T) (S:Pr2 x A M T):Rec R U n T Q:=by
 refine⟨h.nd,h.qnd,h.sub,h.bd,fun p I q H J G e y E B C=>?_⟩;have v:=(h.new p I).resolve_right J;have m:=(h.new q H).resolve_right G;have bp:=h.bd p I;have F:=h.bd q H
 by_cases k:p=x
 ·subst k
  exact P y (V y E B) q.j (by rw[e];exact F.2.1) F.2.2 (by rw[C,e];exact m)
 by_cases d:q=x
 ·subst d
  exact S y (N y E C) p.i (by rw[← e];exact bp.2.1) (by rw[B,← e];exact v)
 refine h.old _ (O.cl p v q m (fun hm=>?_) (fun hm=>?_) e y E B C)
 ·rcases List.mem_append.1 hm with hm|hm
  ·exact J (h.q0 p hm)
  simp at hm;exact k hm
 rcases List.mem_append.1 hm with hm|hm
 ·exact G (h.q0 q hm)
 simp at hm;exact d hm
theorem Rec.init {T:List Itm} (nd:T.Nodup) (bd:∀ y∈T,y.In U n):Rec R U n T T:=⟨nd,nd,fun _ h=>h,bd,fun p d _ _ e=>absurd d e⟩
end
end Go.Vs
namespace Go.Sx
open Go Go.Vs
def jA_ (T:List Itm) (r:Str):List Value:=(List.range 4225).map fun k=>.bool (decide ((⟨r,k / 65,k%65⟩:Itm)∈T))
theorem jZ_ (T:List Itm) (r:Str):(jA_ T r).length=4225:=by simp[jA_]
theorem mn_ (T:List Itm) (r:Str) {k:Nat} (hk:k<4225):(jA_ T r)[k]? = some (.bool (decide ((⟨r,k / 65,k%65⟩:Itm)∈T))):=by
  unfold jA_;rw[List.getElem?_map,List.getElem?_range hk];rfl
theorem vr_ {i j:Nat} (e:j≤64):(i*65+j) / 65=i∧(i*65+j)%65=j:=by omega
theorem vt_ (T:List Itm) (r:Str) {i j:Nat} (hi:i≤64) (h:j≤64):(jA_ T r)[i*65+j]? = some (.bool (decide ((⟨r,i,j⟩:Itm)∈T))):=by
  obtain⟨e,k⟩:=vr_ (i:=i) h;rw[mn_ T r zs_,e,k]
theorem mT_ {T:List Itm} {r q:Str} {i j:Nat} (h:q≠r):jA_ (addI ⟨r,i,j⟩ T) q=jA_ T q:=by
  unfold jA_
  apply List.map_congr_left
  intro k _
  congr 1
  apply decide_eq_decide.2
  rw[kB_];exact⟨fun q=>q.elim id fun e=>absurd (congrArg Itm.r e) h,.inl⟩
theorem vs_ (T:List Itm) (r:Str) {i j:Nat} (hi:i≤64) (h:j≤64):(jA_ T r).set (i*65+j) (.bool true)=jA_ (addI ⟨r,i,j⟩ T) r:=by
 apply List.ext_getElem?
 intro k;rw[List.getElem?_set,jZ_];obtain⟨m,v⟩:=vr_ (i:=i) h
 by_cases hk:i*65+j=k
 ·subst hk
  rw[if_pos rfl,if_pos zs_,vt_ _ _ hi h,decide_eq_true (kB_.2 (.inr rfl))]
 rw[if_neg hk]
 by_cases hl:k<4225
 ·rw[mn_ _ _ hl,mn_ _ _ hl]
  congr 2
  apply decide_eq_decide.2
  rw[kB_];refine⟨.inl,fun q=>q.elim id fun e=>?_⟩;simp only[Itm.mk.injEq,true_and]at e;omega
 rw[List.getElem?_eq_none (by rw[jZ_];omega),List.getElem?_eq_none (by rw[jZ_];omega)]
theorem tW_ {T:List Itm} {r:Str} (h:∀ x∈T,x.r≠r):jA_ T r=List.replicate 4225 (.bool false):=by
 apply List.ext_getElem?
 intro k
 by_cases hl:k<4225
 ·rw[mn_ _ _ hl,decide_eq_false fun q=>h _ q rfl,List.getElem?_replicate,if_pos hl]
 rw[List.getElem?_eq_none (by rw[jZ_];omega),List.getElem?_eq_none (by rw[List.length_replicate];omega)]
def gj_ (ks:List (Str×Nat)) (k:Str):Option Nat:=(ks.find? fun p=>decide (p.1=k)).map (·.2)
def tptr (o:Option Nat):Value:=.pointer (o.map fun b=>⟨b,0,none⟩)
def pg_ (tt:TypeId) (T:List Itm) (p:Str×Nat):Nat×Obj:=(p.2,.cells (jA_ T p.1).toArray tt (0,0))
structure TabE (ks:List (Str×Nat)) (T:List Itm) (es:Array MapEntry):Prop where
  keys:es.toList.map (·.key)=(ks.map (·.1)).map str
  vals:es.toList.map (·.val)=ks.map fun p=>tptr (some p.2)
  nd:(ks.map (·.1)).Nodup
  all:∀ x∈T,x.r∈ks.map (·.1)
def xe_ (tt mb:Nat) (ks:List (Str×Nat)) (T:List Itm) (H:Hp):Prop:=∃ es c,H=(mb,.map es c)::ks.map (pg_ tt T)∧TabE ks T es
theorem TabE.nil:TabE [] [] #[]:=⟨rfl,rfl,List.nodup_nil,by simp⟩
theorem xe_.nil (tt mb c:Nat):xe_ tt mb [] [] [(mb,.map #[] c)]:=⟨#[],c,rfl,TabE.nil⟩
theorem kG_ {ks:List (Str×Nat)} {k:Str} {b:Nat} (h:gj_ ks k=some b):(k,b)∈ks:=by
  unfold gj_ at h;rw[Option.map_eq_some_iff]at h;obtain⟨p,e,rfl⟩:=h;have m:=List.find?_some e;have q:=List.mem_of_find?_eq_some e;simp only[decide_eq_true_eq]at m;subst m;exact q
theorem fR_ {ks:List (Str×Nat)} {k:Str} (h:gj_ ks k=none):k ∉ ks.map (·.1):=by
  unfold gj_ at h;rw[Option.map_eq_none_iff,List.find?_eq_none]at h;intro hm;obtain⟨p,e,rfl⟩:=List.mem_map.1 hm;exact h p e zB_
theorem vi_ {ks:List (Str×Nat)} {k:Str} {b:Nat} (h:gj_ ks k=none):gj_ (ks++[(k,b)]) k=some b:=by
  unfold gj_ at h ⊢;rw[Option.map_eq_none_iff]at h;rw[List.find?_append,h];simp
section
variable {P:Program} {kt:TypeId} {tt mb:Nat} {ks:List (Str×Nat)} {T:List Itm} {es:Array MapEntry} {H:Hp}
theorem TabE.no (e:KeyT P kt str) (h:TabE ks T es) {k:Str} (hk:gj_ ks k=none):db_ P kt (str k) es.toList none:=e.nf k es.toList _ h.keys (fR_ hk)
theorem xe_.at (h:xe_ tt mb ks T H) {k:Str} {b:Nat} (hk:gj_ ks k=some b):∃ Hr,H.Perm ((b,.cells (jA_ T k).toArray tt (0,0))::Hr) ∧
    ∀ i j,i≤64→j≤64→∃ H',xe_ tt mb ks (addI ⟨k,i,j⟩ T) H'∧((b,Obj.cells ((jA_ T k).set (i*65+j) (.bool true)).toArray tt (0,0))::Hr).Perm H':=by
  obtain⟨es,c,rfl,hE⟩:=h;have hm:=kG_ hk;obtain⟨q,v,rfl⟩:=List.append_of_mem hm;refine⟨(mb,.map es c)::(q++v).map (pg_ tt T),?_,fun i j hi E=>?_⟩
  · rw[List.map_append,List.map_cons,List.map_append]
    exact (List.Perm.cons _ List.perm_middle).trans (.swap _ _ _)
  · refine⟨(mb,.map es c)::(q++(k,b)::v).map (pg_ tt (addI ⟨k,i,j⟩ T)),⟨es,c,rfl,hE.keys,hE.vals,hE.nd,fun x A=>?_⟩,?_⟩
    · rcases kB_.1 A with A|rfl
      · exact hE.all x A
      · simp
    · have m:=hE.nd
      rw[List.map_append,List.map_cons,List.nodup_append,List.nodup_cons]at m
      have B:q.map (pg_ tt (addI ⟨k,i,j⟩ T))=q.map (pg_ tt T):=List.map_congr_left fun p y=>by
        unfold pg_;rw[mT_ fun e=>m.2.2 p.1 (List.mem_map_of_mem y) k zB_ e]
      have C:v.map (pg_ tt (addI ⟨k,i,j⟩ T))=v.map (pg_ tt T):=List.map_congr_left fun p y=>by
        unfold pg_;rw[mT_ fun e=>m.2.1.1 (List.mem_map.2 ⟨p,y,e⟩)]
      rw[vs_ T k hi E,List.map_append,List.map_append,List.map_cons,B,C];exact ((List.Perm.cons _ List.perm_middle).trans (.swap _ _ _)).symm
theorem TabE.zero (h:TabE ks T es) {k:Str} (hk:gj_ ks k=none):jA_ T k=List.replicate 4225 (.bool false):=tW_ fun x m e=>fR_ hk (e▸h.all x m)
end
section ops
variable {P:Program} {N:Nf} {v0:Vw} {H0:Hp} {R:Exit→Act→World→Prop} {K:List Kt} {fr:Fr} {H F:Hp} {Γ:List Fct}
variable {ops:Array Oper} {l:List Oper} {d:Nat} {ty:TypeId} {ps:String} {af:Array Edge}
variable {tt mb:Nat} {ks:List (Str×Nat)} {T:List Itm} {Hx:Hp}
end ops
end Go.Sx
namespace Go.Sx
open Go Go.Vs
structure IntE {K:Type} (kv:K→Value) (es:Array MapEntry) (ks:List K) (vs:List Int):Prop where
  keys:es.toList.map (·.key)=ks.map kv
  vals:es.toList.map (·.val)=vs.map fun n=>Value.int .i64 n
  nd:ks.Nodup
section
variable {P:Program} {K:Type} [DecidableEq K] {kv:K→Value} {kt:TypeId} {es:Array MapEntry} {ks:List K} {vs:List Int}
theorem IntE.nil:IntE kv #[] ([]:List K) []:=⟨rfl,rfl,List.nodup_nil⟩
theorem IntE.len (h:IntE kv es ks vs):vs.length=ks.length:=by
  have k:=congrArg List.length h.keys;have e:=congrArg List.length h.vals;simp only[List.length_map]at k e;omega
theorem IntE.no (e:KeyT P kt kv) (h:IntE kv es ks vs) {k:K} (hk:k ∉ ks):db_ P kt (kv k) es.toList none:=e.nf k es.toList ks h.keys hk
end
section ops
variable {P:Program} {N:Nf} {v0:Vw} {H0:Hp} {R:Exit→Act→World→Prop} {Kk:List Kt} {fr:Fr} {H:Hp} {Γ:List Fct}
variable {ops:Array Oper} {lo:List Oper} {d:Nat} {ty:TypeId} {ps:String} {af:Array Edge}
variable {K:Type} [DecidableEq K] {kv:K→Value}
end ops
end Go.Sx
namespace Go.Sx
open Go
section
variable {P:Program} {N:Nf} {v0:Vw} {H0:Hp} {R:Exit→Act→World→Prop} {K:List Kt} {fr:Fr} {H F:Hp} {Γ:List Fct} {ops:Array Oper} {l:List Oper} {d:Nat} {ty:TypeId} {ps:String} {af:Array Edge} {e:TypeId} {sz n:Nat} {sv:Value} {xs:List Value} {Hr:Hp}
theorem qN_ {x y:Operand} {t q:TypeId} {by':Nat} {k kn:IntKind} (m:Elt P t e sz by') (A:P.underlying q=some (.int kn)) (M:Fr.ev fr x=some (.slice none 0 0)) (Q:Fr.ev fr y=some (.int k (n:Int))) (S:0<n) (U:n*by'≤140737488355328) (h:n≤maxLen) (O:Nat.blt d N.n=true)
    (hk:∀ (y:Nat×Array Value) (b:Nat),(n≤y.1∧y.1≤maxLen∧y.2.size=y.1*sz)→Ops P R N v0 H0 ops l K ((d,.slice (some ⟨b,0,none⟩) n y.1)::fr) ((b,.cells y.2 e (0,0))::H) Γ) :
    Ops P R N v0 H0 ops (⟨some d,.call ⟨.builtin .append,#[x,y],#[t,q]⟩,ty,ps,af,none⟩::l) K fr H Γ :=
  ni_ (β:=Nat×Array Value) (x:=fun y b=>.slice (some ⟨b,0,none⟩) n y.1) (o:=fun y=>.cells y.2 e (0,0)) (fun y=>n≤y.1∧y.1≤maxLen∧y.2.size=y.1*sz) O
    (fun a v E T V=>by
      obtain⟨i,z,hi,G,es,L,I⟩:=m.info;subst es L;have J:=Lib.run_append_nil_zeros (P:=P) v.w t q ty e i z k kn m.und A hi G n S m.pos (by simp only[maxLen]at h;omega) zs_;have B:=grownCap_ge v.w n 0 e;have C:=grownCap_le_maxLen v.w n 0 e h;refine⟨(grownCap v.w n 0 e,Builtin.zeroCells z.cells n++Builtin.zeroCells z.cells (grownCap v.w n 0 e - n)),v.w.drew.alloc (.cells (Builtin.zeroCells z.cells n++Builtin.zeroCells z.cells (grownCap v.w n 0 e - n)) e),⟨B,C,?_⟩,?_,rfl,rfl,rfl,rfl,by simp⟩
      · simp only[Array.size_append,size_zeroCells,I,← Nat.add_mul]
        congr 1
        omega
      · simp only[execOp,resolve,invoke,builtin,Sem.run_bind,Sem.run_pure,Result.andThen_ok,List.map_toArray,List.map_cons,List.map_nil,E.ev M,E.ev Q,J])
    hk
theorem qe_ {x:Operand} {t:TypeId} {ad:Option Addr} {len cap:Nat} (m:∀ w,(underlying t).run P w=.ok (.slice e) w) (h:Fr.ev fr x=some (.slice ad len cap)) :
    Yld P N fr H Γ (.call ⟨.builtin .cap,#[x],#[t]⟩) ty (.int .i64 (cap:Int)) :=
  fun a v k _ _ _ _ _=>by simp[execOp,resolve,invoke,builtin,Builtin.cap_,m,k.ev h,goInt]
theorem tU_ {b cap:Nat} {cur:Array Value} (h:cap≤maxLen) (k:cur.size=cap*sz):ay_ e sz (.slice (some ⟨b,0,none⟩) 0 cap) 0 [] [(b,.cells cur e (0,0))] :=
  ⟨by simp,.inr ⟨b,cap,cur,rfl,rfl,Nat.zero_le _,h,k,by simp⟩⟩
end
end Go.Sx
namespace Go.Sx
open Go
theorem wh_ {P:Program} {E:TypeId} {m:IntKind} (C:P.underlying E=some (.int m)):KeyT P E (fun n:Int=>.int m n) where
  ok:=fun k=>ba_ C
  nf:=fun k es ks h hk=>aJ_ C (by
    have:∀ (ks:List Int) (es:List MapEntry) (i:Nat),es.map (·.key)=ks.map (fun n:Int=>Value.int m n)→k ∉ ks→Instr.findNow (.int m) (.int m k) es i=some none:=by
      intro ks
      induction ks with
      | nil => intro es i h _; have : es = [] := by simpa using h
               subst this;rfl
      | cons q ks ih =>
        intro es i h hk;cases es with
        | nil=>simp at h
        | cons e es =>
          simp only[List.map_cons,List.cons.injEq]at h;simp only[List.mem_cons,not_or]at hk
          have y:Instr.sameNow (.int m) (.int m k) e.key=some false:=by
            rw[h.1];simp[Instr.sameNow,hk.1]
          simp only[Instr.findNow,y];exact ih es (i+1) h.2 hk.2
    exact this ks es 0 h hk)
  sf:=fun k es ks i e h A hi v=>aJ_ C (by
    have:∀ (ks:List Int) (es:List MapEntry) (j i:Nat),es.map (·.key)=ks.map (fun n:Int=>Value.int m n)→ks.Nodup→ks[i]? = some k→es[i]? = some e→Instr.findNow (.int m) (.int m k) es j=some (some (j+i,e.val)):=by
      intro ks
      induction ks with
      | nil=>intro es j i _ _ h;simp at h
      | cons q ks ih =>
        intro es j i h A hi v;cases es with
        | nil=>simp at h
        | cons x es =>
          simp only[List.map_cons,List.cons.injEq]at h;rw[List.nodup_cons]at A;cases i with
          | zero =>
            simp only[List.getElem?_cons_zero,Option.some.injEq]at hi v;subst hi;subst v
            have y:Instr.sameNow (.int m) (.int m q) x.key=some true:=by
              rw[h.1];simp[Instr.sameNow]
            simp only[Instr.findNow,y,Nat.add_zero]
          | succ i =>
            simp only[List.getElem?_cons_succ]at hi v;have B:k≠q:=fun e=>A.1 (e▸List.mem_of_getElem? hi)
            have y:Instr.sameNow (.int m) (.int m k) x.key=some false:=by
              rw[h.1];simp[Instr.sameNow,B]
            simp only[Instr.findNow,y];rw[ih es (j+1) i h.2 A.2 hi v,show j+1+i=j+(i+1) by omega]
    have:=this ks es 0 i h A hi v;rwa [Nat.zero_add]at this)
  same:=fun k=>en_ 10000 k
end Go.Sx
namespace Go.Sx
open Go
section
variable {P:Program} {N:Nat} {v0:Vw} {H0:Hp} {R:Exit→Act→World→Prop} {Kk:List Kt} {fr:Fr} {H:Hp} {Γ:List Fct}
variable {ops:Array Oper} {lo:List Oper} {d:Nat} {ty:TypeId} {ps:String} {af:Array Edge}
variable {K:Type} [DecidableEq K] {kv:K→Value}
theorem oE_ {t h e:TypeId} {x:Operand} {b c:Nat} (n:Nat) {es:Array MapEntry} (m:P.underlying t=some (.map h e)) (q:Fr.ev fr x=some (.map (some b))) (hi:H[n]? = some (b,.map es c)) (y:Nat.blt d N=true)
    (hk:∀ r,Ops P R N v0 H0 ops lo Kk ((d,.pointer (some ⟨r,0,none⟩))::fr) ((r,.mapIter (some b) c #[] c)::H) Γ):Ops P R N v0 H0 ops (⟨some d,.range t x,ty,ps,af,none⟩::lo) Kk fr H Γ :=
  gy_ (x:=fun b=>.pointer (some ⟨b,0,none⟩)) y (fun a v B k _=>by
    have A:=(k.own _ (List.mem_of_getElem? hi)).1;simp[execOp,B.ev q,run_range_map v.w t h e b es c m A]) hk
theorem qJ_ {J:Operand} {b r c h M:Nat} {es:Array MapEntry} {q:Array Nat} (n m:Nat) (E:Fr.ev fr J=some (.pointer (some ⟨r,0,none⟩))) (X:H[n]? = some (r,.mapIter (some b) h q M)) (hb:H[m]? = some (b,.map es c)) (I:∀ x∈es.toList,x.born<h) (Q:h≤M) (hN:Nat.blt d N=true)
    (h0:(leftOf es q).size=0→Ops P R N v0 H0 ops lo Kk ((d,.tuple #[.bool false])::fr) H Γ)
    (hk:∀ e,e∈(leftOf es q).toList→Ops P R N v0 H0 ops lo Kk ((d,.tuple #[.bool true,e.key,e.val])::fr) (H.set n (r,.mapIter (some b) h (q.push e.born) c)) Γ):Ops P R N v0 H0 ops (⟨some d,.next J false,ty,ps,af,none⟩::lo) Kk fr H Γ :=
  cq_ rfl fun a v L G Y h4=>by
    have C:=(G.own _ (List.mem_of_getElem? X)).1;have S:=(G.own _ (List.mem_of_getElem? hb)).1;unfold Oper.wp;rcases run_next_at (P:=P) v.w ty r b h M q es c C S I Q with⟨e0,A⟩|⟨e,he,B,y,A⟩
    · have V:(execOp a.eval ⟨some d,.next J false,ty,ps,af,none⟩).run P v.w=.ok (.value (.tuple #[.bool false])) v.w:=by simp[execOp,L.ev E,A]
      rw[V];exact h0 e0 _ v (L.put hN) G Y h4
    · have V:(execOp a.eval ⟨some d,.next J false,ty,ps,af,none⟩).run P v.w=.ok (.value (.tuple #[.bool true,e.key,e.val])) (ChangeMaps.setBlock B r (.mapIter (some b) h (q.push e.born) c)):=by simp[execOp,L.ev E,A]
      rw[V];have U:B.heap[r]? = some (.mapIter (some b) h q M):=by rcases y with rfl|rfl<;>exact C
      have O:r<B.heap.size:=(Array.getElem?_eq_some_iff.1 U).1;have W:B.heap=v.w.heap:=by rcases y with rfl|rfl<;>rfl
      have T:v.w.drawn≤B.drawn:=by
        rcases y with rfl|rfl
        · exact Nat.le_refl _
        · exact Nat.le_succ _
      obtain⟨g1,Z⟩:=eL_ (w':=ChangeMaps.setBlock B r (.mapIter (some b) h (q.push e.born) c)) G X zaR_ zaR_ zaR_ T (by simp[ChangeMaps.setBlock,W])
        (by simp only[ChangeMaps.setBlock];rw[Array.getElem?_setIfInBounds_self_of_lt O]) (fun k hk=>by simp only[ChangeMaps.setBlock];rw[Array.getElem?_setIfInBounds_ne (Ne.symm hk),W])
      exact hk e he _ ⟨v.im,_,v.sl⟩ (L.put hN) g1 (Y.trans Z) (ao_ (Z.le G) h4)
theorem ok_ {x:Operand} {b r c h:Nat} {es:Array MapEntry} {k:Array Nat} {e:MapEntry} (n m:Nat) (q:Fr.ev fr x=some (.pointer (some ⟨r,0,none⟩))) (B:H[n]? = some (r,.mapIter (some b) h (k.push e.born) c)) (C:H[m]? = some (b,.map es c)) (A:e∈es.toList) (hB:Born es c) :
    Yld P N fr H Γ (.entry x) ty (.tuple #[e.key,e.val]) :=
  fun a v E y _ _ _ _=>by
    have:=run_entry_at (P:=P) v.w r b h k es c e (y.own _ (List.mem_of_getElem? B)).1 (y.own _ (List.mem_of_getElem? C)).1 A hB.nd;simp[execOp,E.ev q,this]
structure ItS (kv:K→Value) (es:Array MapEntry) (seen:Array Nat) (done:List K):Prop where
  nd:done.Nodup
  mem:∀ e∈es.toList,seen.contains e.born=true↔∃ k∈done,e.key=kv k
  sub:∀ k∈done,∃ e∈es.toList,e.key=kv k
theorem ItS.nil {es:Array MapEntry}:ItS kv es #[] []:=⟨List.nodup_nil,fun e _=>by simp,fun k hk=>by simp at hk⟩
theorem SetE.entry {es:Array MapEntry} {q:List K} (hE:SetE kv es q) (hi:∀ x y,kv x=kv y→x=y) {x e:MapEntry} (M:x∈es.toList) (L:e∈es.toList) (h:x.key=e.key):x=e:=by
 obtain⟨i,C,m⟩:=List.getElem_of_mem M;obtain⟨j,B,v⟩:=List.getElem_of_mem L;have hl:=congrArg List.length hE.keys;simp only[List.length_map]at hl
 have key:∀ (k:Nat) (hk:k<es.toList.length),es.toList[k].key=kv (q[k]'zs_):=fun k hk=>by
   have:=congrArg (fun l=>l[k]?) hE.keys;simp only[List.getElem?_map]at this;rw[List.getElem?_eq_getElem hk,List.getElem?_eq_getElem zs_]at this;simpa using this
 have G:=key i C;have I:=key j B;rw[m]at G;rw[v]at I;have J:=hi _ _ (G.symm.trans (h.trans I))
 have E:i=j:=by
   rcases Nat.lt_trichotomy i j with A|A|A
   · exact absurd J (List.pairwise_iff_getElem.1 hE.nd i j zs_ zs_ A)
   · exact A
   · exact absurd J.symm (List.pairwise_iff_getElem.1 hE.nd j i zs_ zs_ A)
 subst E;rw[← m,← v]
theorem SetE.ofKey {es:Array MapEntry} {q:List K} (hE:SetE kv es q) {e:MapEntry} (m:e∈es.toList):∃ k∈q,e.key=kv k:=by
  have:e.key∈es.toList.map (·.key):=List.mem_map_of_mem m;rw[hE.keys]at this;obtain⟨k,hk,h⟩:=List.mem_map.1 this;exact⟨k,hk,h.symm⟩
theorem ItS.step {es:Array MapEntry} {q:List K} {c:Nat} {A:Array Nat} {done:List K} {e:MapEntry} (hi:∀ x y,kv x=kv y→x=y) (hE:SetE kv es q) (hB:Born es c) (h:ItS kv es A done) (M:e∈(leftOf es A).toList) :
    ∃ k,k∈q∧k ∉ done∧e.key=kv k∧e∈es.toList∧ItS kv es (A.push e.born) (done++[k]):=by
  unfold leftOf at M;rw[Array.toList_filter,List.mem_filter]at M;obtain⟨G,T⟩:=M;obtain⟨k,hk,v⟩:=hE.ofKey G
  have J:k ∉ done:=fun hm=>by
    have:=(h.mem e G).2 ⟨k,hm,v⟩;rw[this]at T;simp at T
  refine⟨k,hk,J,v,G,⟨?_,fun x O=>?_,fun y m=>?_⟩⟩
  · rw[List.nodup_append];exact⟨h.nd,by simp,fun a W b V e=>by simp at V;subst V;subst e;exact J W⟩
  · rw[Array.contains_push,Bool.or_eq_true,h.mem x O,beq_iff_eq]
    constructor
    · rintro (⟨y,m,B⟩|S)
      · exact⟨y,by simp[m],B⟩
      · have:x=e:=by
          have U:=hB.nd;obtain⟨i,L,C⟩:=List.getElem_of_mem O;obtain⟨j,I,E⟩:=List.getElem_of_mem G
          have Q:i=j:=by
            rcases Nat.lt_trichotomy i j with g|g|g
            · exact ((List.pairwise_iff_getElem.1 U i j (by simpa using L) (by simpa using I) g) (by simp only[List.getElem_map,C,E,S])).elim
            · exact g
            · exact ((List.pairwise_iff_getElem.1 U j i (by simpa using I) (by simpa using L) g) (by simp only[List.getElem_map,C,E,S])).elim
          subst Q;rw[← C,← E]
        exact⟨k,by simp,this▸v⟩
    · rintro ⟨y,m,B⟩
      rcases List.mem_append.1 m with m|m
      · exact .inl ⟨y,m,B⟩
      · rw[List.mem_singleton]at m
        subst m;exact .inr (congrArg MapEntry.born (hE.entry hi O G (B.trans v.symm)))
  · rcases List.mem_append.1 m with m|m
    · exact h.sub y m
    · rw[List.mem_singleton]at m
      subst m;exact⟨e,G,v⟩
end
section
variable {P:Program} {N:Nat} {v0:Vw} {H0:Hp} {R:Exit→Act→World→Prop} {K:List Kt} {fr:Fr} {H F:Hp} {Γ:List Fct}
def xf_ {σ:Type} (v0:Vw) (H0:Hp) (Hj:σ→Hp) (ok:σ→Prop) (HL:Hp):Exit→Act→World→Prop
  | .normal,_,w=>∃ s' v,ok s'∧v.w=w∧v.sat (Hj s'++HL)∧v0.to H0 v (Hj s'++HL)
  | _,_,_=>False
theorem pZ_ {σ ι:Type} {l D:Nat} {h:Loop} {q:Nat} {x:Value} {Hj:σ→Hp} {s:σ} {ok:σ→Prop} (E:ι→Fr) (G:ι→Hp)
    (hp:h.params=#[q]) (V:h.state=.ready) (hpe:h.pending=none) (ht:Fr.sat N fr ⟨h.tmps,[]⟩) (W:Nat.blt q N=true)
    (m:∀ n v0 H0 HL,iL_ (Fence.wide.inRound l) n P (Mid N v0 H0 E (fun i=>G i++HL) (fun _=>Γ)) N [] v0 H0 h.assign [] ((q,x)::fr) (Hj s++HL) Γ)
    (A:∀ n v0 H0 HL i,iL_ (Fence.wide.inRound l) n P (xf_ v0 H0 Hj ok HL) N [] v0 H0 h.body [] (E i) (G i++HL) Γ) :
    jg_ P l x (Hj s++HLp l D h) Γ (fun _:{C:σ // ok C}=>.bool true) (fun C=>Hj C.1++HLp l D h) (fun _=>[]):=by
  intro v hs hΓ
  have k:∀ (X:Hp) r,(X++HLp l D r).Perm ((l,.loop r)::(X++[(D,.deferred (some []))])):=fun X r=>by
    unfold HLp;exact List.perm_middle
  have hl:v.w.heap[l]? = some (.loop h):=((hs.perm (k _ _)).own _ List.mem_cons_self).1;refine⟨h.fn,_,h.assign,h.body,run_yield hl (by simp[hp]),fun n=>roundIn_of_wpIn trivial ?_⟩;have M:(h.params.zip #[x]).foldl (fun tmps (t,a)=>tmps.setIfInBounds t a) h.tmps=h.tmps.setIfInBounds q x:=by simp[hp]
  rw[M];have I:Fr.sat N ((q,x)::fr) ⟨h.tmps.setIfInBounds q x,[]⟩:=ht.put W;refine wpIn_mono (gK_.1 (m n v (Hj s++HLp l D h) (HLp l D h)) ⟨h.tmps.setIfInBounds q x,[]⟩ v I hs (Vw.to.refl _ _) hΓ) ?_;rintro e a1 w1 ⟨rfl,i,L,rfl,k1,k2,k3,k4⟩;have y:=k2.perm (k _ _);have T:=(y.own _ List.mem_cons_self).1;obtain⟨m1,Z⟩:=eM_ (o':=.loop { h with state:=.busy }) y;refine⟨_,run_beginRound T V,?_⟩;have m3:=m1.perm (k (G i) { h with state:=.busy }).symm
  have m4:v.to (Hj s++HLp l D h) ⟨L.im,L.w.putObj l (.loop { h with state:=.busy }),L.sl⟩ (G i++HLp l D { h with state:=.busy }) :=
    (k3.trans ((Z.permL (k _ _).symm).subR fun b Y=>((k (G i) { h with state:=.busy }).map Prod.fst).mem_iff.1 Y))
  have S:=ao_ (Z.le y) k4;refine wpIn_mono (gK_.1 (A n v (Hj s++HLp l D h) (HLp l D { h with state:=.busy }) i) a1 ⟨L.im,_,L.sl⟩ k1 m3 m4 S) ?_;intro e2 a2 w2 B;cases e2 with
  | normal =>
    obtain⟨C,U,Q,rfl,q1,q2⟩:=B;have J:=q1.perm (k _ _);have O:=(J.own _ List.mem_cons_self).1;obtain⟨z1,z2⟩:=eM_ (o':=.loop h) J;have er:({ h with state:=.ready,pending:=none }:Loop)=h:=by cases h;simp_all
    refine⟨_,_,run_endRound none O,⟨C,Q⟩,⟨U.im,U.w.putObj l (.loop h),U.sl⟩,rfl,?_,z1.perm (k _ _).symm,trivial,q2.trans ((z2.permL (k _ _).symm).subR fun b Y=>((k (Hj C) h).map Prod.fst).mem_iff.1 Y)⟩;simp[er]
  | ret=>exact B.elim
  | exit id=>exact B.elim
  | goto t=>exact B.elim
  | panic c=>exact B.elim
  | outgrown=>exact B.elim
theorem sb_ {σ:Type} {Hj:σ→Hp} {h G:Hp} {ok:σ→Prop} (e:σ) (m:ok e) (x:H.Perm (Hj e++h++G)):OkD N [] v0 H0 (xf_ v0 H0 Hj ok h .normal) fr H Γ :=
  cR_ (Γ':=[]) x (fun _ _ _=>trivial) fun a v y q k _=>⟨e,v,m,rfl,q,k⟩
theorem qt_ {σ α:Type} {g:Operand} {pm:Nat} {assign body:Code} {S:FuncId} {caps:List Value} {Hj:σ→Hp} {Hc:Hp} {Γi:List Fct} (Γx:List Fct) {xv:α→Value} {good:σ→α→Prop} {nx:α→σ→σ→Prop} {Rc:σ→Prop}
    (T:σ) (hg:Fr.ev fr g=some (.func (.func S) #[] caps.toArray)) (hH:H.Perm (Hc++Hj T)) (Z:∀ v,v.sat H→Z_ Γ v→Z_ Γi v)
    (B:∀ l D (k:Loop),k.params=#[pm]→k.state=.ready→k.pending=none→Fr.sat N fr ⟨k.tmps,[]⟩→k.assign=assign→k.body=body→∀ s x,good s x →
      jg_ P l (xv x) (Hj s++HLp l D k) Γx (fun _:{y:σ // nx x s y}=>.bool true) (fun y=>Hj y.1++HLp l D k) (fun _=>[]))
    (a0:∀ l (Gj:σ→Hp),(∀ s x,good s x→jg_ P l (xv x) (Gj s) Γx (fun _:{y:σ // nx x s y}=>.bool true) (fun y=>Gj y.1) (fun _=>[])) →
      Tri P S (.func (.yield l) #[] #[]::caps).toArray (Hc++Gj T) Γi (fun _:{y:σ // Rc y}=>.tuple #[]) (fun y=>Hc++Gj y.1) (fun _=>[]))
    (C:∀ y,Rc y→∀ D l r,sT_ Fence.wide 0 P R N (ob_ D) v0 H0 K fr (Hc++Hj y++HLp l D r) Γ) :
    Run P R N v0 H0 (.rangeFunc g #[pm] assign body) K fr H Γ:=by
  intro a v I O h3 W;refine wpIn_wide (n:=0) |>.1 (wpIn_mono (Q:=ek_ Fence.wide 0 P R K) (wpIn_rangeFunc fun fn _=>?_) fun e a w hq=>bj_ K e a w hq)
  obtain⟨a1,a2⟩:=fK_ (w':=v.w.alloc (.deferred (some []))) (o:=.deferred (some [])) O rfl rfl rfl rfl (Nat.le_refl _);obtain⟨k,m⟩:∃ k:Loop,k={ state:=.ready,pending:=none,fn,tmps:=a.tmps,params:=#[pm],assign,body,defers:=v.w.heap.size }:=⟨_,rfl⟩;obtain⟨b1,b2⟩:=fK_ (w':=(v.w.alloc (.deferred (some []))).alloc (.loop k)) (o:=.loop k) a1 rfl rfl rfl rfl (Nat.le_refl _);have M:(v.w.alloc (Obj.deferred (some []))).heap.size=v.w.heap.size+1:=by simp
  have V:(⟨v.im,(v.w.alloc (.deferred (some []))).alloc (.loop k),v.sl⟩:Vw).sat ((v.w.heap.size+1,.loop k)::(v.w.heap.size,.deferred (some []))::H):=M▸b1;have E:v.to H ⟨v.im,(v.w.alloc (.deferred (some []))).alloc (.loop k),v.sl⟩ ((v.w.heap.size+1,.loop k)::(v.w.heap.size,.deferred (some []))::H):=a2.trans (M▸b2)
  have A:((v.w.heap.size+1,Obj.loop k)::(v.w.heap.size,.deferred (some []))::H).Perm (Hc++(Hj T++HLp (v.w.heap.size+1) v.w.heap.size k)):=by
    rw[← List.append_assoc];exact (List.perm_append_comm (l₁:=HLp (v.w.heap.size+1) v.w.heap.size k) (l₂:=H)).trans (hH.append_right _)
  have hT:=a0 (v.w.heap.size+1) (fun s=>Hj s++HLp (v.w.heap.size+1) v.w.heap.size k)
    (B _ _ k (by rw[m]) (by rw[m]) (by rw[m]) (by rw[m];exact⟨I.size,rfl,I.val⟩) (by rw[m]) (by rw[m]))
  have U:=ao_ (E.le O) (Z v O W);have hΓ3:=ao_ (E.le O) W;have he:=I.ev hg;refine⟨v.w.heap.size+1,ob_ v.w.heap.size,(v.w.alloc (.deferred (some []))).alloc (.loop k),⟨.fn (.func S) caps.toArray,#[.func (.yield (v.w.heap.size+1)) #[] #[]]⟩,(v.w.alloc (.deferred (some []))).alloc (.loop k),S,(.func (.yield (v.w.heap.size+1)) #[] #[]::caps).toArray,_,?_,?_,fun _ _=>trivial,?_,fun h=>(by cases h),callsIn_wide.2 ((hT.run ⟨v.im,_,v.sl⟩ (V.perm A) U).mono ?_)⟩
  · rw[m];exact run_enterLoop_outer _ _ _ _ _
  · simp only[resolve,rangeCall,List.map_toArray,List.map_cons,List.map_nil,he,Deferred.ofValue]
    rfl
  · have:=hT.callable (.func (.yield (v.w.heap.size+1)) #[] #[]::caps).toArray ((v.w.alloc (.deferred (some []))).alloc (.loop k))
    simpa [invoke] using this
  · rintro e w' ⟨⟨y,hRc⟩,v',rfl,rfl,g1,g2,g3⟩
    have J:=E.trans (g3.permL A.symm);have a3:=ao_ (J.le O) W;have hsd:∀ L,SatD N L fr { a with defers:=L++a.defers }:=fun L=>⟨⟨I.size,rfl,I.val⟩,by show L++a.defers=L;rw[I.defers];simp⟩
    have G:∀ (X Y:Hp) r,(Y++(X++HLp (v.w.heap.size+1) v.w.heap.size r)).Perm ((v.w.heap.size+1,.loop r)::(Y++X++[(v.w.heap.size,.deferred (some []))])):=fun X Y r=>by
      unfold HLp;rw[← List.append_assoc];exact List.perm_middle
    have q:=g1.perm (G (Hj y) Hc k);have hl:=(q.own _ List.mem_cons_self).1;obtain⟨z1,z2⟩:=eM_ (o':=.loop { k with state:=.exhausted }) q
    have zp:((v.w.heap.size+1,Obj.loop { k with state:=.exhausted })::(Hc++Hj y++[(v.w.heap.size,.deferred (some []))])).Perm (Hc++Hj y++HLp (v.w.heap.size+1) v.w.heap.size { k with state:=.exhausted }):=by
      have:=(G (Hj y) Hc { k with state:=.exhausted }).symm;rw[← List.append_assoc]at this;exact this
    refine⟨k.pending,_,run_endLoop hl (by rw[m];simp),?_⟩;have a4:k.pending=none:=by rw[m]
    split
    case h_2=>rename_i c hc;rw[a4]at hc;cases hc
    exact C y hRc _ _ _ _ ⟨v'.im,_,v'.sl⟩ (hsd _) (z1.perm zp) (h3.trans (J.trans ((z2.permL (G _ _ _).symm).subR fun b hb=>(zp.map Prod.fst).mem_iff.2 hb))) (ao_ (z2.le q) a3)
theorem rZ_ {σ α:Type} {g:Operand} {A:Nat} {assign body:Code} {y:FuncId} {caps:List Value} {Hj:σ→Hp} {Hc:Hp} {Γi:List Fct} {xv:α→Value} {good:σ→α→Prop} {nx:α→σ→σ→Prop} {Rc:σ→Prop}
    (m:σ) (B:Fr.ev fr g=some (.func (.func y) #[] caps.toArray)) (C:H.Perm (Hc++Hj m)) (k:∀ v,v.sat H→Z_ Γ v→Z_ Γi v)
    (e:∀ l D (rec:Loop),rec.params=#[A]→rec.state=.ready→rec.pending=none→Fr.sat N fr ⟨rec.tmps,[]⟩→rec.assign=assign→rec.body=body→∀ s x,good s x →
      jg_ P l (xv x) (Hj s++HLp l D rec) [] (fun _:{s':σ // nx x s s'}=>.bool true) (fun s'=>Hj s'.1++HLp l D rec) (fun _=>[]))
    (q:∀ l (Gj:σ→Hp),(∀ s x,good s x→jg_ P l (xv x) (Gj s) [] (fun _:{s':σ // nx x s s'}=>.bool true) (fun s'=>Gj s'.1) (fun _=>[])) →
      Tri P y (.func (.yield l) #[] #[]::caps).toArray (Hc++Gj m) Γi (fun _:{s':σ // Rc s'}=>.tuple #[]) (fun s'=>Hc++Gj s'.1) (fun _=>[]))
    (h:∀ s',Rc s'→∀ D l r,sT_ Fence.wide 0 P R N (ob_ D) v0 H0 K fr (Hc++Hj s'++HLp l D r) Γ) :
    Run P R N v0 H0 (.rangeFunc g #[A] assign body) K fr H Γ:=
  qt_ [] m B C k e q h
end
section
variable {Fc:Fence} {n:Nat} {P:Program} {N:Nat} {D:List Deferred} {v0:Vw} {H0:Hp} {R:Exit→Act→World→Prop} {K:List Kt} {fr:Fr} {H:Hp} {Γ:List Fct}
variable {ops:Array Oper} {l:List Oper} {d:Nat} {ty:TypeId} {ps:String} {af:Array Edge}
theorem us_ {t e:TypeId} {len sz:Nat} {parts:List (Nat×Operand)} {vs:List (Nat×Value)} {m:Value} {cs:List Value} (Z:Opn Fc) (U:∀ w,(underlying t).run P w=.ok (.slice e) w) (O:∀ w,(sizeOf e).run P w=.ok sz w) (S:∀ w,(zeroValue e).run P w=.ok m w)
    (q:m.cells.toList.length=sz) (Q:Nat.blt 0 (len*sz)=true) (B:Nat.ble (len*sz) 16777216=true) (X:Fr.evp fr parts=some vs) (V:lR_ (fun i=>some (i*sz,sz)) (je_ m.cells.toList len) vs=some cs) (Y:Nat.blt d N=true)
    (hk:∀ b,fI_ Fc n P R N D v0 H0 ops l K ((d,.slice (some ⟨b,0,none⟩) len len)::fr) ((b,.cells cs.toArray e (0,0))::H) Γ):fI_ Fc n P R N D v0 H0 ops (⟨some d,.buildSlice t len parts.toArray,ty,ps,af,none⟩::l) K fr H Γ :=
  ed_ rfl fun a v J I W h4=>by
    refine⟨fun f _=>Z.fn f,?_⟩;rw[semAt_eq rfl]
    have T:(execOp a.eval ⟨some d,.buildSlice t len parts.toArray,ty,ps,af,none⟩).run P v.w=.ok (.value (.slice (some ⟨v.w.heap.size,0,none⟩) len len)) (v.w.alloc (.cells cs.toArray e (0,0))):=by
      have y:=J.sat.evp X;have k:=iF_ _ _ _ _ V;have h:0<len*sz:=by simpa [Nat.blt_eq] using Q
      have L:0<sz:=Nat.pos_of_mul_pos_left h;have G:len*sz≤16777216:=Nat.le_of_ble_eq_true B;have A:=jB_ m.cells.toList zs_ len;rw[q]at A;simp only[Array.toArray_toList]at A;rw[← A]at k;have C:(parts.map fun (i,x)=>(i,a.eval x))=vs:=y;simp only[execOp,Instr.buildSlice,Sem.run_bind,U,Result.andThen_ok,O,List.map_toArray,C];rw[if_neg zs_,if_neg zs_];simp only[Sem.run_bind,Sem.run_pure,S,Result.andThen_ok,k];rfl
    rw[T];obtain⟨M,E⟩:=fK_ (w':=v.w.alloc (.cells cs.toArray e (0,0))) (o:=.cells cs.toArray e (0,0)) I rfl rfl rfl rfl (Nat.le_refl _);exact hk v.w.heap.size _ ⟨v.im,_,v.sl⟩ (J.put Y) M (W.trans E) (ao_ (E.le I) h4)
theorem gd_ {k:Act→World→Prop} {H':Hp} (e:H.Perm H') (h:OkD N D v0 H0 k fr H' Γ):OkD N D v0 H0 k fr H Γ :=
  fun a v x y m A=>h a v x (y.perm e) (m.subR fun b q=>(e.map Prod.fst).mem_iff.2 q) A
theorem oa_ {t e:TypeId} {x y:Operand} {b off sz m:Nat} {sv:Value} {C:List Value} {Hr:Hp} (B:Opn Fc) (i:Nat) {cur:Array Value} {T:TypeId} (h:ay_ e sz sv m C Hr) (k:∀ w,(sizeOf t).run P w=.ok 1 w)
    (v:Fr.ev fr x=some (.pointer (some ⟨b,off,none⟩))) (A:Fr.ev fr y=some sv) (hi:H[i]? = some (b,.cells cur T (0,0))) (q:Nat.ble (off+1) cur.size=true)
    (hk:fI_ Fc n P R N D v0 H0 ops l K fr (H.set i (b,.cells (cur.toList.take off++[sv]++cur.toList.drop (off+1)).toArray T (0,0))) Γ):fI_ Fc n P R N D v0 H0 ops (⟨none,.store t x y,ty,ps,af,none⟩::l) K fr H Γ :=
  gc_ B i k v A hi (by rw[(fv_ h).1];rfl) q (by rw[(fv_ h).1];simp[(fv_ h).2]) (by rw[(fv_ h).1];exact hk)
theorem qP_ {x y:Operand} {t e:TypeId} {sz by' m k c:Nat} {sv:Value} {J news:List Value} {Hr F:Hp} {ad:Addr} (hF:Opn Fc) (E:Elt P t e sz by') (q:ay_ e sz sv m J Hr)
    (hx:Fr.ev fr x=some sv) (hy:Fr.ev fr y=some (.slice (some ad) k c)) (M:H.Perm (Hr++F)) (hl:news.length=k*sz) (A:∀ v,v.sat H→Z_ Γ v→∀ j u,news[j]? = some u→v.w.cell? (ad.add j)=some u) (B:∀ u∈news,u.oneCell'=true)
    (C:m+k≤maxLen) (X:(m+k)*by'≤140737488355328) (hN:Nat.blt d N=true)
    (hk:∀ sv' h,ay_ e sz sv' (m+k) (J++news) h→fI_ Fc n P R N D v0 H0 ops l K ((d,sv')::fr) (h++F) Γ) :
    fI_ Fc n P R N D v0 H0 ops (⟨some d,.call ⟨.builtin .append,#[x,y],#[t,t]⟩,ty,ps,af,none⟩::l) K fr H Γ :=
  ed_ rfl fun a v I L h3 Y=>by
    refine⟨fun f _=>hF.fn f,?_⟩;rw[semAt_eq rfl];obtain⟨i,z,hi,V,es,Q,ez⟩:=E.info;have g:=L.perm M;have W:=A v L Y;have U:=q.owns g;obtain⟨T,w',O,Z,q2,_⟩:=run_append_own (P:=P) v.w 0 t ty e i z sz by' E.und hi V es Q ez E.pos sv m J U ad k c news hl W B C X (Nat.zero_le _)
    obtain⟨a1,a2⟩:=kz_ v.w E.und hi V es U hl W B C (by rw[Q];exact X) O;obtain⟨h,k1,k2,S⟩:=iW_ q g Z q2 a1 a2;have e1:a.eval x=sv:=I.sat.ev hx;have e2:a.eval y=.slice (some ad) k c:=I.sat.ev hy
    have G:(execOp a.eval ⟨some d,.call ⟨.builtin .append,#[x,y],#[t,t]⟩,ty,ps,af,none⟩).run P v.w=.ok (.value T) w':=by
      simp only[execOp,resolve,invoke,builtin,Sem.run_bind,Sem.run_pure,Result.andThen_ok,List.map_toArray,List.map_cons,List.map_nil,e1,e2,O]
    rw[G];exact hk T h k1 _ ⟨v.im,w',v.sl⟩ (I.put hN) k2 (h3.trans (S.permL M.symm)) (ao_ ((S.permL M.symm).le L) Y)
end
end Go.Sx
namespace Go.Vs
open Go Go.Sx
abbrev RSt:=Str×Str×Bool
def mi_ (l:List Str) (x:Str):List Str:=if x∈l then l else l++[x]
def mM_ (l:List Str):List Str:=l.foldl mi_ []
theorem rO_ (l:List Str) (x:Str):mM_ (l++[x])=mi_ (mM_ l) x:=by simp[mM_]
theorem wY_ {l:List Str} {x y:Str}:y∈mi_ l x↔y∈l∨y=x:=by
 unfold mi_
 split
 ·rename_i h
  exact⟨.inl,fun q=>q.elim id fun e=>e▸h⟩
 simp
theorem yU_ {l:List Str} {x:Str} (h:l.Nodup):(mi_ l x).Nodup:=by
 unfold mi_
 split
 ·exact h
 rename_i m
 rw[List.nodup_append];exact⟨h,by simp,fun a q b k e=>by simp at k;subst k;subst e;exact m q⟩
theorem mL_ (l:List Str):(mM_ l).Nodup∧∀ y,y∈mM_ l↔y∈l:=by
  unfold mM_
  have k:∀ (l e:List Str),e.Nodup→(l.foldl mi_ e).Nodup∧∀ y,y∈l.foldl mi_ e↔y∈e∨y∈l:=by
    intro l
    induction l with
    | nil=>intro e h;exact⟨h,fun y=>by simp⟩
    | cons x l ih =>
      intro e h;obtain⟨q,m⟩:=ih (mi_ e x) (yU_ h);refine⟨q,fun y=>?_⟩;rw[List.foldl_cons,m,wY_,List.mem_cons,or_assoc]
  obtain⟨q,m⟩:=k l [] List.nodup_nil;exact⟨q,fun y=>by rw[m];simp⟩
def ik (S:List RSt) (r:Str):List Str:=mM_ ((S.filter fun z=>decide (z.1=r)).map (·.2.1))
def flg (S:List RSt) (r s:Str):Bool:=S.any fun z=>decide (z.1=r)&&(decide (z.2.1=s)&&z.2.2)
theorem nE_ {S:List RSt} {r s:Str}:s∈ik S r↔∃ c,(r,s,c)∈S:=by
 unfold ik;rw[(mL_ _).2,List.mem_map];constructor
 ·rintro ⟨⟨a,b,c⟩,h,rfl⟩
  rw[List.mem_filter,decide_eq_true_eq]at h;obtain⟨e,rfl⟩:=h;exact⟨c,e⟩
 rintro ⟨c,h⟩;exact⟨(r,s,c),by rw[List.mem_filter];exact⟨h,by simp⟩,rfl⟩
theorem zl_ (S:List RSt) (r:Str):(ik S r).Nodup:=(mL_ _).1
theorem pF_ (S:List RSt) (r s:Str) (c:Bool) (q:Str):ik (S++[(r,s,c)]) q=if r=q then mi_ (ik S q) s else ik S q:=by
 unfold ik;rw[List.filter_append,List.map_append]
 by_cases h:r=q
 ·rw[if_pos h]
  simp only[List.filter_cons,h,decide_true,if_true,List.filter_nil,List.map_cons,List.map_nil];exact rO_ _ _
 rw[if_neg h];simp[h]
theorem nI_ {S:List RSt} {r s:Str}:flg S r s=true↔(r,s,true)∈S:=by
 unfold flg;rw[List.any_eq_true];constructor
 ·rintro ⟨⟨a,b,c⟩,h,e⟩
  simp only[Bool.and_eq_true,decide_eq_true_eq]at e;obtain⟨rfl,rfl,rfl⟩:=e;exact h
 exact fun h=>⟨_,h,by simp⟩
theorem nJ_ (S:List RSt) (r s:Str) (c:Bool) (q t:Str):flg (S++[(r,s,c)]) q t=(flg S q t||(decide (r=q)&&(decide (s=t)&&c))):=by
  unfold flg;rw[List.any_append];simp
theorem flg_no {S:List RSt} {r s:Str} (h:s ∉ ik S r):flg S r s=false:=by
 cases e:flg S r s
 ·rfl
 exact absurd (nE_.2 ⟨true,nI_.1 e⟩) h
end Go.Vs
namespace Go.Sx
open Go Go.Vs
structure BolE (es:Array MapEntry) (ks:List Str) (g:Str→Bool):Prop where
  keys:es.toList.map (·.key)=ks.map str
  vals:es.toList.map (·.val)=ks.map fun k=>Value.bool (g k)
  nd:ks.Nodup
section
variable {P:Program} {kt:TypeId} {es:Array MapEntry} {ks:List Str} {g:Str→Bool}
theorem BolE.nil {g:Str→Bool}:BolE #[] [] g:=⟨rfl,rfl,List.nodup_nil⟩
theorem BolE.no (e:KeyT P kt str) (h:BolE es ks g) {k:Str} (hk:k ∉ ks):db_ P kt (str k) es.toList none:=e.nf k es.toList ks h.keys hk
theorem BolE.yes (y:KeyT P kt str) (h:BolE es ks g) {k:Str} (hk:k∈ks):∃ i e,ks[i]? = some k∧es[i]? = some e∧e.key=str k∧e.val=.bool (g k)∧db_ P kt (str k) es.toList (some (i,.bool (g k))):=by
  obtain⟨i,hi⟩:=List.getElem?_of_mem hk
  have v:i<es.toList.length:=by
    have:=(List.getElem?_eq_some_iff.1 hi).1;have e:=congrArg List.length h.keys;simp only[List.length_map]at e;omega
  have q:=List.getElem?_eq_getElem v;have x:=congrArg (fun l=>l[i]?) h.vals;simp only[List.getElem?_map,q,Option.map_some,hi,Option.some.injEq]at x;have m:=congrArg (fun l=>l[i]?) h.keys;simp only[List.getElem?_map,q,Option.map_some,hi,Option.some.injEq]at m;refine⟨i,es.toList[i],hi,by rw[← Array.getElem?_toList];exact q,m,x,?_⟩;have:=y.sf k es.toList ks i _ h.keys h.nd hi q;rwa [x]at this
theorem BolE.push (h:BolE es ks g) {k:Str} (hk:k ∉ ks) (b:Bool) (c:Nat) {m:Str→Bool} (B:m k=b) (y:∀ q,q∈ks→m q=g q):BolE (es.push ⟨str k,.bool b,c⟩) (ks++[k]) m:=by
 refine⟨by simp[h.keys],?_,?_⟩
 ·rw[Array.toList_push,List.map_append,h.vals,List.map_append]
  simp only[List.map_cons,List.map_nil,B];rw[show List.map (fun q=>Value.bool (g q)) ks=List.map (fun q=>Value.bool (m q)) ks from List.map_congr_left fun q x=>by rw[y q x]]
 rw[List.nodup_append];exact⟨h.nd,by simp,fun a A b v e=>by simp at v;subst v;subst e;exact hk A⟩
theorem BolE.set (h:BolE es ks g) {k:Str} {i:Nat} (hi:ks[i]? = some k) (b:Bool) {I:Str→Bool} (Q:I k=b) (O:∀ q,q≠k→I q=g q):BolE (es.modify i fun y=>{ y with key:=str k,val:=.bool b }) ks I:=by
 have A:=congrArg List.length h.keys;simp only[List.length_map]at A;refine⟨?_,?_,h.nd⟩
 ·rw[← h.keys]
  apply List.ext_getElem?
  intro j;simp only[List.getElem?_map,Array.getElem?_toList,Array.getElem?_modify]
  by_cases m:i=j
  ·subst m
   rw[if_pos rfl];have hk:=congrArg (fun l=>l[i]?) h.keys;simp only[List.getElem?_map,hi,Option.map_some,Array.getElem?_toList]at hk;cases he:es[i]? with
   | none=>rfl
   | some e=>rw[he]at hk;simpa using hk.symm
  rw[if_neg m]
 apply List.ext_getElem?
 intro j;have J:=congrArg (fun l=>l[j]?) h.vals;simp only[List.getElem?_map,Array.getElem?_toList,Array.getElem?_modify]at J ⊢
 by_cases m:i=j
 ·subst m
  have G:i<es.size:=by
    have:=(List.getElem?_eq_some_iff.1 hi).1;rw[Array.length_toList]at A;omega
  rw[if_pos rfl,Array.getElem?_eq_getElem G,hi];simp[Q]
 rw[if_neg m,J];cases hq:ks[j]? with
 | none=>rfl
 | some q =>
   have:q≠k:=fun e=>by
     subst e;have x:=(List.getElem?_eq_some_iff.1 hi).1;have v:=(List.getElem?_eq_some_iff.1 hq).1;have L:=(List.getElem?_eq_some_iff.1 hi).2;have M:=(List.getElem?_eq_some_iff.1 hq).2;have C:=h.nd;unfold List.Nodup at C;rw[List.pairwise_iff_getElem]at C;rcases Nat.lt_trichotomy i j with B|B|B
     · exact C i j x v B (L.trans M.symm)
     · exact m B
     · exact C j i v x B (M.trans L.symm)
   simp[O q this]
end
def gk_ (E:Str→Array MapEntry×Nat) (p:Str×Nat):Nat×Obj:=(p.2,.map (E p.1).1 (E p.1).2)
def lZ_ (o:Option Nat):Value:=.map o
structure MmE (ks:List (Str×Nat)) (S:List RSt) (es:Array MapEntry) (c:Nat) (E:Str→Array MapEntry×Nat):Prop where
  keys:es.toList.map (·.key)=(ks.map (·.1)).map str
  vals:es.toList.map (·.val)=ks.map fun p=>lZ_ (some p.2)
  nd:(ks.map (·.1)).Nodup
  all:∀ z∈S,z.1∈ks.map (·.1)
  born:Born es c
  inn:∀ k∈ks.map (·.1),BolE (E k).1 (ik S k) (flg S k)∧Born (E k).1 (E k).2
def MmO (mb:Nat) (ks:List (Str×Nat)) (S:List RSt) (H:Hp):Prop:=∃ es c E,H=(mb,.map es c)::ks.map (gk_ E)∧MmE ks S es c E
theorem MmO.nil (mb c:Nat):MmO mb [] [] [(mb,.map #[] c)]:=⟨#[],c,fun _=>(#[],0),rfl,rfl,rfl,List.nodup_nil,by simp,Born.nil c,by simp⟩
section
variable {P:Program} {kt:TypeId} {mb:Nat} {ks:List (Str×Nat)} {S:List RSt} {es:Array MapEntry} {c:Nat} {E:Str→Array MapEntry×Nat} {H:Hp}
theorem MmE.no (e:KeyT P kt str) (h:MmE ks S es c E) {k:Str} (hk:gj_ ks k=none):db_ P kt (str k) es.toList none:=e.nf k es.toList _ h.keys (fR_ hk)
theorem MmE.yes (m:KeyT P kt str) (h:MmE ks S es c E) {k:Str} {b:Nat} (hk:gj_ ks k=some b):∃ i,db_ P kt (str k) es.toList (some (i,lZ_ (some b))):=by
  obtain⟨i,hi⟩:=List.getElem?_of_mem (kG_ hk);have e:=congrArg (fun l=>l[i]?) h.vals;simp only[List.getElem?_map,hi,Option.map_some]at e;cases hx:es.toList[i]? with
  | none=>rw[hx]at e;simp at e
  | some x =>
    rw[hx]at e;simp only[Option.map_some,Option.some.injEq]at e;refine⟨i,?_⟩;have:=m.sf k es.toList _ i x h.keys h.nd (by rw[List.getElem?_map,hi];rfl) hx;rwa [e]at this
theorem MmO.at (h:MmO mb ks S H) {k:Str} {b:Nat} (hk:gj_ ks k=some b):∃ es c Hr,H.Perm ((b,.map es c)::Hr)∧BolE es (ik S k) (flg S k)∧Born es c ∧
    ∀ s d m v,BolE m (ik (S++[(k,s,d)]) k) (flg (S++[(k,s,d)]) k)→Born m v→∃ H',MmO mb ks (S++[(k,s,d)]) H'∧((b,Obj.map m v)::Hr).Perm H':=by
  obtain⟨es,c,E,rfl,hE⟩:=h;have hm:=kG_ hk;have x:k∈ks.map (·.1):=List.mem_map_of_mem hm;obtain⟨B,C,rfl⟩:=List.append_of_mem hm;refine⟨(E k).1,(E k).2,(mb,.map es c)::(B++C).map (gk_ E),?_,(hE.inn k x).1,(hE.inn k x).2,fun s d m v hB I=>?_⟩
  · rw[List.map_append,List.map_cons,List.map_append]
    exact (List.Perm.cons _ List.perm_middle).trans (.swap _ _ _)
  · have y:=hE.nd
    rw[List.map_append,List.map_cons,List.nodup_append,List.nodup_cons]at y
    have L:B.map (gk_ fun q=>if q=k then (m,v) else E q)=B.map (gk_ E):=List.map_congr_left fun p G=>by
      unfold gk_;dsimp only;rw[if_neg fun e=>y.2.2 p.1 (List.mem_map_of_mem G) k zB_ e]
    have M:C.map (gk_ fun q=>if q=k then (m,v) else E q)=C.map (gk_ E):=List.map_congr_left fun p G=>by
      unfold gk_;dsimp only;rw[if_neg fun e=>y.2.1.1 (List.mem_map.2 ⟨p,G,e⟩)]
    refine⟨(mb,.map es c)::(B++(k,b)::C).map (gk_ fun q=>if q=k then (m,v) else E q),⟨es,c,_,rfl,hE.keys,hE.vals,hE.nd,fun z A=>?_,hE.born,fun q J=>?_⟩,?_⟩
    · rcases List.mem_append.1 A with A|A
      · exact hE.all z A
      · rw[List.mem_singleton]at A;subst A;exact x
    · by_cases e:q=k
      · subst e;rw[if_pos rfl];exact⟨hB,I⟩
      · rw[if_neg e,pF_,if_neg (Ne.symm e)]
        have:flg (S++[(k,s,d)]) q=flg S q:=funext fun t=>by rw[nJ_,decide_eq_false (Ne.symm e)];simp
        rw[this];exact hE.inn q J
    · have O:gk_ (fun q=>if q=k then (m,v) else E q) (k,b)=(b,.map m v):=by unfold gk_;dsimp only;rw[if_pos rfl]
      rw[List.map_append,List.map_append,List.map_cons,L,M,O];exact ((List.Perm.cons _ List.perm_middle).trans (.swap _ _ _)).symm
theorem MmE.push (h:MmE ks S es c E) {k:Str} (hk:gj_ ks k=none) (b C:Nat):MmE (ks++[(k,b)]) S (es.push ⟨str k,lZ_ (some b),c⟩) (c+1) (fun q=>if q=k then (#[],C) else E q):=by
 have v:=fR_ hk;refine⟨by simp[h.keys],by simp[h.vals],?_,fun x G=>by simp only[List.map_append,List.mem_append];exact .inl (h.all x G),h.born.push _ _,fun q m=>?_⟩
 ·rw[List.map_append,List.nodup_append]
  exact⟨h.nd,by simp,fun a B q m e=>by simp at m;subst m;subst e;exact v B⟩
 by_cases e:q=k
 ·subst e
  rw[if_pos rfl]
  have:ik S q=[]:=List.eq_nil_iff_forall_not_mem.2 fun s A=>by
    obtain⟨d,y⟩:=nE_.1 A;exact v (h.all _ y)
  rw[this];exact⟨BolE.nil,Born.nil _⟩
 rw[if_neg e];refine h.inn q ?_;rw[List.map_append,List.mem_append]at m;rcases m with m|m
 ·exact m
 simp at m;exact absurd m e
end
section ops
variable {P:Program} {N:Nf} {v0:Vw} {H0:Hp} {R:Exit→Act→World→Prop} {K:List Kt} {fr:Fr} {H F:Hp} {Γ:List Fct}
variable {ops:Array Oper} {l:List Oper} {d:Nat} {ty:TypeId} {ps:String} {af:Array Edge}
variable {mb:Nat} {ks:List (Str×Nat)} {S:List RSt} {Hx:Hp}
theorem eY_ {t kt m:TypeId} {x y:Operand} {k:Str} (e:KeyT P kt str) (q:∀ w,(underlying t).run P w=.ok (.map kt m) w) (C:∀ w,(zeroValue m).run P w=.ok (.map none) w) (J:MmO mb ks S Hx) (A:Fr.ev fr x=some (.map (some mb))) (B:Fr.ev fr y=some (str k)) (G:H.Perm (Hx++F)) :
    Yld P N fr H Γ (.lookup t x y false) ty (lZ_ (gj_ ks k)):=by
  obtain⟨es,c,E,rfl,hE⟩:=J;have hm:∀ v:Vw,v.sat H→Z_ Γ v→v.w.heap[mb]? = some (.map es c):=fun v h _=>(h.own (mb,.map es c) (G.mem_iff.2 zB_)).1
  cases hk:gj_ ks k with
  | none=>exact eG_ q C A B hm (e.ok k) (hE.no e hk)
  | some b =>
    obtain⟨i,I⟩:=hE.yes e hk;exact eX_ q A B hm (e.ok k) I
theorem uV_ {t A kt e:TypeId} {x y:Operand} {o:Option Nat} (B:P.underlying t=some (.map kt e)) (k:Fr.ev fr x=some (lZ_ o)) (m:Fr.ev fr y=some (.map none)):Yld P N fr H Γ (.binOp .eql t x y A) ty (.bool (decide (o=none))) :=
  fun a v h _ _ _ _ _=>by
    have q:decide (o=none)=o.isNone:=by cases o<;>simp
    rw[q];have:=run_eql_map_nil (P:=P) v.w t kt e o B;simp[execOp,h.ev k,h.ev m,eqGuard,lZ_,this]
theorem jv_ {t kt q:TypeId} {x y:Operand} {k s:Str} {b:Nat} (e:KeyT P kt str) (B:∀ w,(underlying t).run P w=.ok (.map kt q) w) (I:∀ w,(zeroValue q).run P w=.ok (.bool false) w) (O:MmO mb ks S Hx) (hk:gj_ ks k=some b) (C:Fr.ev fr x=some (.map (some b))) (G:Fr.ev fr y=some (str s)) (J:H.Perm (Hx++F)) :
    Yld P N fr H Γ (.lookup t x y false) ty (.bool (flg S k s)):=by
  obtain⟨es,c,Hr,M,A,_,_⟩:=O.at hk;have hm:∀ v:Vw,v.sat H→Z_ Γ v→v.w.heap[b]? = some (.map es c):=fun v h _=>(h.own _ (J.mem_iff.2 (List.mem_append_left _ (M.mem_iff.2 List.mem_cons_self)))).1
  by_cases m:s∈ik S k
  · obtain⟨_,_,_,_,_,_,L⟩:=A.yes e m
    exact eX_ B C G hm (e.ok s) L
  · rw[flg_no m]
    exact eG_ B I C G hm (e.ok s) (A.no e m)
theorem vR_ {o:Op} {t kt C:TypeId} {x y z:Operand} {k:Str} {b h:Nat} (B:KeyT P kt str) (G:o=.insert t x y z∨o=.mapUpdate t x y z) (M:∀ w,(underlying t).run P w=.ok (.map kt C) w) (T:MmO mb ks S Hx) (hk:gj_ ks k=none)
    (O:Fr.ev fr x=some (.map (some mb))) (Q:Fr.ev fr y=some (str k)) (I:Fr.ev fr z=some (.map (some b))) (m:H.Perm ((b,.map #[] h)::(Hx++F)))
    (A:∀ H',MmO mb (ks++[(k,b)]) S H'→Ops P R N v0 H0 ops l K fr (H'++F) Γ):Ops P R N v0 H0 ops (⟨none,o,ty,ps,af,none⟩::l) K fr H Γ:=by
  obtain⟨es,c,E,rfl,hE⟩:=T
  have J:ks.map (gk_ fun q=>if q=k then (#[],h) else E q)=ks.map (gk_ E):=List.map_congr_left fun p m=>by
    unfold gk_;dsimp only;rw[if_neg fun e:p.1=k=>fR_ hk (e▸List.mem_map_of_mem m)]
  have L:gk_ (fun q=>if q=k then (#[],h) else E q) (k,b)=(b,.map #[] h):=by unfold gk_;dsimp only;rw[if_pos rfl]
  have v:H.Perm ((mb,.map es c)::((ks++[(k,b)]).map (gk_ fun q=>if q=k then (#[],h) else E q)++F)):=by
    refine m.trans ?_;rw[List.map_append,List.map_cons,List.map_nil,J,L,List.cons_append];refine (List.Perm.swap _ _ _).trans (.cons _ ?_);rw[List.append_assoc];exact List.perm_middle.symm
  refine y_ v ?_;refine aR_ 0 G M O Q I rfl (B.ok k) (hE.no B hk) ?_;simp only[List.set_cons_zero];exact A _ ⟨_,_,_,rfl,hE.push hk b h⟩
theorem qI_ {o:Op} {t kt X:TypeId} {x y z:Operand} {k s:Str} {b:Nat} {e U:Bool} (v:KeyT P kt str) (O:o=.insert t x y z∨o=.mapUpdate t x y z) (J:∀ w,(underlying t).run P w=.ok (.map kt X) w) (hT:MmO mb ks S Hx) (hk:gj_ ks k=some b) (Z:U=(flg S k s||e))
    (T:Fr.ev fr x=some (.map (some b))) (M:Fr.ev fr y=some (str s)) (Q:Fr.ev fr z=some (.bool U)) (Y:H.Perm (Hx++F))
    (m:∀ H',MmO mb ks (S++[(k,s,e)]) H'→Ops P R N v0 H0 ops l K fr (H'++F) Γ):Ops P R N v0 H0 ops (⟨none,o,ty,ps,af,none⟩::l) K fr H Γ:=by
  subst Z;obtain⟨es,c,Hr,h1,A,L,W⟩:=hT.at hk;have I:flg (S++[(k,s,e)]) k s=(flg S k s||e):=by rw[nJ_];simp
  have V:∀ q,q≠s→flg (S++[(k,s,e)]) k q=flg S k q:=fun q C=>by rw[nJ_,decide_eq_false (Ne.symm C)];simp
  refine y_ (Y.trans (h1.append_right F)) ?_
  by_cases h:s∈ik S k
  · obtain⟨i,en,g1,g2,g3,g4,g5⟩:=A.yes v h
    obtain⟨H',B,G⟩:=W s e (es.modify i fun y=>{ y with key:=str s,val:=.bool (flg S k s||e) }) c (by rw[pF_,if_pos rfl,mi_,if_pos h];exact A.set g1 _ I V) (L.modify i _ fun _=>rfl);exact hw_ 0 v O J T M Q rfl g5 g2 g3 (y_ (G.append_right F) (m H' B))
  · obtain⟨H',B,G⟩:=W s e (es.push ⟨str s,.bool (flg S k s||e),c⟩) (c+1) (by rw[pF_,if_pos rfl,mi_,if_neg h];exact A.push h (flg S k s||e) c I fun q C=>V q (fun e=>h (e▸C))) (L.push _ _)
    exact aR_ 0 O J T M Q rfl (v.ok s) (A.no v h) (y_ (G.append_right F) (m H' B))
end ops
end Go.Sx
namespace Go.Vs
open Go Go.Sx
def Ax.selfs (x:Ax):Nat:=x.roles.countP fun r=>decide (r=x.role)
def Ax.exm (x:Ax) (i:Nat):Bool:=decide (x.roles[i]? = some x.role)&&((decide (x.selfs=1)&&(decide (i=0)||decide (i+1=x.roles.length)))||(decide (x.selfs=2)&&decide (x.roles.length=2)))
def Ax.chs (x:Ax):Nat→List RSt
  | 0=>[]
  | i+1=>x.chs i++(match x.roles[i]? with|some r=>if x.exm i=true then [] else [(r,x.role,true)]|none=>[])
def Ax.steps (x:Ax):List RSt :=
  if x.kind=5 then (match x.roles[0]? with|some r=>if r=x.role then [] else [(r,x.role,false)]|none=>[])
  else if x.kind=6 then x.chs x.roles.length else []
def cD_ (l:List Ax):List RSt:=l.flatMap Ax.steps
theorem rT_ {l m:List Ax} (h:∀ x∈l,x∈m):∀ z∈cD_ l,z∈cD_ m:=fun z d=>by
  unfold cD_ at d ⊢;rw[List.mem_flatMap]at d ⊢;obtain⟨x,e,d⟩:=d;exact⟨x,h x e,d⟩
theorem dF_ {l:List Ax} {i:Nat} {x:Ax} (h:l[i]? = some x):cD_ (l.take (i+1))=cD_ (l.take i)++x.steps:=by
  unfold cD_;rw[List.take_add_one,h,List.flatMap_append];simp
theorem Ax.steps_five {x:Ax} {r:Str} (hk:x.kind=5) (h:x.roles[0]? = some r) (d:r≠x.role):x.steps=[(r,x.role,false)]:=by unfold Ax.steps;rw[if_pos hk,h];dsimp only;rw[if_neg d]
theorem Ax.steps_same {x:Ax} {r:Str} (hk:x.kind=5) (h:x.roles[0]? = some r) (d:r=x.role):x.steps=[]:=by unfold Ax.steps;rw[if_pos hk,h];dsimp only;rw[if_pos d]
theorem Ax.steps_six {x:Ax} (hk:x.kind=6):x.steps=x.chs x.roles.length:=by unfold Ax.steps;rw[if_neg zs_,if_pos hk]
theorem Ax.steps_no {x:Ax} (d:x.kind≠5) (e:x.kind≠6):x.steps=[]:=by unfold Ax.steps;rw[if_neg d,if_neg e]
theorem Ax.chs_yes {x:Ax} {i:Nat} {r:Str} (h:x.roles[i]? = some r) (d:x.exm i=true):x.chs (i+1)=x.chs i:=by rw[Ax.chs,h];dsimp only;rw[if_pos d,List.append_nil]
theorem Ax.chs_no {x:Ax} {i:Nat} {r:Str} (h:x.roles[i]? = some r) (d:x.exm i=false):x.chs (i+1)=x.chs i++[(r,x.role,true)]:=by rw[Ax.chs,h];dsimp only;rw[if_neg (by rw[d];simp)]
def Frm (ks:List (Str×Nat)) (S:List RSt):Prop:=∀ k∈ks.map (·.1),∃ s c,(k,s,c)∈S
theorem Frm.nil {S:List RSt}:Frm [] S:=fun k hk=>by simp at hk
theorem Frm.more {ks:List (Str×Nat)} {S T:List RSt} (h:Frm ks S):Frm ks (S++T):=fun k hk=>by
  obtain⟨s,c,d⟩:=h k hk;exact⟨s,c,List.mem_append_left _ d⟩
theorem Frm.add {ks d:List (Str×Nat)} {S:List RSt} {r s:Str} {e:Bool} (h:Frm ks S) (v:∀ k∈d.map (·.1),k∈ks.map (·.1)∨k=r):Frm d (S++[(r,s,e)]):=fun k hk=>by
 rcases v k hk with m|rfl
 ·obtain⟨t,c,q⟩:=h k m
  exact⟨t,c,List.mem_append_left _ q⟩
 exact⟨s,e,by simp⟩
def sE (S:List RSt) (r s:Str) (c:Bool):Prop:=(r,s,c)∈S
def mj_ (S:List RSt):Prop:=∃ n,Clo (sE S) n
theorem Clo.sub {α:Type} {E F:α→α→Bool→Prop} {n:Nat} (h:∀ x y c,E x y c→F x y c):Clo E n→Clo F n:=fun⟨f,c,e,k,d,q⟩=>⟨f,c,e,k,fun m hm=>h _ _ _ (d m hm),q⟩
theorem mj_.sub {S T:List RSt} (h:∀ z∈S,z∈T):mj_ S→mj_ T:=fun⟨n,d⟩=>⟨n,d.sub fun x y c e=>h _ e⟩
theorem vV_ {α:Type} {l:List α} (h:l.Nodup) {i j:Nat} {x:α} (hi:l[i]? = some x) (m:l[j]? = some x):i=j:=by
 have d:=(List.getElem?_eq_some_iff.1 hi).1;have e:=(List.getElem?_eq_some_iff.1 m).1;have k:=(List.getElem?_eq_some_iff.1 hi).2;have q:=(List.getElem?_eq_some_iff.1 m).2;unfold List.Nodup at h;rw[List.pairwise_iff_getElem]at h;rcases Nat.lt_trichotomy i j with g|g|g
 ·exact absurd (k.trans q.symm) (h i j d e g)
 ·exact g
 exact absurd (q.trans k.symm) (h j i e d g)
structure GrO (S:List RSt) (R:List Str) (G:List (List (Nat×Bool))):Prop where
  len:G.length=R.length
  nd:R.Nodup
  mem:∀ r,r∈R↔∃ s c,(r,s,c)∈S
  row:∀ (i:Nat) (r:Str) (l:List (Nat×Bool)),R[i]? = some r→G[i]? = some l→∀ (j:Nat) (c:Bool),(j,c)∈l↔∃ s,R[j]? = some s∧(∃ c',(r,s,c')∈S)∧c=flg S r s
theorem GrO.to {S:List RSt} {R:List Str} {G:List (List (Nat×Bool))} (h:GrO S R G):∀ (i:Nat) (l:List (Nat×Bool)),G[i]? = some l→∀ s∈l,s.1<G.length:=by
  intro i l hl s e;have d:=(List.getElem?_eq_some_iff.1 hl).1;rw[h.len]at d;obtain⟨t,k,_⟩:=(h.row i _ l (List.getElem?_eq_getElem d) hl s.1 s.2).1 e;rw[h.len];exact (List.getElem?_eq_some_iff.1 k).1
theorem GrO.circ {S:List RSt} {R:List Str} {G:List (List (Nat×Bool))} (h:GrO S R G):mj_ S↔∃ n,Clo (gE G) n:=by
 constructor
 ·rintro ⟨n,f,c,F,H,y,B,e,v⟩
  have P:∀ m,∃ j,m≤n→R[j]? = some (f m):=fun m=>by
    by_cases g:m≤n
    · by_cases M:m<n
      · obtain⟨j,J⟩:=List.getElem?_of_mem ((h.mem (f m)).2 ⟨_,_,y m M⟩)
        exact⟨j,fun _=>J⟩
      · obtain⟨j,J⟩:=List.getElem?_of_mem ((h.mem (f 0)).2 ⟨_,_,y 0 F⟩)
        exact⟨j,fun _=>by rw[show m=n by omega,H];exact J⟩
    · exact⟨0,fun q=>absurd q g⟩
  obtain⟨g,E⟩:=Classical.axiomOfChoice P;refine⟨n,g,fun m=>flg S (f m) (f (m+1)),F,?_,fun m hm=>?_,B,e,?_⟩
  ·have k:=E n (Nat.le_refl _)
   have I:=E 0 (Nat.zero_le _);rw[H]at k;exact vV_ h.nd k I
  ·have k:=E m zs_
   have A:g m<G.length:=by rw[h.len];exact (List.getElem?_eq_some_iff.1 k).1
   exact⟨_,List.getElem?_eq_getElem A,(h.row (g m) (f m) _ k (List.getElem?_eq_getElem A) _ _).2 ⟨f (m+1),E (m+1) zs_,⟨_,y m hm⟩,rfl⟩⟩
  have:=y B e;rw[v]at this;exact nI_.2 this
 rintro ⟨n,g,c,F,H,y,B,e,v⟩
 have K:∀ m,m<n→∃ d,((R[g m]?).getD [],(R[g (m+1)]?).getD [],d)∈S∧(c m=true→d=true):=fun m hm=>by
   obtain⟨l,hl,N⟩:=y m hm;have C:g m<R.length:=by rw[← h.len];exact (List.getElem?_eq_some_iff.1 hl).1
   obtain⟨s,k,⟨O,I⟩,L⟩:=(h.row (g m) _ l (List.getElem?_eq_getElem C) hl _ _).1 N;rw[List.getElem?_eq_getElem C,k];simp only[Option.getD_some];cases hc:c m
   · exact⟨O,I,fun q=>by cases q⟩
   · rw[hc]at L
     exact⟨true,nI_.1 L.symm,fun _=>rfl⟩
 have x:∀ m,∃ d,m<n→((R[g m]?).getD [],(R[g (m+1)]?).getD [],d)∈S∧(c m=true→d=true):=fun m=>by
   by_cases g:m<n
   · obtain⟨d,x⟩:=K m g
     exact⟨d,fun _=>x⟩
   · exact⟨false,fun q=>absurd q g⟩
 obtain⟨d,x⟩:=Classical.axiomOfChoice x;exact⟨n,fun m=>(R[g m]?).getD [],d,F,by dsimp only;rw[H],fun m hm=>(x m hm).1,B,e,(x B e).2 v⟩
end Go.Vs
namespace Go.Sx
open Go
section
variable {P:Program} {N:Nat} {v0:Vw} {H0:Hp} {R:Exit→Act→World→Prop} {K:List Kt} {fr:Fr} {H F:Hp} {Γ:List Fct}
theorem bQ_ {n:Nat}:∀ (K:List Kt) (e:Exit) (a:Act) (w:World),post P R K e a w→ek_ Fence.wide n P R K e a w
 | [],_,_,_,h=>h
 | .seq c::K,.normal,a,w,h=>wpIn_wide.2 (wp_mono h fun e a w d=>bQ_ K e a w d)
 | .seq _::K,.exit _,a,w,h=>bQ_ K _ a w h
 | .seq _::K,.goto _,a,w,h=>bQ_ K _ a w h
 | .seq _::K,.ret,a,w,h=>bQ_ K _ a w h
 | .seq _::K,.panic _,a,w,h=>bQ_ K _ a w h
 | .seq _::K,.outgrown,a,w,h=>bQ_ K _ a w h
 | .inv J::_,.normal,_,_,h=>h
 | .inv _::K,.exit _,a,w,h=>bQ_ K _ a w h
 | .inv _::K,.goto _,a,w,h=>bQ_ K _ a w h
 | .inv _::K,.ret,a,w,h=>bQ_ K _ a w h
 | .inv _::K,.panic _,a,w,h=>bQ_ K _ a w h
 | .inv _::K,.outgrown,a,w,h=>bQ_ K _ a w h
 | .blk id::K,.exit id',a,w,h=>by
   simp only[ek_,post]at h ⊢
   split
   · rename_i e;rw[if_pos e]at h;exact bQ_ K _ a w h
   · rename_i e;rw[if_neg e]at h;exact bQ_ K _ a w h
 | .blk _::K,.normal,a,w,h=>bQ_ K _ a w h
 | .blk _::K,.goto _,a,w,h=>bQ_ K _ a w h
 | .blk _::K,.ret,a,w,h=>bQ_ K _ a w h
 | .blk _::K,.panic _,a,w,h=>bQ_ K _ a w h
 | .blk _::K,.outgrown,a,w,h=>bQ_ K _ a w h
end
end Go.Sx
namespace Go.Sx
open Go
section
variable {P:Program} {N:Nf} {v0:Vw} {H0:Hp} {R:Exit→Act→World→Prop} {K:List Kt} {fr:Fr} {H F:Hp} {Γ:List Fct} {ops:Array Oper} {l:List Oper} {d:Nat} {ty:TypeId} {ps:String} {af:Array Edge} {e:TypeId} {sz n:Nat} {sv:Value} {xs:List Value} {Hr:Hp}
theorem vX_ (z:List Value) (h:0<z.length) (n:Nat):madeCells z.toArray (n*z.length)=(je_ z n).toArray:=jB_ z h n
theorem qK_ {t:TypeId} {x y:Operand} {by':Nat} {z:Value} (C:P.underlying t=some (.slice e)) (hi:(P.info? e).map (fun i=>(i.zero,i.size,i.bytes))=some (some z,sz,by')) (k:z.cells.toList.length=sz) (E:0<sz) (G:Fr.ev fr x=some (.int .i64 (n:Int))) (J:Fr.ev fr y=some (.int .i64 (n:Int)))
    (L:by'*n≤281474976710656) (m:n≤maxLen) (I:Nat.blt d N.n=true)
    (hk:∀ sv Hr,ay_ e sz sv n (je_ z.cells.toList n) Hr→Ops P R N v0 H0 ops l K ((d,sv)::fr) (Hr++H) Γ):Ops P R N v0 H0 ops (⟨some d,.makeSlice t x y,ty,ps,af,none⟩::l) K fr H Γ:=by
  refine gy_ (x:=fun b=>.slice (some ⟨b,0,none⟩) n n) (o:=.cells (je_ z.cells.toList n).toArray e (0,0)) I (fun a v B _ _=>?_) (fun b=>hk _ [(b,.cells (je_ z.cells.toList n).toArray e (0,0))] ⟨?_,.inr ⟨b,n,(je_ z.cells.toList n).toArray,rfl,rfl,Nat.le_refl _,m,?_,?_⟩⟩)
  · cases h:P.info? e with
    | none=>rw[h]at hi;cases hi
    | some i =>
      rw[h]at hi;simp only[Option.map_some,Option.some.injEq,Prod.mk.injEq]at hi
      have q:(i.bytes:Int)*(n:Int)≤281474976710656:=by
        rw[hi.2.2];have h:((by'*n:Nat):Int)≤281474976710656:=by omega
        rwa [Int.natCast_mul]at h
      have A:=run_make (P:=P) v.w t e i z C h hi.1 .i64 .i64 (n:Int) (n:Int) zs_ (Int.le_refl _) q (by simp only[maxLen]at m;omega);have hm:=vX_ z.cells.toList zs_ n;rw[k,Array.toArray_toList]at hm;rw[hi.2.1,Int.toNat_natCast,hm]at A;simp only[execOp,B.ev G,B.ev J];simp[A]
  · rw[ih_,k]
  · simp only[List.size_toArray];rw[ih_,k]
  · rw[List.toList_toArray,List.take_of_length_le (by rw[ih_,k];exact Nat.le_refl _)]
theorem pX_ {α:Type} (f:α→List Value) (z:α):∀ n,je_ (f z) n=(List.replicate n z).flatMap f
  | 0=>rfl
  | n+1=>by rw[je_,List.replicate_succ,List.flatMap_cons,pX_ f z n]
end
end Go.Sx
