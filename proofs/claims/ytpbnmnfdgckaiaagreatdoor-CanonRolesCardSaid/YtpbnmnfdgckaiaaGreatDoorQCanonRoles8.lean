/-
  Part of the proof of the law CanonRoles over this seat: the small logic, the data, the contracts of functions (no condition).
-/
import Derived.Test.YtpbnmnfdgckaiaaGreatDoorQCanonRoles7
import Derived.Test.YtpbnmnfdgckaiaaGreatDoorQCanonRoles1
import Derived.Scope
import Derived.Test.YtpbnmnfdgckaiaaGreatDoorQCanonRoles6
import Derived.Lib.Join
import Derived.Lib.AppendZeros
import Derived.Test.YtpbnmnfdgckaiaaGreatDoorQCanonRoles2
import Derived.Test.YtpbnmnfdgckaiaaGreatDoorQCanonRoles3
import Derived.Maps.RangeRun
import Derived.WalkSpells
set_option linter.unusedVariables false
set_option linter.unusedSimpArgs false
set_option linter.unusedSectionVars false
set_option maxHeartbeats 1000000
namespace Go.Sx
open Go Go.Vs
theorem pH_ {P:Program} {f:FuncId} {args:Array Value} {H:Hp} {Γ L:List Fct} {ι:Type} {C:ι→Value} {H':ι→Hp} (B:Hp) (J:Tri P f args H Γ C H' (fun _=>[]))
    (U:∀ v:Vw,(∀ p∈B,v.im p.1∧v.w.heap[p.1]? = some p.2)→Z_ L v→Z_ Γ v):Tri P f args (B++H) L C (fun x=>B++H' x) (fun _=>[]):=by
  refine⟨J.callable,fun v A Q=>?_⟩;have y:=A.nodup;rw[List.map_append,List.nodup_append]at y;have G:∀ p∈B,p.1<v.w.heap.size:=fun p k=>(Array.getElem?_eq_some_iff.1 (A.own p (List.mem_append_left _ k)).1).1
  have M:(⟨fun b=>v.im b∨b∈B.map Prod.fst,v.w,v.sl⟩:Vw).sat H:=by
    refine⟨fun p k=>⟨(A.own p (List.mem_append_right _ k)).1,fun hi=>?_⟩,y.2.1,fun b m=>?_⟩
    · rcases hi with hi|hi
      · exact (A.own p (List.mem_append_right _ k)).2 hi
      · exact y.2.2 _ hi _ (List.mem_map_of_mem k) rfl
    · rcases m with m|m
      · exact A.lt b m
      · obtain⟨p,k,rfl⟩:=List.mem_map.1 m
        exact G p k
  have I:v.le ⟨fun b=>v.im b∨b∈B.map Prod.fst,v.w,v.sl⟩:=⟨fun b h=>.inl h,fun _ _=>rfl,rfl⟩;have T:=U ⟨fun b=>v.im b∨b∈B.map Prod.fst,v.w,v.sl⟩ (fun p k=>⟨.inr (List.mem_map_of_mem k),(A.own p (List.mem_append_left _ k)).1⟩) (ao_ I Q);refine (J.run _ M T).mono ?_;rintro e w' ⟨x,F,rfl,rfl,E,_,q⟩;have hB:∀ b,b∈B.map Prod.fst→F.im b:=fun b m=>q.imUp b (.inr m)
  refine⟨x,⟨fun b=>F.im b∧b ∉ B.map Prod.fst,F.w,F.sl⟩,rfl,rfl,⟨fun p k=>?_,?_,fun b m=>E.lt b m.1⟩,trivial,?_⟩
  · rcases List.mem_append.1 k with k|k
    · refine⟨?_,fun h=>h.2 (List.mem_map_of_mem k)⟩
      have:=(q.le M).block p.1 (.inr (List.mem_map_of_mem k));exact this.trans (A.own p (List.mem_append_left _ k)).1
    · exact⟨(E.own p k).1,fun h=>(E.own p k).2 h.1⟩
  · rw[List.map_append,List.nodup_append]
    refine⟨y.1,E.nodup,fun a S b m e=>?_⟩;subst e;obtain⟨p,k,rfl⟩:=List.mem_map.1 m;exact (E.own p k).2 (hB _ S)
  · refine⟨q.os,q.tape,q.output,q.size,fun b m O=>q.block b m (fun hm=>O ?_),fun b m=>⟨q.imUp b (.inl m),fun hm=>?_⟩,fun b m=>?_,fun b m=>?_,q.sl,q.dr⟩
    · rw[List.map_append];exact List.mem_append_right _ hm
    · obtain⟨p,k,rfl⟩:=List.mem_map.1 hm
      exact (A.own p (List.mem_append_left _ k)).2 m
    · rcases q.imNew b m.1 with (h|h)|h|h
      · exact .inl h
      · exact absurd h m.2
      · exact .inr (.inl (by rw[List.map_append];exact List.mem_append_right _ h))
      · exact .inr (.inr h)
    · rw[List.map_append]at m ⊢
      rcases List.mem_append.1 m with h|h
      · exact .inl (List.mem_append_left _ h)
      · exact (q.hNew b h).imp (List.mem_append_right _) id
structure KeyT (P:Program) (kt:TypeId) {K:Type} [DecidableEq K] (kv:K→Value):Prop where
  ok:∀ k,gZ_ P kt (kv k)
  nf:∀ (k:K) (es:List MapEntry) (ks:List K),es.map (·.key)=ks.map kv→k ∉ ks→dp_ P kt (kv k) es none
  sf:∀ (k:K) (es:List MapEntry) (ks:List K) (i:Nat) (e:MapEntry),es.map (·.key)=ks.map kv→ks.Nodup→ks[i]? = some k→es[i]? = some e→dp_ P kt (kv k) es (some (i,e.val))
  same:∀ k,Instr.sameBits 10000 (kv k) (kv k)=true
section
variable {P:Program}
theorem nu_ (a b:List UInt8):((⟨a.toArray⟩:ByteArray)==⟨b.toArray⟩)=decide (a=b):=by
  show (a.toArray==b.toArray)=_
  rw[Bool.eq_iff_iff];simp
theorem qv_ {kt:TypeId} (C:P.underlying kt=some .string):KeyT P kt str where
  ok:=fun k e w=>by
    have key:∀ m,(Instr.checkKey e (m+1) kt (str k)).run P w=.ok () w:=fun m=>by simp[Instr.checkKey,run_underlying C,str]
    exact key 9999
  nf:=fun k es ks h hk=>aJ_ C (by
    have:∀ (ks:List Str) (es:List MapEntry) (i:Nat),es.map (·.key)=ks.map str→k ∉ ks→Instr.findNow .string (str k) es i=some none:=by
      intro ks
      induction ks with
      | nil => intro es i h _; have : es = [] := by simpa using h
               subst this;rfl
      | cons q ks ih =>
        intro es i h hk;cases es with
        | nil=>simp at h
        | cons e es =>
          simp only[List.map_cons,List.cons.injEq]at h;simp only[List.mem_cons,not_or]at hk
          have y:Instr.sameNow .string (str k) e.key=some false:=by
            rw[h.1];show some ((⟨k.toArray⟩:ByteArray)==⟨q.toArray⟩)=some false
            rw[nu_,decide_eq_false hk.1]
          simp only[Instr.findNow,y];exact ih es (i+1) h.2 hk.2
    exact this ks es 0 h hk)
  sf:=fun k es ks i e h A hi v=>aJ_ C (by
    have:∀ (ks:List Str) (es:List MapEntry) (j i:Nat),es.map (·.key)=ks.map str→ks.Nodup→ks[i]? = some k→es[i]? = some e→Instr.findNow .string (str k) es j=some (some (j+i,e.val)):=by
      intro ks
      induction ks with
      | nil=>intro es j i _ _ h;simp at h
      | cons q ks ih =>
        intro es j i h A hi v;cases es with
        | nil=>simp at h
        | cons x es =>
          simp only[List.map_cons,List.cons.injEq]at h;rw[List.nodup_cons]at A;cases i with
          | zero =>
            simp only[List.getElem?_cons_zero,Option.some.injEq]at hi v;subst hi;subst v
            have y:Instr.sameNow .string (str q) x.key=some true:=by
              rw[h.1];show some ((⟨q.toArray⟩:ByteArray)==⟨q.toArray⟩)=some true
              rw[nu_,decide_eq_true rfl]
            simp only[Instr.findNow,y,Nat.add_zero]
          | succ i =>
            simp only[List.getElem?_cons_succ]at hi v;have B:k≠q:=fun e=>A.1 (e▸List.mem_of_getElem? hi)
            have y:Instr.sameNow .string (str k) x.key=some false:=by
              rw[h.1];show some ((⟨k.toArray⟩:ByteArray)==⟨q.toArray⟩)=some false
              rw[nu_,decide_eq_false B]
            simp only[Instr.findNow,y];rw[ih es (j+1) i h.2 A.2 hi v,show j+1+i=j+(i+1) by omega]
    have:=this ks es 0 i h A hi v;rwa [Nat.zero_add]at this)
  same:=fun k=>by
    have key:∀ m,Instr.sameBits m (str k) (str k)=true:=fun m=>by
      cases m<;>(show ((⟨k.toArray⟩:ByteArray)==⟨k.toArray⟩)=true;rw[nu_,decide_eq_true rfl])
    exact key 10000
theorem fs_ {K:Type} [DecidableEq K] {kt:TypeId} {fs:Array Field} {kv:K→Value} (F:P.underlying kt=some (.struct fs)) (E:∀ k,gZ_ P kt (kv k)) (y:∀ p q w,(Op.equal kt (kv p) (kv q)).run P w=.ok (decide (p=q)) w) (m:∀ k,Instr.sameBits 10000 (kv k) (kv k)=true):KeyT P kt kv where
  ok:=E
  nf:=fun k es ks h hk=>(hz_ F y k ks es h).1 hk
  sf:=fun k es ks i e h B hi v=>by
    have key:∀ (ks:List K) (es:List MapEntry) (j i:Nat),es.map (·.key)=ks.map kv→ks.Nodup→ks[i]? = some k→es[i]? = some e→∀ w,(Instr.findAsking kt (kv k) es j).run P w=.ok (some (j+i,e.val)) w:=by
      intro ks
      induction ks with
      | nil=>intro es j i _ _ h;simp at h
      | cons q ks ih =>
        intro es j i h B hi v w;cases es with
        | nil=>simp at h
        | cons x es =>
          simp only[List.map_cons,List.cons.injEq]at h;rw[List.nodup_cons]at B;cases i with
          | zero =>
            simp only[List.getElem?_cons_zero,Option.some.injEq]at hi v;subst hi;subst v;simp only[Instr.findAsking,Sem.run_bind,h.1,y,Result.andThen_ok,decide_true,if_true,Sem.run_pure,Nat.add_zero]
          | succ i =>
            simp only[List.getElem?_cons_succ]at hi v;have C:k≠q:=fun e=>B.1 (e▸List.mem_of_getElem? hi)
            simp only[Instr.findAsking,Sem.run_bind,h.1,y,Result.andThen_ok,C,decide_false,Bool.false_eq_true,if_false];rw[ih es (j+1) i h.2 B.2 hi v w,show j+1+i=j+(i+1) by omega]
    intro w;have A:∀ (x:MapEntry) (r:List MapEntry),Instr.findNow (.struct fs) (kv k) (x::r) 0=none:=fun x r=>by simp[Instr.findNow,Instr.sameNow]
    cases es with
    | nil=>simp at v
    | cons x r =>
      simp only[Instr.findKey,Sem.run_bind,run_underlying F,Result.andThen_ok,A];have:=key ks (x::r) 0 i h B hi v w;rwa [Nat.zero_add]at this
  same:=m
end
theorem ei_ (n:Nat) {k:IntKind} (i:Int):Instr.sameBits n (.int k i) (.int k i)=true:=by
  cases n<;>simp[Instr.sameBits]
theorem dg_ (n:Nat) (s:List UInt8):Instr.sameBits n (str s) (str s)=true:=by
  cases n<;>(show ((⟨s.toArray⟩:ByteArray)==⟨s.toArray⟩)=true;rw[nu_,decide_eq_true rfl])
theorem ih_ {n:Nat} {l:List Value} (h:∀ v∈l,Instr.sameBits n v v=true):Instr.sameBits (n+1) (.agg l.toArray) (.agg l.toArray)=true:=by
 simp only[Instr.sameBits,BEq.rfl,Bool.true_and,List.all_eq_true];intro p k
 have:∀ (l:List Value),(∀ v∈l,Instr.sameBits n v v=true)→∀ p∈l.zip l,Instr.sameBits n p.1 p.2=true:=by
   intro l
   induction l with
   | nil=>intro _ p k;simp at k
   | cons a l ih =>
     intro h p k;simp only[List.zip_cons_cons,List.mem_cons]at k;rcases k with rfl|k
     · exact h a zj_
     · exact ih (fun v m=>h v (by simp[m])) p k
 exact this l h p k
structure Born (es:Array MapEntry) (c:Nat):Prop where
  lt:∀ x∈es.toList,x.born<c
  nd:(es.toList.map (·.born)).Nodup
theorem Born.nil (c:Nat):Born #[] c:=⟨by simp,by simp⟩
theorem Born.push {es:Array MapEntry} {c:Nat} (h:Born es c) (m val:Value):Born (es.push ⟨m,val,c⟩) (c+1):=by
 refine⟨fun x k=>?_,?_⟩
 ·rw[Array.toList_push,List.mem_append]at k
  rcases k with k|k
  ·exact Nat.lt_succ_of_lt (h.lt x k)
  rw[List.mem_singleton]at k;rw[k];exact Nat.lt_succ_self _
 rw[Array.toList_push,List.map_append,List.nodup_append];refine⟨h.nd,by simp,fun a q b v e=>?_⟩;obtain⟨x,k,rfl⟩:=List.mem_map.1 q;simp at v
 have:=h.lt x k;omega
theorem Born.modify {es:Array MapEntry} {c:Nat} (h:Born es c) (i:Nat) (f:MapEntry→MapEntry) (v:∀ e,(f e).born=e.born):Born (es.modify i f) c:=by
 have k:(es.modify i f).toList.map (·.born)=es.toList.map (·.born):=by
   apply List.ext_getElem?
   intro j;simp only[List.getElem?_map,Array.getElem?_toList,Array.getElem?_modify]
   split
   · cases es[j]? <;> simp[v]
   · rfl
 refine⟨fun x m=>?_,by rw[k];exact h.nd⟩;have:x.born∈(es.modify i f).toList.map (·.born):=List.mem_map_of_mem m;rw[k]at this;obtain⟨y,q,e⟩:=List.mem_map.1 this;rw[← e];exact h.lt y q
theorem Born.find {es:Array MapEntry} {c i:Nat} {x:MapEntry} (h:Born es c) (q:es[i]? = some x):es.findIdx? (fun e=>(e.born:Int)==(x.born:Int))=some i:=by
  rw[Array.findIdx?_eq_some_iff_getElem];obtain⟨hi,rfl⟩:=Array.getElem?_eq_some_iff.1 q;refine⟨hi,by simp,fun j m=>?_⟩;simp only[beq_eq_false_iff_ne,ne_eq,Bool.not_eq_true];intro e;have k:j<es.size:=Nat.lt_trans m hi;have:=h.nd;rw[List.nodup_iff_pairwise_ne,List.pairwise_iff_getElem]at this;have:=this j i zam_ (by simpa using hi) m;simp at this
  exact this (by exact_mod_cast e)
section
variable {K D:Type} [DecidableEq K] (kv:K→Value) (cells:D→List Value) (e:TypeId) (sz:Nat) (l:List (K×D))
def gY_:List K→List MapEntry→Hp→Prop
  | [],[],H=>H=[]
  | k::ks,x::es,H=>∃ Hk Hr,H=Hk++Hr∧x.key=kv k∧aw_ e sz x.val (lat l k).length ((lat l k).flatMap cells) Hk∧gY_ ks es Hr
  | _,_,_=>False
def cS_ (mb:Nat) (H:Hp):Prop:=∃ ks es c Hr,H=(mb,.map es c)::Hr∧ks.Nodup∧(∀ x∈l,x.1∈ks)∧gY_ kv cells e sz l ks es.toList Hr∧Born es c
end
section
variable {K D:Type} [DecidableEq K] {kv:K→Value} {cells:D→List Value} {e:TypeId} {sz:Nat} {l:List (K×D)}
theorem gY_.keys:∀ {ks:List K} {es:List MapEntry} {H:Hp},gY_ kv cells e sz l ks es H→es.map (·.key)=ks.map kv
  | [],[],_,_=>rfl
  | k::ks,x::es,_,h=>by
    obtain⟨v,Hr,_,m,_,q⟩:=h;simp[m,q.keys]
  | [],_::_,_,h=>h.elim
  | _::_,[],_,h=>h.elim
theorem gY_.congr {m:List (K×D)}:∀ {ks:List K} {es:List MapEntry} {H:Hp},(∀ k∈ks,lat m k=lat l k)→gY_ kv cells e sz l ks es H→gY_ kv cells e sz m ks es H
  | [],[],_,_,h=>h
  | k::ks,x::es,_,hl,h=>by
    obtain⟨y,Hr,A,B,C,v⟩:=h;exact⟨y,Hr,A,B,by rw[hl k zj_];exact C,v.congr fun q E=>hl q (by simp[E])⟩
  | [],_::_,_,_,h=>h.elim
  | _::_,[],_,_,h=>h.elim
theorem gY_.get : ∀ {ks : List K} {es : List MapEntry} {H : Hp} {i : Nat} {k : K}, gY_ kv cells e sz l ks es H → ks.Nodup → ks[i]? = some k → ∃ x A Hr, es[i]? = some x ∧ H.Perm (A ++ Hr) ∧ x.key = kv k ∧ aw_ e sz x.val (lat l k).length ((lat l k).flatMap cells) A ∧
      ∀ (v:List (K×D)) (y:MapEntry) (m:Hp),y.key=kv k→(∀ q,q≠k→lat v q=lat l q)→aw_ e sz y.val (lat v k).length ((lat v k).flatMap cells) m→∃ H',gY_ kv cells e sz v ks (es.set i y) H'∧H'.Perm (m++Hr)
  | [],_,_,_,_,_,_,h=>by simp at h
  | _::_,[],_,_,_,h,_,_=>h.elim
  | q::ks,x::es,H,0,k,h,hn,hi=>by
    simp only[List.getElem?_cons_zero,Option.some.injEq]at hi;subst hi;rw[List.nodup_cons]at hn;obtain⟨A,Hr,J,L,G,F⟩:=h;exact⟨x,A,Hr,rfl,J▸.refl _,L,G,fun v y m I C M=>⟨m++Hr,⟨m,Hr,rfl,I,M,F.congr fun z Q=>C z (fun e=>hn.1 (e▸Q))⟩,.refl _⟩⟩
  | q::ks,x::es,H,i+1,k,h,hn,hi=>by
    simp only[List.getElem?_cons_succ]at hi;rw[List.nodup_cons]at hn;obtain⟨B,Y,J,L,G,F⟩:=h;obtain⟨y,A,Hr,V,X,O,W,T⟩:=F.get hn.2 hi;have E:q≠k:=fun e=>hn.1 (e▸List.mem_of_getElem? hi)
    refine⟨y,A,B++Hr,V,?_,O,W,fun v z m I C M=>?_⟩
    · rw[J]
      refine (List.Perm.append_left B X).trans ?_;rw[← List.append_assoc,← List.append_assoc];exact List.perm_append_comm.append_right _
    · obtain⟨H',S,U⟩:=T v z m I C M
      refine⟨B++H',⟨B,H',rfl,L,by rw[C q E];exact G,S⟩,(List.Perm.append_left B U).trans ?_⟩;rw[← List.append_assoc,← List.append_assoc];exact List.perm_append_comm.append_right _
theorem gY_.push:∀ {ks:List K} {es:List MapEntry} {H:Hp} {k:K} {x:MapEntry} {Hk:Hp},gY_ kv cells e sz l ks es H→x.key=kv k→aw_ e sz x.val (lat l k).length ((lat l k).flatMap cells) Hk→gY_ kv cells e sz l (ks++[k]) (es++[x]) (H++Hk)
  | [],[],_,k,x,Hk,h,h1,h2=>by subst h;exact⟨Hk,[],by simp,h1,h2,rfl⟩
  | q::ks,y::es,_,k,x,Hk,h,h1,h2=>by
    obtain⟨m,Hr,rfl,B,v,A⟩:=h;exact⟨m,Hr++Hk,by simp,B,v,A.push h1 h2⟩
  | [],_::_,_,_,_,_,h,_,_=>h.elim
  | _::_,[],_,_,_,_,h,_,_=>h.elim
theorem iG_ {k q:K} {d:D} (h:q≠k):lat (l++[(k,d)]) q=lat l q:=by
  rw[mZ_];simp[lat,Ne.symm h]
theorem dZ_ {k:K} {d:D}:lat (l++[(k,d)]) k=lat l k++[d]:=by
  rw[mZ_];simp[lat]
theorem cS_.open {P:Program} {kt:TypeId} (S:KeyT P kt kv) {A:Nat} {H:Hp} (h:cS_ kv cells e sz l A H) (k:K) :
    ∃ es c sv G Hr,H.Perm ((A,.map es c)::(G++Hr))∧aw_ e sz sv (lat l k).length ((lat l k).flatMap cells) G ∧
      ((dp_ P kt (kv k) es.toList none∧sv=.slice none 0 0∧∀ d sv' m,aw_ e sz sv' (lat (l++[(k,d)]) k).length ((lat (l++[(k,d)]) k).flatMap cells) m→∃ H',cS_ kv cells e sz (l++[(k,d)]) A H'∧H'.Perm ((A,.map (es.push ⟨kv k,sv',c⟩) (c+1))::(m++Hr))) ∨
       (∃ i x,dp_ P kt (kv k) es.toList (some (i,sv))∧es[i]? = some x∧x.key=kv k∧x.val=sv∧∀ d sv' m,aw_ e sz sv' (lat (l++[(k,d)]) k).length ((lat (l++[(k,d)]) k).flatMap cells) m→∃ H',cS_ kv cells e sz (l++[(k,d)]) A H'∧H'.Perm ((A,.map (es.modify i fun y=>{ y with key:=kv k,val:=sv' }) c)::(m++Hr)))):=by
  obtain⟨ks,es,c,O,rfl,F,hl,hm,E⟩:=h
  by_cases hk:k∈ks
  · obtain⟨i,hi⟩:=List.getElem?_of_mem hk
    obtain⟨x,G,Hr,M,V,g3,W,g5⟩:=hm.get F hi;have T:es[i]? = some x:=by rw[← Array.getElem?_toList];exact M
    refine⟨es,c,x.val,G,Hr,.cons _ V,W,.inr ⟨i,x,S.sf k es.toList ks i x hm.keys F hi M,T,g3,rfl,fun d sv' m I=>?_⟩⟩;obtain⟨H',X,Y⟩:=g5 (l++[(k,d)]) { x with key:=kv k,val:=sv' } m rfl (fun q L=>iG_ L) I;refine⟨(A,.map (es.modify i fun y=>{ y with key:=kv k,val:=sv' }) c)::H',⟨ks,_,c,H',rfl,F,fun y v=>?_,?_,E.modify i _ fun _=>rfl⟩,.cons _ Y⟩
    · rcases List.mem_append.1 v with v|v
      · exact hl y v
      · simp at v;rw[v];exact hk
    · have U:(es.modify i fun y=>{ y with key:=kv k,val:=sv' }).toList=es.toList.set i { x with key:=kv k,val:=sv' }:=by
        apply List.ext_getElem?
        intro j;rw[Array.getElem?_toList,Array.getElem?_modify,List.getElem?_set,Array.getElem?_toList]
        by_cases C:i=j
        · subst C
          have J:i<es.toList.length:=(List.getElem?_eq_some_iff.1 M).1;simp only[if_true,T,Option.map_some,if_pos J]
        · simp[C]
      rw[U];exact X
  · have B:lat l k=[]:=by
      apply List.eq_nil_iff_forall_not_mem.2
      intro d Z;exact hk (hl _ (bL_.1 Z))
    refine⟨es,c,.slice none 0 0,[],O,.refl _,by rw[B];exact aw_.nil _ _,.inl ⟨S.nf k es.toList ks hm.keys hk,rfl,fun d sv' m I=>?_⟩⟩;refine⟨(A,.map (es.push ⟨kv k,sv',c⟩) (c+1))::(O++m),⟨ks++[k],_,_,_,rfl,?_,fun y v=>?_,?_,E.push _ _⟩,.cons _ List.perm_append_comm⟩
    · rw[List.nodup_append];exact⟨F,by simp,fun a ha b Q e=>by simp at Q;subst Q;subst e;exact hk ha⟩
    · rcases List.mem_append.1 v with v|v
      · exact List.mem_append_left _ (hl y v)
      · simp at v;simp[v]
    · rw[Array.toList_push]
      exact (hm.congr fun q L=>iG_ (fun (e:q=k)=>hk (e▸L))).push rfl I
structure MOpn (kv:K→Value) (cells:D→List Value) (e:TypeId) (sz:Nat) (l:List (K×D)) (mb:Nat) (k:K) (es:Array MapEntry) (c i:Nat) (st:Int) (Hr:Hp):Prop where
  find:es.findIdx? (fun x=>(x.born:Int)==st)=some i
  close:∀ d sv' Hk',aw_ e sz sv' (lat (l++[(k,d)]) k).length ((lat (l++[(k,d)]) k).flatMap cells) Hk'→∃ H',cS_ kv cells e sz (l++[(k,d)]) mb H'∧H'.Perm ((mb,.map (es.modify i fun y=>{ y with val:=sv' }) c)::(Hk'++Hr))
theorem rD_ {es:Array MapEntry} {i:Nat} {x:MapEntry} {key:Value} (k:es[i]? = some x) (hk:x.key=key):(es.modify i fun y=>{ y with key:=key })=es:=by
 apply Array.ext_getElem?
 intro j;rw[Array.getElem?_modify]
 by_cases h:i=j
 ·subst h;rw[if_pos rfl,k];simp only[Option.map_some];rw[← hk]
 rw[if_neg h]
theorem cS_.entry {P:Program} {kt:TypeId} (Y:KeyT P kt kv) {C:Nat} {H:Hp} (h:cS_ kv cells e sz l C H) (k:K) :
    ∃ es c B S i st sv L Hr,H.Perm ((C,.map es c)::(L++Hr))∧aw_ e sz sv (lat l k).length ((lat l k).flatMap cells) L∧MOpn kv cells e sz l C k B S i st Hr ∧
      ((dp_ P kt (kv k) es.toList none∧sv=.slice none 0 0∧B=es.push ⟨kv k,.slice none 0 0,c⟩∧S=c+1∧st=(c:Int))∨(∃ j x,dp_ P kt (kv k) es.toList (some (j,sv))∧es[j]? = some x∧x.key=kv k∧B=es∧S=c∧st=(x.born:Int))):=by
  have h0:=h;obtain⟨ks,es,c,W,rfl,I,hl,hm,v⟩:=h0
  by_cases hk:k∈ks
  · obtain⟨i,hi⟩:=List.getElem?_of_mem hk
    obtain⟨x,L,Hr,U,g2,Z,g4,g5⟩:=hm.get I hi;have V:es[i]? = some x:=by rw[← Array.getElem?_toList];exact U
    refine⟨es,c,es,c,i,x.born,x.val,L,Hr,.cons _ g2,g4,⟨v.find V,fun d sv' A M=>?_⟩,.inr ⟨i,x,Y.sf k es.toList ks i x hm.keys I hi U,V,Z,rfl,rfl,rfl⟩⟩;obtain⟨H',j1,j2⟩:=g5 (l++[(k,d)]) { x with key:=kv k,val:=sv' } A rfl (fun q T=>iG_ T) M;refine⟨(C,.map (es.modify i fun y=>{ y with val:=sv' }) c)::H',⟨ks,_,c,H',rfl,I,fun y m=>?_,?_,v.modify i _ fun _=>rfl⟩,.cons _ j2⟩
    · rcases List.mem_append.1 m with m|m
      · exact hl y m
      · simp at m;rw[m];exact hk
    · have e1:(es.modify i fun y=>{ y with val:=sv' }).toList=es.toList.set i { x with key:=kv k,val:=sv' }:=by
        apply List.ext_getElem?
        intro j;rw[Array.getElem?_toList,Array.getElem?_modify,List.getElem?_set,Array.getElem?_toList]
        by_cases F:i=j
        · subst F
          have Q:i<es.toList.length:=(List.getElem?_eq_some_iff.1 U).1;simp only[if_true,V,Option.map_some,if_pos Q];rw[← Z]
        · simp[F]
      rw[e1];exact j1
  · have E:lat l k=[]:=by
      apply List.eq_nil_iff_forall_not_mem.2
      intro d hd;exact hk (hl _ (bL_.1 hd))
    have O:=v.push (kv k) (.slice none 0 0);have G:(es.push ⟨kv k,.slice none 0 0,c⟩)[es.size]? = some ⟨kv k,.slice none 0 0,c⟩:=by simp
    refine⟨es,c,es.push ⟨kv k,.slice none 0 0,c⟩,c+1,es.size,(c:Int),.slice none 0 0,[],W,.refl _,by rw[E];exact aw_.nil _ _,⟨O.find G,fun d sv' A M=>?_⟩,.inl ⟨Y.nf k es.toList ks hm.keys hk,rfl,rfl,rfl,rfl⟩⟩
    have e2:((es.push ⟨kv k,.slice none 0 0,c⟩).modify es.size fun y=>{ y with val:=sv' })=es.push ⟨kv k,sv',c⟩:=by
      apply Array.ext_getElem?
      intro j;rw[Array.getElem?_modify,Array.getElem?_push,Array.getElem?_push]
      by_cases J:j=es.size
      · subst J;simp
      · rw[if_neg (fun q=>J q.symm),if_neg J,if_neg J]
    rw[e2];refine⟨(C,.map (es.push ⟨kv k,sv',c⟩) (c+1))::(W++A),⟨ks++[k],_,_,_,rfl,?_,fun y m=>?_,?_,v.push _ _⟩,.cons _ List.perm_append_comm⟩
    · rw[List.nodup_append];exact⟨I,by simp,fun a ha b X e=>by simp at X;subst X;subst e;exact hk ha⟩
    · rcases List.mem_append.1 m with m|m
      · exact List.mem_append_left _ (hl y m)
      · simp at m;simp[m]
    · rw[Array.toList_push]
      exact (hm.congr fun q T=>iG_ (fun (e:q=k)=>hk (e▸T))).push rfl M
theorem cS_.nil (h:Nat) (c:Nat):cS_ kv cells e sz ([]:List (K×D)) h [(h,.map #[] c)]:=⟨[],#[],c,[],rfl,List.nodup_nil,by simp,rfl,Born.nil c⟩
def mlF (P:Program) (kt:TypeId) (kv:K→Value) (cells:D→List Value) (mb:Nat) (l:List (K×D)) (adr:K→Option Addr×Nat):Fct where
  p:=fun v=>v.im mb∧∃ es c,v.w.heap[mb]? = some (.map es c)∧∀ k,bA_ v (adr k).1 ((lat l k).flatMap cells) ∧
    ((dp_ P kt (kv k) es.toList none∧Value.slice (adr k).1 (lat l k).length (adr k).2=.slice none 0 0)∨∃ i,dp_ P kt (kv k) es.toList (some (i,.slice (adr k).1 (lat l k).length (adr k).2)))
  mono:=fun v v' h ⟨h1,es,c,h2,h3⟩=>⟨h.imUp mb h1,es,c,by rw[h.block mb h1];exact h2,fun k=>⟨(ah_ _ _).mono v v' h (h3 k).1,(h3 k).2⟩⟩
theorem aV_ {P:Program} {kt:TypeId} {m:Nat} {adr:K→Option Addr×Nat} {v:Vw} (h:(mlF P kt kv cells m l adr).p v) (k:K):bA_ v (adr k).1 ((lat l k).flatMap cells):=by
  obtain⟨_,_,_,_,h⟩:=h;exact (h k).1
theorem tj_ {sv:Value} {n:Nat} {m:List Value} {Hr:Hp} {v:Vw} (h:aw_ e sz sv n m Hr) (C:∀ p∈Hr,v.im p.1∧v.w.heap[p.1]? = some p.2):∃ ad cap,sv=.slice ad n cap∧n≤cap∧cap≤maxLen∧(n≠0→∃ b,ad=some ⟨b,0,none⟩)∧bA_ v ad m:=by
 rcases h.2 with⟨rfl,rfl,rfl⟩|⟨g,cap,cur,rfl,rfl,q,y,F,E⟩
 ·have:m=[]:=List.eq_nil_of_length_eq_zero (by simpa using h.1)
  exact⟨none,0,rfl,Nat.le_refl _,by simp[maxLen],fun h=>absurd rfl h,.inl this⟩
 obtain⟨A,B⟩:=C _ (List.mem_singleton.2 rfl);refine⟨some ⟨g,0,none⟩,cap,rfl,q,y,fun _=>⟨g,rfl⟩,.inr ⟨g,0,cur,e,(0,0),rfl,A,B,fun j x k=>?_⟩⟩;rw[← E,List.getElem?_take]at k
 split at k
 ·rw[Nat.zero_add,← Array.getElem?_toList];exact k
 cases k
theorem cS_.lentC {P:Program} {kt:TypeId} (O:KeyT P kt kv) {C:Nat} {H:Hp} (h:cS_ kv cells e sz l C H):∃ adr:K→Option Addr×Nat,(∀ k,(lat l k).length≤(adr k).2∧((adr k).1=none→(adr k).2=0))∧∀ v:Vw,(∀ p∈H,v.im p.1∧v.w.heap[p.1]? = some p.2)→(mlF P kt kv cells C l adr).p v:=by
 have W:=h;obtain⟨ks,es,c,T,rfl,L,hl,hm,_⟩:=W
 have y:∀ k,∃ q:Option Addr×Nat,((lat l k).length≤q.2∧(q.1=none→q.2=0))∧∀ v:Vw,(∀ p∈(C,Obj.map es c)::T,v.im p.1∧v.w.heap[p.1]? = some p.2)→bA_ v q.1 ((lat l k).flatMap cells)∧((dp_ P kt (kv k) es.toList none∧Value.slice q.1 (lat l k).length q.2=.slice none 0 0)∨∃ i,dp_ P kt (kv k) es.toList (some (i,.slice q.1 (lat l k).length q.2))):=fun k=>by
   by_cases hk:k∈ks
   · obtain⟨i,hi⟩:=List.getElem?_of_mem hk
     obtain⟨x,Hk,Hr,I,F,g3,M,_⟩:=hm.get L hi;have hf:=O.sf k es.toList ks i x hm.keys L hi I
     have B:∃ ad cap,x.val=.slice ad (lat l k).length cap∧(lat l k).length≤cap∧(ad=none→cap=0):=by
       rcases M.2 with⟨J,V,_⟩|⟨g,cap,cur,J,_,U,_⟩
       · exact⟨none,0,by rw[J,V],by omega,fun _=>rfl⟩
       · exact⟨_,cap,J,U,fun q=>by cases q⟩
     obtain⟨ad,cap,S,G⟩:=B;refine⟨(ad,cap),G,fun v A=>⟨?_,.inr ⟨i,by rw[← S];exact hf⟩⟩⟩;obtain⟨ad',Q,E,_,_,_,X⟩:=tj_ M fun p Z=>A p (List.mem_cons_of_mem _ (F.mem_iff.2 (List.mem_append_left _ Z)))
     rw[S]at E;simp only[Value.slice.injEq]at E;rw[E.1];exact X
   · have m:lat l k=[]:=by
       apply List.eq_nil_iff_forall_not_mem.2
       intro d Y;exact hk (hl _ (bL_.1 Y))
     exact⟨(none,0),⟨by rw[m];simp,fun _=>rfl⟩,fun v A=>⟨.inl (by rw[m];rfl),.inl ⟨O.nf k es.toList ks hm.keys hk,by rw[m];rfl⟩⟩⟩
 refine⟨fun k=>(y k).choose,fun k=>(y k).choose_spec.1,fun v A=>?_⟩;obtain⟨I,F⟩:=A _ List.mem_cons_self;exact⟨I,es,c,F,fun k=>(y k).choose_spec.2 v A⟩
theorem cS_.lent {P:Program} {kt:TypeId} (m:KeyT P kt kv) {k:Nat} {H:Hp} (h:cS_ kv cells e sz l k H):∃ adr,∀ v:Vw,(∀ p∈H,v.im p.1∧v.w.heap[p.1]? = some p.2)→(mlF P kt kv cells k l adr).p v:=⟨_,(h.lentC m).choose_spec.2⟩
end
section
variable {P:Program} {K:Type} [DecidableEq K] {kv:K→Value} {kt:TypeId}
structure SetE (kv:K→Value) (es:Array MapEntry) (q:List K):Prop where
  keys:es.toList.map (·.key)=q.map kv
  vals:∀ x∈es.toList,x.val=.bool true
  nd:q.Nodup
theorem SetE.nil:SetE kv #[] ([]:List K):=⟨rfl,by simp,List.nodup_nil⟩
theorem SetE.size {es:Array MapEntry} {q:List K} (h:SetE kv es q):es.size=q.length:=by
  have:=congrArg List.length h.keys;simpa using this
theorem SetE.yes (B:KeyT P kt kv) {es:Array MapEntry} {q:List K} (h:SetE kv es q) {k:K} (hk:k∈q):∃ i x,q[i]? = some k∧es[i]? = some x∧x.key=kv k∧x.val=.bool true∧dp_ P kt (kv k) es.toList (some (i,.bool true)):=by
  obtain⟨i,hi⟩:=List.getElem?_of_mem hk
  have m:i<es.toList.length:=by
    have:=(List.getElem?_eq_some_iff.1 hi).1;have e:=congrArg List.length h.keys;simp at e this ⊢;omega
  have y:=List.getElem?_eq_getElem m;have A:=h.vals _ (List.getElem_mem m)
  have v:es.toList[i].key=kv k:=by
    have:=congrArg (fun l=>l[i]?) h.keys;simp only[List.getElem?_map,y,hi,Option.map_some,Option.some.injEq]at this;exact this
  refine⟨i,es.toList[i],hi,by rw[← Array.getElem?_toList];exact y,v,A,?_⟩;have:=B.sf k es.toList q i _ h.keys h.nd hi y;rwa [A]at this
theorem SetE.no (m:KeyT P kt kv) {es:Array MapEntry} {q:List K} (h:SetE kv es q) {k:K} (hk:k ∉ q):dp_ P kt (kv k) es.toList none:=m.nf k es.toList q h.keys hk
theorem SetE.push {es:Array MapEntry} {q:List K} (h:SetE kv es q) {k:K} (hk:k ∉ q) (c:Nat):SetE kv (es.push ⟨kv k,.bool true,c⟩) (q++[k]):=by
 refine⟨by simp[h.keys],fun x m=>?_,?_⟩
 ·rw[Array.toList_push,List.mem_append]at m
  rcases m with m|m
  ·exact h.vals x m
  simp at m;rw[m]
 rw[List.nodup_append];exact⟨h.nd,by simp,fun a y b v e=>by simp at v;subst v;subst e;exact hk y⟩
end
section ops
variable {P:Program} {N:Nf} {v0:Vw} {H0:Hp} {R:Exit→Act→World→Prop} {Kk:List Kt} {fr:Fr} {H:Hp} {Γ:List Fct}
variable {ops:Array Oper} {lo:List Oper} {d:Nat} {ty:TypeId} {ps:String} {af:Array Edge}
variable {K D:Type} [DecidableEq K] {kv:K→Value} {cells:D→List Value}
theorem bC_ {t kt F:TypeId} {x y:Operand} {B:Nat} {l:List (K×D)} {adr:K→Option Addr×Nat} {k:K} (G:KeyT P kt kv) (q:∀ w,(underlying t).run P w=.ok (.map kt F) w) (I:∀ w,(zeroValue F).run P w=.ok (.slice none 0 0) w) (E:Fr.ev fr x=some (.map (some B))) (A:Fr.ev fr y=some (kv k))
    (hm:∀ v,v.sat H→Z_ Γ v→(mlF P kt kv cells B l adr).p v):Yld P N fr H Γ (.lookup t x y false) ty (.slice (adr k).1 (lat l k).length (adr k).2) :=
  fun a v h L M _ _ _=>by
    obtain⟨_,es,c,O,Q⟩:=hm v L M;have C:=MapKept.run_getObj_map (P:=P) O;rcases (Q k).2 with⟨m,J⟩|⟨i,m⟩
    · rw[J];simp[execOp,h.ev E,h.ev A,Instr.lookup,q,C,G.ok _ _ _,m _,I]
    · simp[execOp,h.ev E,h.ev A,Instr.lookup,q,C,G.ok _ _ _,m _]
theorem bs_ {t kt F:TypeId} {x y:Operand} {B c:Nat} {es:Array MapEntry} {q:List K} {k:K} (h:KeyT P kt kv) (m:∀ w,(underlying t).run P w=.ok (.map kt F) w) (G:∀ w,(zeroValue F).run P w=.ok (.bool false) w) (E:Fr.ev fr x=some (.map (some B))) (A:Fr.ev fr y=some (kv k))
    (C:SetE kv es q) (hm:∀ v,v.sat H→Z_ Γ v→v.w.heap[B]? = some (.map es c)):Yld P N fr H Γ (.lookup t x y false) ty (.bool (decide (k∈q))):=by
  by_cases hk:k∈q
  · obtain⟨i,_,_,_,_,_,I⟩:=C.yes h hk
    rw[decide_eq_true hk];exact eR_ m E A hm (h.ok k) I
  · rw[decide_eq_false hk]
    exact eA_ m G E A hm (h.ok k) (C.no h hk)
theorem ui_ {t kt q:TypeId} {x:Operand} {h c:Nat} {es:Array MapEntry} (m:∀ w,(underlying t).run P w=.ok (.map kt q) w) (k:Fr.ev fr x=some (.map (some h))) (hm:∀ v,v.sat H→Z_ Γ v→v.w.heap[h]? = some (.map es c)) :
    Yld P N fr H Γ (.call ⟨.builtin .len,#[x],#[t]⟩) ty (.int .i64 (es.size:Int)) :=
  fun a v A B C _ _ _=>by
    have y:=MapKept.run_getObj_map (P:=P) (hm v B C);simp[execOp,resolve,invoke,builtin,Builtin.len_,A.ev k,m,y,goInt]
theorem ho_ {o:Op} {t kt X:TypeId} {x y z:Operand} {b c i:Nat} (n:Nat) {es:Array MapEntry} {e:MapEntry} {k:K} {u u':Value} (F:KeyT P kt kv) (L:o=.insert t x y z∨o=.mapUpdate t x y z) (O:∀ w,(underlying t).run P w=.ok (.map kt X) w)
    (W:Fr.ev fr x=some (.map (some b))) (I:Fr.ev fr y=some (kv k)) (M:Fr.ev fr z=some u) (hi:H[n]? = some (b,.map es c)) (S:dp_ P kt (kv k) es.toList (some (i,u'))) (B:es[i]? = some e) (q:e.key=kv k)
    (C:Ops P R N v0 H0 ops lo Kk fr (H.set n (b,.map (es.modify i fun y=>{ y with key:=kv k,val:=u }) c)) Γ):Ops P R N v0 H0 ops (⟨none,o,ty,ps,af,none⟩::lo) Kk fr H Γ :=
  cn_ rfl fun a v h A Q T=>by
    have m:=(A.own _ (List.mem_of_getElem? hi)).1;have V:=MapKept.run_getObj_map (P:=P) m;have J:=MapKept.run_setObj_map (P:=P) (.map (es.modify i fun y=>{ y with key:=kv k,val:=u }) c) m
    have B:(execOp a.eval ⟨none,o,ty,ps,af,none⟩).run P v.w=.ok .skip { v.w with heap:=v.w.heap.setIfInBounds b (.map (es.modify i fun y=>{ y with key:=kv k,val:=u }) c) }:=by
      rcases L with rfl|rfl<;>simp[execOp,h.ev W,h.ev I,h.ev M,Instr.mapUpdate,O,V,F.ok _ _ _,S _,J,Instr.keyThatStays,B,q,F.same]
    unfold Oper.wp;rw[B];have G:=MapKept.heap_set (o':=.map (es.modify i fun y=>{ y with key:=kv k,val:=u }) c) m;obtain⟨U,E⟩:=eF_ (w':={ v.w with heap:=v.w.heap.setIfInBounds b (.map (es.modify i fun y=>{ y with key:=kv k,val:=u }) c) }) A hi rfl rfl rfl (Nat.le_refl _) zj_ G.1 (fun k hk=>G.2 k hk);exact C a _ h U (Q.trans E) (ao_ (E.le A) T)
theorem im_ {es:Array MapEntry} {i:Nat} {e:MapEntry} {key val:Value} (k:es[i]? = some e) (hk:e.key=key) (m:e.val=val):(es.modify i fun y=>{ y with key:=key,val:=val })=es:=by
 apply Array.ext_getElem?
 intro j;rw[Array.getElem?_modify]
 by_cases h:i=j
 ·subst h;rw[if_pos rfl,k];simp only[Option.map_some];rw[← hk,← m]
 rw[if_neg h]
theorem mK_ {o:Op} {t kt M:TypeId} {x y z:Operand} {b c:Nat} (n:Nat) {es:Array MapEntry} {q:List K} {k:K} (v:KeyT P kt kv) (G:o=.insert t x y z∨o=.mapUpdate t x y z) (C:∀ w,(underlying t).run P w=.ok (.map kt M) w)
    (E:Fr.ev fr x=some (.map (some b))) (A:Fr.ev fr y=some (kv k)) (B:Fr.ev fr z=some (.bool true)) (hi:H[n]? = some (b,.map es c)) (m:SetE kv es q)
    (h:∀ es' c',SetE kv es' (if k∈q then q else q++[k])→Ops P R N v0 H0 ops lo Kk fr (H.set n (b,.map es' c')) Γ):Ops P R N v0 H0 ops (⟨none,o,ty,ps,af,none⟩::lo) Kk fr H Γ:=by
  by_cases hk:k∈q
  · obtain⟨i,e,O,F,I,L,J⟩:=m.yes v hk
    refine ho_ n v G C E A B hi J F I ?_;rw[im_ F I L];exact h es c (by rw[if_pos hk];exact m)
  · exact aQ_ n G C E A B hi (v.ok k) (m.no v hk) (h _ _ (by rw[if_neg hk];exact m.push hk c))
theorem ff_ {t kt W:TypeId} {x y:Operand} {m:Nat} {e:TypeId} {sz:Nat} {l:List (K×D)} {k:K} {X F:Hp} (G:KeyT P kt kv) (hm:cS_ kv cells e sz l m X) (Q:∀ w,(underlying t).run P w=.ok (.map kt W) w) (hz:∀ w,(zeroValue W).run P w=.ok (.slice none 0 0) w)
    (V:Fr.ev fr x=some (.map (some m))) (M:Fr.ev fr y=some (kv k)) (hH:H.Perm (X++F)) (hN:Nat.blt d N.n=true)
    (hk:∀ es c i st sv B Hr,MOpn kv cells e sz l m k es c i st Hr→aw_ e sz sv (lat l k).length ((lat l k).flatMap cells) B→Ops P R N v0 H0 ops lo Kk ((d,.tuple #[sv,.int .i64 st])::fr) ((m,.map es c)::(B++(Hr++F))) Γ) :
    Ops P R N v0 H0 ops (⟨some d,.mapEntry t x y,ty,ps,af,none⟩::lo) Kk fr H Γ:=by
  obtain⟨es,c,h,A,i,st,sv,B,Hr,p1,p2,p3,p4⟩:=hm.entry G k;refine cn_ rfl fun a v C h2 h3 h4=>?_
  have S:H.Perm ((m,.map es c)::(B++(Hr++F))):=hH.trans (by
    have:=p1.append_right F;simpa [List.append_assoc] using this)
  have q:=h2.perm S;have E:=(q.own _ List.mem_cons_self).1;have U:=MapKept.run_getObj_map (P:=P) E
  have he:(execOp a.eval ⟨some d,.mapEntry t x y,ty,ps,af,none⟩).run P v.w=.ok (.value (.tuple #[sv,.int .i64 st])) { v.w with heap:=v.w.heap.setIfInBounds m (.map h A) }:=by
    rcases p4 with⟨L,rfl,rfl,rfl,rfl⟩|⟨j,z,L,Y,O,rfl,rfl,rfl⟩
    · have I:=MapKept.run_setObj_map (P:=P) (.map (es.push ⟨kv k,.slice none 0 0,c⟩) (c+1)) E
      simp[execOp,C.ev V,C.ev M,Instr.mapEntry,Q,U,G.ok _ _ _,L _,hz,I,goInt]
    · have I:=MapKept.run_setObj_map (P:=P) (.map h A) E
      simp[execOp,C.ev V,C.ev M,Instr.mapEntry,Q,U,G.ok _ _ _,L _,Instr.keyThatStays,Y,O,G.same,rD_ Y O,I,goInt]
  unfold Oper.wp;rw[he];have Z:=MapKept.heap_set (o':=.map h A) E;obtain⟨T,J⟩:=eF_ (i:=0) (o':=.map h A) (w':={ v.w with heap:=v.w.heap.setIfInBounds m (.map h A) }) q rfl rfl rfl rfl (Nat.le_refl _) zj_ Z.1 (fun k hk=>Z.2 k hk);simp only[List.set_cons_zero]at T J;exact hk h A i st sv B Hr p3 p2 _ _ (C.put hN) T (h3.trans (J.permL S.symm)) (ao_ (J.le q) h4)
theorem cW_ {t:TypeId} {x y z:Operand} {h c i:Nat} {e:TypeId} {sz:Nat} {l:List (K×D)} {k:K} {dd:D} {es:Array MapEntry} {st:Int} {sv:Value} {A Hr F:Hp} (G:MOpn kv cells e sz l h k es c i st Hr) (Q:aw_ e sz sv (lat (l++[(k,dd)]) k).length ((lat (l++[(k,dd)]) k).flatMap cells) A)
    (Y:Fr.ev fr x=some (.map (some h))) (M:Fr.ev fr y=some (.int .i64 st)) (S:Fr.ev fr z=some sv) (I:H.Perm ((h,.map es c)::(A++(Hr++F))))
    (hk:∀ H',cS_ kv cells e sz (l++[(k,dd)]) h H'→Ops P R N v0 H0 ops lo Kk fr (H'++F) Γ):Ops P R N v0 H0 ops (⟨none,.entryStore t x y z,ty,ps,af,none⟩::lo) Kk fr H Γ:=by
  obtain⟨H',q1,q2⟩:=G.close dd sv A Q;refine cn_ rfl fun a v B V T W=>?_;have m:=V.perm I;have q:=(m.own _ List.mem_cons_self).1;have X:=MapKept.run_getObj_map (P:=P) q;have O:=MapKept.run_setObj_map (P:=P) (.map (es.modify i fun y=>{ y with val:=sv }) c) q
  have Z:(execOp a.eval ⟨none,.entryStore t x y z,ty,ps,af,none⟩).run P v.w=.ok .skip { v.w with heap:=v.w.heap.setIfInBounds h (.map (es.modify i fun y=>{ y with val:=sv }) c) }:=by
    have U:=G.find;simp[execOp,B.ev Y,B.ev M,B.ev S,Instr.entryStore,X,O,asInt,asIntOf,U]
  unfold Oper.wp;rw[Z];have L:=MapKept.heap_set (o':=.map (es.modify i fun y=>{ y with val:=sv }) c) q;obtain⟨J,C⟩:=eF_ (i:=0) (o':=.map (es.modify i fun y=>{ y with val:=sv }) c) (w':={ v.w with heap:=v.w.heap.setIfInBounds h (.map (es.modify i fun y=>{ y with val:=sv }) c) }) m rfl rfl rfl rfl (Nat.le_refl _) zj_ L.1 (fun k hk=>L.2 k hk);simp only[List.set_cons_zero]at J C
  have E:((h,Obj.map (es.modify i fun y=>{ y with val:=sv }) c)::(A++(Hr++F))).Perm (H'++F):=by
    have:=(q2.append_right F).symm;simpa [List.append_assoc] using this
  exact hk H' q1 _ _ B (J.perm E) (T.trans ((C.permL I.symm).subR fun b q=>((E.map Prod.fst).mem_iff).2 q)) (ao_ (C.le m) W)
def MOp (P:Program) (kt:TypeId) (kv:K→Value) (cells:D→List Value) (e:TypeId) (sz:Nat) (l:List (K×D)) (mb:Nat) (k:K) (es:Array MapEntry) (c:Nat) (sv:Value) (Hr:Hp):Prop :=
  (dp_ P kt (kv k) es.toList none∧sv=.slice none 0 0∧∀ d sv' Hk',aw_ e sz sv' (lat (l++[(k,d)]) k).length ((lat (l++[(k,d)]) k).flatMap cells) Hk'→∃ H',cS_ kv cells e sz (l++[(k,d)]) mb H'∧H'.Perm ((mb,.map (es.push ⟨kv k,sv',c⟩) (c+1))::(Hk'++Hr))) ∨
  (∃ i x,dp_ P kt (kv k) es.toList (some (i,sv))∧es[i]? = some x∧x.key=kv k∧x.val=sv∧∀ d sv' Hk',aw_ e sz sv' (lat (l++[(k,d)]) k).length ((lat (l++[(k,d)]) k).flatMap cells) Hk'→∃ H',cS_ kv cells e sz (l++[(k,d)]) mb H'∧H'.Perm ((mb,.map (es.modify i fun y=>{ y with key:=kv k,val:=sv' }) c)::(Hk'++Hr)))
theorem lP_ {v:Act→World→Prop} {kt:TypeId} {q:Nat} {e:TypeId} {sz:Nat} {l:List (K×D)} {x F:Hp} (E:KeyT P kt kv) (k:K) (hm:cS_ kv cells e sz l q x) (y:H.Perm (x++F))
    (h:∀ es c sv m Hr,aw_ e sz sv (lat l k).length ((lat l k).flatMap cells) m→MOp P kt kv cells e sz l q k es c sv Hr→Ok N v0 H0 v fr ((q,.map es c)::(m++(Hr++F))) Γ):Ok N v0 H0 v fr H Γ:=by
  obtain⟨es,c,sv,m,Hr,A,C,B⟩:=hm.open E k
  refine z_ (y.trans (by
    have:=A.append_right F;simpa [List.append_assoc] using this)) (h es c sv m Hr C B)
theorem ev_ {t kt E:TypeId} {x y:Operand} {m c:Nat} {e:TypeId} {sz:Nat} {l:List (K×D)} {k:K} {es:Array MapEntry} {sv:Value} {Hr:Hp} (F:KeyT P kt kv) (I:MOp P kt kv cells e sz l m k es c sv Hr) (B:∀ w,(underlying t).run P w=.ok (.map kt E) w) (G:∀ w,(zeroValue E).run P w=.ok (.slice none 0 0) w)
    (C:Fr.ev fr x=some (.map (some m))) (A:Fr.ev fr y=some (kv k)) (i:Nat) (hi:H[i]? = some (m,.map es c)):Yld P N fr H Γ (.lookup t x y false) ty sv:=by
  have hm:∀ v,v.sat H→Z_ Γ v→v.w.heap[m]? = some (.map es c):=fun v h _=>(h.own _ (List.mem_of_getElem? hi)).1
  rcases I with⟨q,rfl,_⟩|⟨i,z,q,_⟩
  · exact eA_ B G C A hm (F.ok k) q
  · exact eR_ B C A hm (F.ok k) q
theorem hp_ {o:Op} {t kt V:TypeId} {x y z:Operand} {m c:Nat} {e:TypeId} {sz:Nat} {l:List (K×D)} {k:K} {dd:D} {es:Array MapEntry} {sv sv':Value} {v Hr F:Hp} (I:KeyT P kt kv) (Q:MOp P kt kv cells e sz l m k es c sv Hr) (J:aw_ e sz sv' (lat (l++[(k,dd)]) k).length ((lat (l++[(k,dd)]) k).flatMap cells) v)
    (h:o=.insert t x y z∨o=.mapUpdate t x y z) (M:∀ w,(underlying t).run P w=.ok (.map kt V) w) (O:Fr.ev fr x=some (.map (some m))) (G:Fr.ev fr y=some (kv k)) (L:Fr.ev fr z=some sv') (S:H.Perm ((m,.map es c)::(v++(Hr++F))))
    (hk:∀ H',cS_ kv cells e sz (l++[(k,dd)]) m H'→Ops P R N v0 H0 ops lo Kk fr (H'++F) Γ):Ops P R N v0 H0 ops (⟨none,o,ty,ps,af,none⟩::lo) Kk fr H Γ:=by
  refine z_ S ?_;rcases Q with⟨B,_,A⟩|⟨i,q,B,T,U,_,A⟩
  · obtain⟨H',C,E⟩:=A dd sv' v J
    refine aQ_ 0 h M O G L rfl (I.ok k) B ?_;simp only[List.set_cons_zero];exact z_ zaq_ (hk H' C)
  · obtain⟨H',C,E⟩:=A dd sv' v J
    refine ho_ 0 I h M O G L rfl B T U ?_;simp only[List.set_cons_zero];exact z_ zaq_ (hk H' C)
theorem dX_ {b:Nat×Obj} {O Q F:Hp} (h:H.Perm ((b::(O++Q))++F)):H.Perm (b::(O++(Q++F))):=by simpa [List.append_assoc] using h
theorem bb_ {b:Nat×Obj} {F:Hp} (h:H.Perm ([b]++F)):H.Perm (b::F):=h
theorem S_ {b:Nat×Obj} {F k:Hp} (h:H.Perm ([b]++F)) (m:F.Perm k):H.Perm (b::k):=List.Perm.trans h (m.cons b)
theorem kp_ {fn:Func} {k:Ending→World→Prop} {c:Code} (h:Run P (bodyPost P fn k) N v0 H0 c [] fr H Γ):Run P (bodyPost P fn k) N v0 H0 (.scope c) [] fr H Γ :=
  fun a v q x m A=>wp_scope_straight (wp_mono (h a v q x m A) fun e a w y=>by cases e<;>exact y)
theorem kr_ {c:Nat} (h:Fin P R N v0 H0 Kk fr H Γ):Run P R N v0 H0 (.label c) Kk fr H Γ :=
  fun a v m q k x=>wp_label (h a v m q k x)
end ops
end Go.Sx
namespace Go.Vs
open Go Go.Sx
structure Rul where
  f:Str
  s:Str
  r:Str
  deriving DecidableEq
structure Itm where
  r:Str
  i:Nat
  j:Nat
  deriving DecidableEq
def addI {α:Type} [DecidableEq α] (y:α) (l:List α):List α:=if y∈l then l else l++[y]
theorem ki_ {α:Type} [DecidableEq α] {y z:α} {l:List α}:z∈addI y l↔z∈l∨z=y:=by
 unfold addI
 by_cases h:y∈l
 ·rw[if_pos h];exact⟨.inl,fun q=>q.elim id fun e=>e▸h⟩
 rw[if_neg h,List.mem_append,List.mem_singleton]
section
variable {R:List Rul} {U:List Str} {n:Nat}
def Pr1 (n:Nat) (x:Itm) (T0:List Itm) (L:List Rul) (T:List Itm):Prop:=∀ y∈L,∀ e,x.j≤e→e≤n→(⟨y.s,x.j,e⟩:Itm)∈T0→(⟨y.r,x.i,e⟩:Itm)∈T
def Pr2 (x:Itm) (T0:List Itm) (L:List Rul) (T:List Itm):Prop:=∀ y∈L,∀ b,b≤x.i→(⟨y.f,b,x.i⟩:Itm)∈T0→(⟨y.r,b,x.j⟩:Itm)∈T
theorem Pr1.mono {x:Itm} {d T k:List Itm} {L:List Rul} (h:Pr1 n x d L T) (B:∀ y∈T,y∈k):Pr1 n x d L k:=fun y m e v A q=>B _ (h y m e v A q)
theorem Pr2.mono {x:Itm} {d T e:List Itm} {L:List Rul} (h:Pr2 x d L T) (v:∀ y∈T,y∈e):Pr2 x d L e:=fun y k b q m=>v _ (h y k b q m)
end
end Go.Vs
namespace Go.Sx
open Go Go.Vs
def kn_ (T:List Itm) (r:Str):List Value:=(List.range 4225).map fun k=>.bool (decide ((⟨r,k / 65,k%65⟩:Itm)∈T))
theorem mt_ (T:List Itm) (r:Str):(kn_ T r).length=4225:=by simp[kn_]
theorem oF_ (T:List Itm) (r:Str) {k:Nat} (hk:k<4225):(kn_ T r)[k]? = some (.bool (decide ((⟨r,k / 65,k%65⟩:Itm)∈T))):=by
  unfold kn_;rw[List.getElem?_map,List.getElem?_range hk];rfl
theorem uC_ {i j:Nat} (e:j≤64):(i*65+j) / 65=i∧(i*65+j)%65=j:=by omega
theorem uE_ (T:List Itm) (r:Str) {i j:Nat} (hi:i≤64) (k:j≤64):(kn_ T r)[i*65+j]? = some (.bool (decide ((⟨r,i,j⟩:Itm)∈T))):=by
  obtain⟨e,h⟩:=uC_ (i:=i) k;rw[oF_ T r za_,e,h]
theorem ms_ {T:List Itm} {r q:Str} {i j:Nat} (h:q≠r):kn_ (addI ⟨r,i,j⟩ T) q=kn_ T q:=by
  unfold kn_
  apply List.map_congr_left
  intro k _
  congr 1
  apply decide_eq_decide.2
  rw[ki_];exact⟨fun q=>q.elim id fun e=>absurd (congrArg Itm.r e) h,.inl⟩
theorem uD_ (T:List Itm) (r:Str) {i j:Nat} (hi:i≤64) (h:j≤64):(kn_ T r).set (i*65+j) (.bool true)=kn_ (addI ⟨r,i,j⟩ T) r:=by
 apply List.ext_getElem?
 intro k;rw[List.getElem?_set,mt_];obtain⟨m,v⟩:=uC_ (i:=i) h
 by_cases hk:i*65+j=k
 ·subst hk
  rw[if_pos rfl,if_pos za_,uE_ _ _ hi h,decide_eq_true (ki_.2 (.inr rfl))]
 rw[if_neg hk]
 by_cases hl:k<4225
 ·rw[oF_ _ _ hl,oF_ _ _ hl]
  congr 2
  apply decide_eq_decide.2
  rw[ki_];refine⟨.inl,fun q=>q.elim id fun e=>?_⟩;simp only[Itm.mk.injEq,true_and]at e;omega
 rw[List.getElem?_eq_none (by rw[mt_];omega),List.getElem?_eq_none (by rw[mt_];omega)]
def gG_ (ks:List (Str×Nat)) (k:Str):Option Nat:=(ks.find? fun p=>decide (p.1=k)).map (·.2)
def tptr (o:Option Nat):Value:=.pointer (o.map fun b=>⟨b,0,none⟩)
def oy_ (tt:TypeId) (T:List Itm) (p:Str×Nat):Nat×Obj:=(p.2,.cells (kn_ T p.1).toArray tt (0,0))
structure TabE (ks:List (Str×Nat)) (T:List Itm) (es:Array MapEntry):Prop where
  keys:es.toList.map (·.key)=(ks.map (·.1)).map str
  vals:es.toList.map (·.val)=ks.map fun p=>tptr (some p.2)
  nd:(ks.map (·.1)).Nodup
  all:∀ x∈T,x.r∈ks.map (·.1)
def TabO (tt mb:Nat) (ks:List (Str×Nat)) (T:List Itm) (H:Hp):Prop:=∃ es c,H=(mb,.map es c)::ks.map (oy_ tt T)∧TabE ks T es
theorem km_ {ks:List (Str×Nat)} {k:Str} {b:Nat} (h:gG_ ks k=some b):(k,b)∈ks:=by
  unfold gG_ at h;rw[Option.map_eq_some_iff]at h;obtain⟨p,e,rfl⟩:=h;have m:=List.find?_some e;have q:=List.mem_of_find?_eq_some e;simp only[decide_eq_true_eq]at m;subst m;exact q
theorem iA_ {ks:List (Str×Nat)} {k:Str} (h:gG_ ks k=none):k ∉ ks.map (·.1):=by
  unfold gG_ at h;rw[Option.map_eq_none_iff,List.find?_eq_none]at h;intro hm;obtain⟨p,e,rfl⟩:=List.mem_map.1 hm;exact h p e zj_
theorem uu_ {ks:List (Str×Nat)} {k:Str} {b:Nat} (h:gG_ ks k=none):gG_ (ks++[(k,b)]) k=some b:=by
  unfold gG_ at h ⊢;rw[Option.map_eq_none_iff]at h;rw[List.find?_append,h];simp
section
variable {P:Program} {kt:TypeId} {tt mb:Nat} {ks:List (Str×Nat)} {T:List Itm} {es:Array MapEntry} {H:Hp}
theorem TabO.at (h:TabO tt mb ks T H) {k:Str} {b:Nat} (hk:gG_ ks k=some b):∃ Hr,H.Perm ((b,.cells (kn_ T k).toArray tt (0,0))::Hr) ∧
    ∀ i j,i≤64→j≤64→∃ H',TabO tt mb ks (addI ⟨k,i,j⟩ T) H'∧((b,Obj.cells ((kn_ T k).set (i*65+j) (.bool true)).toArray tt (0,0))::Hr).Perm H':=by
  obtain⟨es,c,rfl,hE⟩:=h;have hm:=km_ hk;obtain⟨v,q,rfl⟩:=List.append_of_mem hm;refine⟨(mb,.map es c)::(v++q).map (oy_ tt T),?_,fun i j hi B=>?_⟩
  · rw[List.map_append,List.map_cons,List.map_append]
    exact (List.Perm.cons _ List.perm_middle).trans (.swap _ _ _)
  · refine⟨(mb,.map es c)::(v++(k,b)::q).map (oy_ tt (addI ⟨k,i,j⟩ T)),⟨es,c,rfl,hE.keys,hE.vals,hE.nd,fun x A=>?_⟩,?_⟩
    · rcases ki_.1 A with A|rfl
      · exact hE.all x A
      · simp
    · have m:=hE.nd
      rw[List.map_append,List.map_cons,List.nodup_append,List.nodup_cons]at m
      have C:v.map (oy_ tt (addI ⟨k,i,j⟩ T))=v.map (oy_ tt T):=List.map_congr_left fun p y=>by
        unfold oy_;rw[ms_ fun e=>m.2.2 p.1 (List.mem_map_of_mem y) k zj_ e]
      have E:q.map (oy_ tt (addI ⟨k,i,j⟩ T))=q.map (oy_ tt T):=List.map_congr_left fun p y=>by
        unfold oy_;rw[ms_ fun e=>m.2.1.1 (List.mem_map.2 ⟨p,y,e⟩)]
      rw[uD_ T k hi B,List.map_append,List.map_append,List.map_cons,C,E];exact ((List.Perm.cons _ List.perm_middle).trans (.swap _ _ _)).symm
end
section ops
variable {P:Program} {N:Nf} {v0:Vw} {H0:Hp} {R:Exit→Act→World→Prop} {K:List Kt} {fr:Fr} {H F:Hp} {Γ:List Fct}
variable {ops:Array Oper} {l:List Oper} {d:Nat} {ty:TypeId} {ps:String} {af:Array Edge}
variable {tt mb:Nat} {ks:List (Str×Nat)} {T:List Itm} {Hx:Hp}
end ops
end Go.Sx
namespace Go.Sx
open Go Go.Vs
structure IntE {K:Type} (kv:K→Value) (es:Array MapEntry) (ks:List K) (vs:List Int):Prop where
  keys:es.toList.map (·.key)=ks.map kv
  vals:es.toList.map (·.val)=vs.map fun n=>Value.int .i64 n
  nd:ks.Nodup
section
variable {P:Program} {K:Type} [DecidableEq K] {kv:K→Value} {kt:TypeId} {es:Array MapEntry} {ks:List K} {vs:List Int}
end
section ops
variable {P:Program} {N:Nf} {v0:Vw} {H0:Hp} {R:Exit→Act→World→Prop} {Kk:List Kt} {fr:Fr} {H:Hp} {Γ:List Fct}
variable {ops:Array Oper} {lo:List Oper} {d:Nat} {ty:TypeId} {ps:String} {af:Array Edge}
variable {K:Type} [DecidableEq K] {kv:K→Value}
end ops
end Go.Sx
namespace Go.Sx
open Go
section
variable {P:Program} {N:Nf} {v0:Vw} {H0:Hp} {R:Exit→Act→World→Prop} {K:List Kt} {fr:Fr} {H F:Hp} {Γ:List Fct} {ops:Array Oper} {l:List Oper} {d:Nat} {ty:TypeId} {ps:String} {af:Array Edge} {e:TypeId} {sz n:Nat} {sv:Value} {xs:List Value} {Hr:Hp}
theorem qj_ {x y:Operand} {t B:TypeId} {by':Nat} {k G:IntKind} (A:Elt P t e sz by') (C:P.underlying B=some (.int G)) (Q:Fr.ev fr x=some (.slice none 0 0)) (J:Fr.ev fr y=some (.int k (n:Int))) (T:0<n) (U:n*by'≤140737488355328) (h:n≤maxLen) (M:Nat.blt d N.n=true)
    (hk:∀ (y:Nat×Array Value) (b:Nat),(n≤y.1∧y.1≤maxLen∧y.2.size=y.1*sz)→Ops P R N v0 H0 ops l K ((d,.slice (some ⟨b,0,none⟩) n y.1)::fr) ((b,.cells y.2 e (0,0))::H) Γ) :
    Ops P R N v0 H0 ops (⟨some d,.call ⟨.builtin .append,#[x,y],#[t,B]⟩,ty,ps,af,none⟩::l) K fr H Γ :=
  mJ_ (β:=Nat×Array Value) (x:=fun y b=>.slice (some ⟨b,0,none⟩) n y.1) (o:=fun y=>.cells y.2 e (0,0)) (fun y=>n≤y.1∧y.1≤maxLen∧y.2.size=y.1*sz) M
    (fun a v E V W=>by
      obtain⟨i,z,hi,L,es,S,O⟩:=A.info;subst es S;have I:=Lib.run_append_nil_zeros (P:=P) v.w t B ty e i z k G A.und C hi L n T A.pos (by simp only[maxLen]at h;omega) za_;have m:=grownCap_ge v.w n 0 e;have q:=grownCap_le_maxLen v.w n 0 e h;refine⟨(grownCap v.w n 0 e,Builtin.zeroCells z.cells n++Builtin.zeroCells z.cells (grownCap v.w n 0 e - n)),v.w.drew.alloc (.cells (Builtin.zeroCells z.cells n++Builtin.zeroCells z.cells (grownCap v.w n 0 e - n)) e),⟨m,q,?_⟩,?_,rfl,rfl,rfl,rfl,by simp⟩
      · simp only[Array.size_append,size_zeroCells,O,← Nat.add_mul]
        congr 1
        omega
      · simp only[execOp,resolve,invoke,builtin,Sem.run_bind,Sem.run_pure,Result.andThen_ok,List.map_toArray,List.map_cons,List.map_nil,E.ev Q,E.ev J,I])
    hk
theorem pB_ {x:Operand} {t:TypeId} {ad:Option Addr} {len cap:Nat} (k:∀ w,(underlying t).run P w=.ok (.slice e) w) (h:Fr.ev fr x=some (.slice ad len cap)) :
    Yld P N fr H Γ (.call ⟨.builtin .cap,#[x],#[t]⟩) ty (.int .i64 (cap:Int)) :=
  fun a v m _ _ _ _ _=>by simp[execOp,resolve,invoke,builtin,Builtin.cap_,k,m.ev h,goInt]
theorem ti_ {b cap:Nat} {cur:Array Value} (k:cap≤maxLen) (h:cur.size=cap*sz):aw_ e sz (.slice (some ⟨b,0,none⟩) 0 cap) 0 [] [(b,.cells cur e (0,0))] :=
  ⟨by simp,.inr ⟨b,cap,cur,rfl,rfl,Nat.zero_le _,k,h,by simp⟩⟩
end
end Go.Sx
namespace Go.Sx
open Go
theorem vt_ {P:Program} {E:TypeId} {m:IntKind} (C:P.underlying E=some (.int m)):KeyT P E (fun n:Int=>.int m n) where
  ok:=fun k=>aZ_ C
  nf:=fun k es ks h hk=>aJ_ C (by
    have:∀ (ks:List Int) (es:List MapEntry) (i:Nat),es.map (·.key)=ks.map (fun n:Int=>Value.int m n)→k ∉ ks→Instr.findNow (.int m) (.int m k) es i=some none:=by
      intro ks
      induction ks with
      | nil => intro es i h _; have : es = [] := by simpa using h
               subst this;rfl
      | cons q ks ih =>
        intro es i h hk;cases es with
        | nil=>simp at h
        | cons e es =>
          simp only[List.map_cons,List.cons.injEq]at h;simp only[List.mem_cons,not_or]at hk
          have y:Instr.sameNow (.int m) (.int m k) e.key=some false:=by
            rw[h.1];simp[Instr.sameNow,hk.1]
          simp only[Instr.findNow,y];exact ih es (i+1) h.2 hk.2
    exact this ks es 0 h hk)
  sf:=fun k es ks i e h A hi v=>aJ_ C (by
    have:∀ (ks:List Int) (es:List MapEntry) (j i:Nat),es.map (·.key)=ks.map (fun n:Int=>Value.int m n)→ks.Nodup→ks[i]? = some k→es[i]? = some e→Instr.findNow (.int m) (.int m k) es j=some (some (j+i,e.val)):=by
      intro ks
      induction ks with
      | nil=>intro es j i _ _ h;simp at h
      | cons q ks ih =>
        intro es j i h A hi v;cases es with
        | nil=>simp at h
        | cons x es =>
          simp only[List.map_cons,List.cons.injEq]at h;rw[List.nodup_cons]at A;cases i with
          | zero =>
            simp only[List.getElem?_cons_zero,Option.some.injEq]at hi v;subst hi;subst v
            have y:Instr.sameNow (.int m) (.int m q) x.key=some true:=by
              rw[h.1];simp[Instr.sameNow]
            simp only[Instr.findNow,y,Nat.add_zero]
          | succ i =>
            simp only[List.getElem?_cons_succ]at hi v;have B:k≠q:=fun e=>A.1 (e▸List.mem_of_getElem? hi)
            have y:Instr.sameNow (.int m) (.int m k) x.key=some false:=by
              rw[h.1];simp[Instr.sameNow,B]
            simp only[Instr.findNow,y];rw[ih es (j+1) i h.2 A.2 hi v,show j+1+i=j+(i+1) by omega]
    have:=this ks es 0 i h A hi v;rwa [Nat.zero_add]at this)
  same:=fun k=>ei_ 10000 k
end Go.Sx
namespace Go.Sx
open Go
section
variable {P:Program} {N:Nat} {v0:Vw} {H0:Hp} {R:Exit→Act→World→Prop} {Kk:List Kt} {fr:Fr} {H:Hp} {Γ:List Fct}
variable {ops:Array Oper} {lo:List Oper} {d:Nat} {ty:TypeId} {ps:String} {af:Array Edge}
variable {K:Type} [DecidableEq K] {kv:K→Value}
theorem oa_ {t e h:TypeId} {x:Operand} {b c:Nat} (n:Nat) {es:Array MapEntry} (k:P.underlying t=some (.map e h)) (A:Fr.ev fr x=some (.map (some b))) (hi:H[n]? = some (b,.map es c)) (m:Nat.blt d N=true)
    (hk:∀ r,Ops P R N v0 H0 ops lo Kk ((d,.pointer (some ⟨r,0,none⟩))::fr) ((r,.mapIter (some b) c #[] c)::H) Γ):Ops P R N v0 H0 ops (⟨some d,.range t x,ty,ps,af,none⟩::lo) Kk fr H Γ :=
  gp_ (x:=fun b=>.pointer (some ⟨b,0,none⟩)) m (fun a v B y _=>by
    have q:=(y.own _ (List.mem_of_getElem? hi)).1;simp[execOp,B.ev A,run_range_map v.w t e h b es c k q]) hk
theorem qf_ {J:Operand} {b r c h L:Nat} {es:Array MapEntry} {q:Array Nat} (n m:Nat) (E:Fr.ev fr J=some (.pointer (some ⟨r,0,none⟩))) (Y:H[n]? = some (r,.mapIter (some b) h q L)) (hb:H[m]? = some (b,.map es c)) (I:∀ x∈es.toList,x.born<h) (T:h≤L) (hN:Nat.blt d N=true)
    (h0:(leftOf es q).size=0→Ops P R N v0 H0 ops lo Kk ((d,.tuple #[.bool false])::fr) H Γ)
    (hk:∀ e,e∈(leftOf es q).toList→Ops P R N v0 H0 ops lo Kk ((d,.tuple #[.bool true,e.key,e.val])::fr) (H.set n (r,.mapIter (some b) h (q.push e.born) c)) Γ):Ops P R N v0 H0 ops (⟨some d,.next J false,ty,ps,af,none⟩::lo) Kk fr H Γ :=
  cn_ rfl fun a v M G Z h4=>by
    have C:=(G.own _ (List.mem_of_getElem? Y)).1;have V:=(G.own _ (List.mem_of_getElem? hb)).1;unfold Oper.wp;rcases run_next_at (P:=P) v.w ty r b h L q es c C V I T with⟨e0,A⟩|⟨e,he,B,y,A⟩
    · have U:(execOp a.eval ⟨some d,.next J false,ty,ps,af,none⟩).run P v.w=.ok (.value (.tuple #[.bool false])) v.w:=by simp[execOp,M.ev E,A]
      rw[U];exact h0 e0 _ v (M.put hN) G Z h4
    · have U:(execOp a.eval ⟨some d,.next J false,ty,ps,af,none⟩).run P v.w=.ok (.value (.tuple #[.bool true,e.key,e.val])) (ChangeMaps.setBlock B r (.mapIter (some b) h (q.push e.born) c)):=by simp[execOp,M.ev E,A]
      rw[U];have S:B.heap[r]? = some (.mapIter (some b) h q L):=by rcases y with rfl|rfl<;>exact C
      have Q:r<B.heap.size:=(Array.getElem?_eq_some_iff.1 S).1;have X:B.heap=v.w.heap:=by rcases y with rfl|rfl<;>rfl
      have O:v.w.drawn≤B.drawn:=by
        rcases y with rfl|rfl
        · exact Nat.le_refl _
        · exact Nat.le_succ _
      obtain⟨g1,W⟩:=eF_ (w':=ChangeMaps.setBlock B r (.mapIter (some b) h (q.push e.born) c)) G Y zaA_ zaA_ zaA_ O (by simp[ChangeMaps.setBlock,X])
        (by simp only[ChangeMaps.setBlock];rw[Array.getElem?_setIfInBounds_self_of_lt Q]) (fun k hk=>by simp only[ChangeMaps.setBlock];rw[Array.getElem?_setIfInBounds_ne (Ne.symm hk),X])
      exact hk e he _ ⟨v.im,_,v.sl⟩ (M.put hN) g1 (Z.trans W) (ao_ (W.le G) h4)
theorem nK_ {x:Operand} {b r c h:Nat} {es:Array MapEntry} {k:Array Nat} {e:MapEntry} (n m:Nat) (q:Fr.ev fr x=some (.pointer (some ⟨r,0,none⟩))) (A:H[n]? = some (r,.mapIter (some b) h (k.push e.born) c)) (B:H[m]? = some (b,.map es c)) (C:e∈es.toList) (hB:Born es c) :
    Yld P N fr H Γ (.entry x) ty (.tuple #[e.key,e.val]) :=
  fun a v E y _ _ _ _=>by
    have:=run_entry_at (P:=P) v.w r b h k es c e (y.own _ (List.mem_of_getElem? A)).1 (y.own _ (List.mem_of_getElem? B)).1 C hB.nd;simp[execOp,E.ev q,this]
structure ItS (kv:K→Value) (es:Array MapEntry) (seen:Array Nat) (done:List K):Prop where
  nd:done.Nodup
  mem:∀ e∈es.toList,seen.contains e.born=true↔∃ k∈done,e.key=kv k
  sub:∀ k∈done,∃ e∈es.toList,e.key=kv k
theorem ItS.nil {es:Array MapEntry}:ItS kv es #[] []:=⟨List.nodup_nil,fun e _=>by simp,fun k hk=>by simp at hk⟩
end
section
variable {P:Program} {N:Nat} {v0:Vw} {H0:Hp} {R:Exit→Act→World→Prop} {K:List Kt} {fr:Fr} {H F:Hp} {Γ:List Fct}
def wo_ {σ:Type} (v0:Vw) (H0:Hp) (Hj:σ→Hp) (ok:σ→Prop) (HL:Hp):Exit→Act→World→Prop
  | .normal,_,w=>∃ s' v,ok s'∧v.w=w∧v.sat (Hj s'++HL)∧v0.to H0 v (Hj s'++HL)
  | _,_,_=>False
theorem pw_ {σ ι:Type} {l D:Nat} {h:Loop} {y:Nat} {x:Value} {Hj:σ→Hp} {s:σ} {ok:σ→Prop} (G:ι→Fr) (I:ι→Hp)
    (hp:h.params=#[y]) (S:h.state=.ready) (hpe:h.pending=none) (ht:Fr.sat N fr ⟨h.tmps,[]⟩) (W:Nat.blt y N=true)
    (m:∀ n v0 H0 HL,ix_ (Fence.wide.inRound l) n P (Mid N v0 H0 G (fun i=>I i++HL) (fun _=>Γ)) N [] v0 H0 h.assign [] ((y,x)::fr) (Hj s++HL) Γ)
    (q:∀ n v0 H0 HL i,ix_ (Fence.wide.inRound l) n P (wo_ v0 H0 Hj ok HL) N [] v0 H0 h.body [] (G i) (I i++HL) Γ) :
    iT_ P l x (Hj s++HLp l D h) Γ (fun _:{B:σ // ok B}=>.bool true) (fun B=>Hj B.1++HLp l D h) (fun _=>[]):=by
  intro v Z hΓ
  have k:∀ (X:Hp) r,(X++HLp l D r).Perm ((l,.loop r)::(X++[(D,.deferred (some []))])):=fun X r=>by
    unfold HLp;exact List.perm_middle
  have hl:v.w.heap[l]? = some (.loop h):=((Z.perm (k _ _)).own _ List.mem_cons_self).1;refine⟨h.fn,_,h.assign,h.body,run_yield hl (by simp[hp]),fun n=>roundIn_of_wpIn trivial ?_⟩;have T:(h.params.zip #[x]).foldl (fun tmps (t,a)=>tmps.setIfInBounds t a) h.tmps=h.tmps.setIfInBounds y x:=by simp[hp]
  rw[T];have J:Fr.sat N ((y,x)::fr) ⟨h.tmps.setIfInBounds y x,[]⟩:=ht.put W;refine wpIn_mono (gB_.1 (m n v (Hj s++HLp l D h) (HLp l D h)) ⟨h.tmps.setIfInBounds y x,[]⟩ v J Z (Vw.to.refl _ _) hΓ) ?_;rintro e a1 w1 ⟨rfl,i,E,rfl,k1,k2,k3,k4⟩;have A:=k2.perm (k _ _);have U:=(A.own _ List.mem_cons_self).1;obtain⟨m1,m2⟩:=eG_ (o':=.loop { h with state:=.busy }) A;refine⟨_,run_beginRound U S,?_⟩;have m3:=m1.perm (k (I i) { h with state:=.busy }).symm
  have m4:v.to (Hj s++HLp l D h) ⟨E.im,E.w.putObj l (.loop { h with state:=.busy }),E.sl⟩ (I i++HLp l D { h with state:=.busy }) :=
    (k3.trans ((m2.permL (k _ _).symm).subR fun b M=>((k (I i) { h with state:=.busy }).map Prod.fst).mem_iff.1 M))
  have Y:=ao_ (m2.le A) k4;refine wpIn_mono (gB_.1 (q n v (Hj s++HLp l D h) (HLp l D { h with state:=.busy }) i) a1 ⟨E.im,_,E.sl⟩ k1 m3 m4 Y) ?_;intro e2 a2 w2 C;cases e2 with
  | normal =>
    obtain⟨B,O,Q,rfl,q1,q2⟩:=C;have L:=q1.perm (k _ _);have V:=(L.own _ List.mem_cons_self).1;obtain⟨z1,z2⟩:=eG_ (o':=.loop h) L;have er:({ h with state:=.ready,pending:=none }:Loop)=h:=by cases h;simp_all
    refine⟨_,_,run_endRound none V,⟨B,Q⟩,⟨O.im,O.w.putObj l (.loop h),O.sl⟩,rfl,?_,z1.perm (k _ _).symm,trivial,q2.trans ((z2.permL (k _ _).symm).subR fun b M=>((k (Hj B) h).map Prod.fst).mem_iff.1 M)⟩;simp[er]
  | ret=>exact C.elim
  | exit id=>exact C.elim
  | goto t=>exact C.elim
  | panic c=>exact C.elim
  | outgrown=>exact C.elim
theorem rr_ {σ:Type} {Hj:σ→Hp} {h G:Hp} {ok:σ→Prop} (e:σ) (k:ok e) (m:H.Perm (Hj e++h++G)):OkD N [] v0 H0 (wo_ v0 H0 Hj ok h .normal) fr H Γ :=
  cN_ (Γ':=[]) m (fun _ _ _=>trivial) fun a v y x q _=>⟨e,v,k,rfl,x,q⟩
theorem pP_ {σ α:Type} {g:Operand} {T:Nat} {assign body:Code} {S:FuncId} {caps:List Value} {Hj:σ→Hp} {Hc:Hp} {Γi:List Fct} (Γx:List Fct) {xv:α→Value} {good:σ→α→Prop} {nx:α→σ→σ→Prop} {Rc:σ→Prop}
    (s0:σ) (hg:Fr.ev fr g=some (.func (.func S) #[] caps.toArray)) (hH:H.Perm (Hc++Hj s0)) (hΓi:∀ v,v.sat H→Z_ Γ v→Z_ Γi v)
    (B:∀ l D (k:Loop),k.params=#[T]→k.state=.ready→k.pending=none→Fr.sat N fr ⟨k.tmps,[]⟩→k.assign=assign→k.body=body→∀ s x,good s x →
      iT_ P l (xv x) (Hj s++HLp l D k) Γx (fun _:{y:σ // nx x s y}=>.bool true) (fun y=>Hj y.1++HLp l D k) (fun _=>[]))
    (hit:∀ l (Gj:σ→Hp),(∀ s x,good s x→iT_ P l (xv x) (Gj s) Γx (fun _:{y:σ // nx x s y}=>.bool true) (fun y=>Gj y.1) (fun _=>[])) →
      Tri P S (.func (.yield l) #[] #[]::caps).toArray (Hc++Gj s0) Γi (fun _:{y:σ // Rc y}=>.tuple #[]) (fun y=>Hc++Gj y.1) (fun _=>[]))
    (E:∀ y,Rc y→∀ D l r,sh_ Fence.wide 0 P R N (nB_ D) v0 H0 K fr (Hc++Hj y++HLp l D r) Γ) :
    Run P R N v0 H0 (.rangeFunc g #[T] assign body) K fr H Γ:=by
  intro a v I M h3 W;refine wpIn_wide (n:=0) |>.1 (wpIn_mono (Q:=ee_ Fence.wide 0 P R K) (wpIn_rangeFunc fun fn _=>?_) fun e a w hq=>bh_ K e a w hq)
  obtain⟨a1,a2⟩:=fE_ (w':=v.w.alloc (.deferred (some []))) (o:=.deferred (some [])) M rfl rfl rfl rfl (Nat.le_refl _);obtain⟨k,m⟩:∃ k:Loop,k={ state:=.ready,pending:=none,fn,tmps:=a.tmps,params:=#[T],assign,body,defers:=v.w.heap.size }:=⟨_,rfl⟩;obtain⟨b1,b2⟩:=fE_ (w':=(v.w.alloc (.deferred (some []))).alloc (.loop k)) (o:=.loop k) a1 rfl rfl rfl rfl (Nat.le_refl _);have L:(v.w.alloc (Obj.deferred (some []))).heap.size=v.w.heap.size+1:=by simp
  have V:(⟨v.im,(v.w.alloc (.deferred (some []))).alloc (.loop k),v.sl⟩:Vw).sat ((v.w.heap.size+1,.loop k)::(v.w.heap.size,.deferred (some []))::H):=L▸b1;have G:v.to H ⟨v.im,(v.w.alloc (.deferred (some []))).alloc (.loop k),v.sl⟩ ((v.w.heap.size+1,.loop k)::(v.w.heap.size,.deferred (some []))::H):=a2.trans (L▸b2)
  have A:((v.w.heap.size+1,Obj.loop k)::(v.w.heap.size,.deferred (some []))::H).Perm (Hc++(Hj s0++HLp (v.w.heap.size+1) v.w.heap.size k)):=by
    rw[← List.append_assoc];exact (List.perm_append_comm (l₁:=HLp (v.w.heap.size+1) v.w.heap.size k) (l₂:=H)).trans (hH.append_right _)
  have hT:=hit (v.w.heap.size+1) (fun s=>Hj s++HLp (v.w.heap.size+1) v.w.heap.size k)
    (B _ _ k (by rw[m]) (by rw[m]) (by rw[m]) (by rw[m];exact⟨I.size,rfl,I.val⟩) (by rw[m]) (by rw[m]))
  have hΓ2:=ao_ (G.le M) (hΓi v M W);have hΓ3:=ao_ (G.le M) W;have he:=I.ev hg;refine⟨v.w.heap.size+1,nB_ v.w.heap.size,(v.w.alloc (.deferred (some []))).alloc (.loop k),⟨.fn (.func S) caps.toArray,#[.func (.yield (v.w.heap.size+1)) #[] #[]]⟩,(v.w.alloc (.deferred (some []))).alloc (.loop k),S,(.func (.yield (v.w.heap.size+1)) #[] #[]::caps).toArray,_,?_,?_,fun _ _=>trivial,?_,fun h=>(by cases h),callsIn_wide.2 ((hT.run ⟨v.im,_,v.sl⟩ (V.perm A) hΓ2).mono ?_)⟩
  · rw[m];exact run_enterLoop_outer _ _ _ _ _
  · simp only[resolve,rangeCall,List.map_toArray,List.map_cons,List.map_nil,he,Deferred.ofValue]
    rfl
  · have:=hT.callable (.func (.yield (v.w.heap.size+1)) #[] #[]::caps).toArray ((v.w.alloc (.deferred (some []))).alloc (.loop k))
    simpa [invoke] using this
  · rintro e w' ⟨⟨y,U⟩,v',rfl,rfl,g1,g2,g3⟩
    have O:=G.trans (g3.permL A.symm);have Z:=ao_ (O.le M) W;have hsd:∀ J,SatD N J fr { a with defers:=J++a.defers }:=fun J=>⟨⟨I.size,rfl,I.val⟩,by show J++a.defers=J;rw[I.defers];simp⟩
    have C:∀ (X Y:Hp) r,(Y++(X++HLp (v.w.heap.size+1) v.w.heap.size r)).Perm ((v.w.heap.size+1,.loop r)::(Y++X++[(v.w.heap.size,.deferred (some []))])):=fun X Y r=>by
      unfold HLp;rw[← List.append_assoc];exact List.perm_middle
    have q:=g1.perm (C (Hj y) Hc k);have hl:=(q.own _ List.mem_cons_self).1;obtain⟨z1,z2⟩:=eG_ (o':=.loop { k with state:=.exhausted }) q
    have zp:((v.w.heap.size+1,Obj.loop { k with state:=.exhausted })::(Hc++Hj y++[(v.w.heap.size,.deferred (some []))])).Perm (Hc++Hj y++HLp (v.w.heap.size+1) v.w.heap.size { k with state:=.exhausted }):=by
      have:=(C (Hj y) Hc { k with state:=.exhausted }).symm;rw[← List.append_assoc]at this;exact this
    refine⟨k.pending,_,run_endLoop hl (by rw[m];simp),?_⟩;have hpn:k.pending=none:=by rw[m]
    split
    case h_2=>rename_i c hc;rw[hpn]at hc;cases hc
    exact E y U _ _ _ _ ⟨v'.im,_,v'.sl⟩ (hsd _) (z1.perm zp) (h3.trans (O.trans ((z2.permL (C _ _ _).symm).subR fun b hb=>(zp.map Prod.fst).mem_iff.2 hb))) (ao_ (z2.le q) Z)
theorem rp_ {σ α:Type} {g:Operand} {A:Nat} {assign body:Code} {y:FuncId} {caps:List Value} {Hj:σ→Hp} {Hc:Hp} {Γi:List Fct} {xv:α→Value} {good:σ→α→Prop} {nx:α→σ→σ→Prop} {Rc:σ→Prop}
    (q:σ) (C:Fr.ev fr g=some (.func (.func y) #[] caps.toArray)) (B:H.Perm (Hc++Hj q)) (m:∀ v,v.sat H→Z_ Γ v→Z_ Γi v)
    (e:∀ l D (rec:Loop),rec.params=#[A]→rec.state=.ready→rec.pending=none→Fr.sat N fr ⟨rec.tmps,[]⟩→rec.assign=assign→rec.body=body→∀ s x,good s x →
      iT_ P l (xv x) (Hj s++HLp l D rec) [] (fun _:{s':σ // nx x s s'}=>.bool true) (fun s'=>Hj s'.1++HLp l D rec) (fun _=>[]))
    (k:∀ l (Gj:σ→Hp),(∀ s x,good s x→iT_ P l (xv x) (Gj s) [] (fun _:{s':σ // nx x s s'}=>.bool true) (fun s'=>Gj s'.1) (fun _=>[])) →
      Tri P y (.func (.yield l) #[] #[]::caps).toArray (Hc++Gj q) Γi (fun _:{s':σ // Rc s'}=>.tuple #[]) (fun s'=>Hc++Gj s'.1) (fun _=>[]))
    (h:∀ s',Rc s'→∀ D l r,sh_ Fence.wide 0 P R N (nB_ D) v0 H0 K fr (Hc++Hj s'++HLp l D r) Γ) :
    Run P R N v0 H0 (.rangeFunc g #[A] assign body) K fr H Γ:=
  pP_ [] q C B m e k h
end
section
variable {Fc:Fence} {n:Nat} {P:Program} {N:Nat} {D:List Deferred} {v0:Vw} {H0:Hp} {R:Exit→Act→World→Prop} {K:List Kt} {fr:Fr} {H:Hp} {Γ:List Fct}
variable {ops:Array Oper} {l:List Oper} {d:Nat} {ty:TypeId} {ps:String} {af:Array Edge}
theorem tF_ {t e:TypeId} {len sz:Nat} {parts:List (Nat×Operand)} {vs:List (Nat×Value)} {m:Value} {cs:List Value} (W:Opn Fc) (O:∀ w,(underlying t).run P w=.ok (.slice e) w) (U:∀ w,(sizeOf e).run P w=.ok sz w) (M:∀ w,(zeroValue e).run P w=.ok m w)
    (B:m.cells.toList.length=sz) (T:Nat.blt 0 (len*sz)=true) (y:Nat.ble (len*sz) 16777216=true) (Z:Fr.evp fr parts=some vs) (V:lu_ (fun i=>some (i*sz,sz)) (iS_ m.cells.toList len) vs=some cs) (S:Nat.blt d N=true)
    (hk:∀ b,fC_ Fc n P R N D v0 H0 ops l K ((d,.slice (some ⟨b,0,none⟩) len len)::fr) ((b,.cells cs.toArray e (0,0))::H) Γ):fC_ Fc n P R N D v0 H0 ops (⟨some d,.buildSlice t len parts.toArray,ty,ps,af,none⟩::l) K fr H Γ :=
  dY_ rfl fun a v L E Q X=>by
    refine⟨fun f _=>W.fn f,?_⟩;rw[semAt_eq rfl]
    have he:(execOp a.eval ⟨some d,.buildSlice t len parts.toArray,ty,ps,af,none⟩).run P v.w=.ok (.value (.slice (some ⟨v.w.heap.size,0,none⟩) len len)) (v.w.alloc (.cells cs.toArray e (0,0))):=by
      have C:=L.sat.evp Z;have k:=is_ _ _ _ _ V;have h:0<len*sz:=by simpa [Nat.blt_eq] using T
      have I:0<sz:=Nat.pos_of_mul_pos_left h;have J:len*sz≤16777216:=Nat.le_of_ble_eq_true y;have q:=jk_ m.cells.toList za_ len;rw[B]at q;simp only[Array.toArray_toList]at q;rw[← q]at k;have A:(parts.map fun (i,x)=>(i,a.eval x))=vs:=C;simp only[execOp,Instr.buildSlice,Sem.run_bind,O,Result.andThen_ok,U,List.map_toArray,A];rw[if_neg za_,if_neg za_];simp only[Sem.run_bind,Sem.run_pure,M,Result.andThen_ok,k];rfl
    rw[he];obtain⟨Y,G⟩:=fE_ (w':=v.w.alloc (.cells cs.toArray e (0,0))) (o:=.cells cs.toArray e (0,0)) E rfl rfl rfl rfl (Nat.le_refl _);exact hk v.w.heap.size _ ⟨v.im,_,v.sl⟩ (L.put S) Y (Q.trans G) (ao_ (G.le E) X)
theorem fX_ {k:Act→World→Prop} {H':Hp} (e:H.Perm H') (h:OkD N D v0 H0 k fr H' Γ):OkD N D v0 H0 k fr H Γ :=
  fun a v x y m A=>h a v x (y.perm e) (m.subR fun b q=>(e.map Prod.fst).mem_iff.2 q) A
theorem nA_ {t e:TypeId} {x y:Operand} {b off sz m:Nat} {sv:Value} {A:List Value} {Hr:Hp} (B:Opn Fc) (i:Nat) {cur:Array Value} {T:TypeId} (h:aw_ e sz sv m A Hr) (q:∀ w,(sizeOf t).run P w=.ok 1 w)
    (C:Fr.ev fr x=some (.pointer (some ⟨b,off,none⟩))) (k:Fr.ev fr y=some sv) (hi:H[i]? = some (b,.cells cur T (0,0))) (v:Nat.ble (off+1) cur.size=true)
    (hk:fC_ Fc n P R N D v0 H0 ops l K fr (H.set i (b,.cells (cur.toList.take off++[sv]++cur.toList.drop (off+1)).toArray T (0,0))) Γ):fC_ Fc n P R N D v0 H0 ops (⟨none,.store t x y,ty,ps,af,none⟩::l) K fr H Γ :=
  fW_ B i q C k hi (by rw[(fp_ h).1];rfl) v (by rw[(fp_ h).1];simp[(fp_ h).2]) (by rw[(fp_ h).1];exact hk)
theorem ql_ {x y:Operand} {t e:TypeId} {sz by' m k c:Nat} {sv:Value} {G news:List Value} {Hr F:Hp} {ad:Addr} (hF:Opn Fc) (E:Elt P t e sz by') (q:aw_ e sz sv m G Hr)
    (hx:Fr.ev fr x=some sv) (Z:Fr.ev fr y=some (.slice (some ad) k c)) (I:H.Perm (Hr++F)) (hl:news.length=k*sz) (A:∀ v,v.sat H→Z_ Γ v→∀ j u,news[j]? = some u→v.w.cell? (ad.add j)=some u) (C:∀ u∈news,u.oneCell'=true)
    (B:m+k≤maxLen) (Q:(m+k)*by'≤140737488355328) (hN:Nat.blt d N=true)
    (hk:∀ sv' h,aw_ e sz sv' (m+k) (G++news) h→fC_ Fc n P R N D v0 H0 ops l K ((d,sv')::fr) (h++F) Γ) :
    fC_ Fc n P R N D v0 H0 ops (⟨some d,.call ⟨.builtin .append,#[x,y],#[t,t]⟩,ty,ps,af,none⟩::l) K fr H Γ :=
  dY_ rfl fun a v M L h3 X=>by
    refine⟨fun f _=>hF.fn f,?_⟩;rw[semAt_eq rfl];obtain⟨i,z,hi,V,es,Y,ez⟩:=E.info;have g:=L.perm I;have S:=A v L X;have T:=q.owns g;obtain⟨O,w',U,q1,q2,_⟩:=run_append_own (P:=P) v.w 0 t ty e i z sz by' E.und hi V es Y ez E.pos sv m G T ad k c news hl S C B Q (Nat.zero_le _)
    obtain⟨a1,a2⟩:=kg_ v.w E.und hi V es T hl S C B (by rw[Y];exact Q) U;obtain⟨h,k1,k2,W⟩:=iJ_ q g q1 q2 a1 a2;have e1:a.eval x=sv:=M.sat.ev hx;have e2:a.eval y=.slice (some ad) k c:=M.sat.ev Z
    have J:(execOp a.eval ⟨some d,.call ⟨.builtin .append,#[x,y],#[t,t]⟩,ty,ps,af,none⟩).run P v.w=.ok (.value O) w':=by
      simp only[execOp,resolve,invoke,builtin,Sem.run_bind,Sem.run_pure,Result.andThen_ok,List.map_toArray,List.map_cons,List.map_nil,e1,e2,U]
    rw[J];exact hk O h k1 _ ⟨v.im,w',v.sl⟩ (M.put hN) k2 (h3.trans (W.permL I.symm)) (ao_ ((W.permL I.symm).le L) X)
end
end Go.Sx
namespace Go.Vs
open Go Go.Sx
abbrev RSt:=Str×Str×Bool
def lK_ (l:List Str) (x:Str):List Str:=if x∈l then l else l++[x]
def mk_ (l:List Str):List Str:=l.foldl lK_ []
theorem rg_ (l:List Str) (x:Str):mk_ (l++[x])=lK_ (mk_ l) x:=by simp[mk_]
theorem wj_ {l:List Str} {x y:Str}:y∈lK_ l x↔y∈l∨y=x:=by
 unfold lK_
 split
 ·rename_i h
  exact⟨.inl,fun q=>q.elim id fun e=>e▸h⟩
 simp
theorem ya_ {l:List Str} {x:Str} (h:l.Nodup):(lK_ l x).Nodup:=by
 unfold lK_
 split
 ·exact h
 rename_i m
 rw[List.nodup_append];exact⟨h,by simp,fun a q b k e=>by simp at k;subst k;subst e;exact m q⟩
theorem mj_ (l:List Str):(mk_ l).Nodup∧∀ y,y∈mk_ l↔y∈l:=by
  unfold mk_
  have k:∀ (l e:List Str),e.Nodup→(l.foldl lK_ e).Nodup∧∀ y,y∈l.foldl lK_ e↔y∈e∨y∈l:=by
    intro l
    induction l with
    | nil=>intro e h;exact⟨h,fun y=>by simp⟩
    | cons x l ih =>
      intro e h;obtain⟨m,q⟩:=ih (lK_ e x) (ya_ h);refine⟨m,fun y=>?_⟩;rw[List.foldl_cons,q,wj_,List.mem_cons,or_assoc]
  obtain⟨m,q⟩:=k l [] List.nodup_nil;exact⟨m,fun y=>by rw[q];simp⟩
def ik (S:List RSt) (r:Str):List Str:=mk_ ((S.filter fun z=>decide (z.1=r)).map (·.2.1))
def flg (S:List RSt) (r s:Str):Bool:=S.any fun z=>decide (z.1=r)&&(decide (z.2.1=s)&&z.2.2)
theorem ng_ {S:List RSt} {r s:Str}:s∈ik S r↔∃ c,(r,s,c)∈S:=by
 unfold ik;rw[(mj_ _).2,List.mem_map];constructor
 ·rintro ⟨⟨a,b,c⟩,h,rfl⟩
  rw[List.mem_filter,decide_eq_true_eq]at h;obtain⟨e,rfl⟩:=h;exact⟨c,e⟩
 rintro ⟨c,h⟩;exact⟨(r,s,c),by rw[List.mem_filter];exact⟨h,by simp⟩,rfl⟩
theorem yp_ (S:List RSt) (r:Str):(ik S r).Nodup:=(mj_ _).1
theorem pa_ (S:List RSt) (r s:Str) (c:Bool) (q:Str):ik (S++[(r,s,c)]) q=if r=q then lK_ (ik S q) s else ik S q:=by
 unfold ik;rw[List.filter_append,List.map_append]
 by_cases h:r=q
 ·rw[if_pos h]
  simp only[List.filter_cons,h,decide_true,if_true,List.filter_nil,List.map_cons,List.map_nil];exact rg_ _ _
 rw[if_neg h];simp[h]
theorem nj_ {S:List RSt} {r s:Str}:flg S r s=true↔(r,s,true)∈S:=by
 unfold flg;rw[List.any_eq_true];constructor
 ·rintro ⟨⟨a,b,c⟩,h,e⟩
  simp only[Bool.and_eq_true,decide_eq_true_eq]at e;obtain⟨rfl,rfl,rfl⟩:=e;exact h
 exact fun h=>⟨_,h,by simp⟩
theorem nk_ (S:List RSt) (r s:Str) (c:Bool) (q t:Str):flg (S++[(r,s,c)]) q t=(flg S q t||(decide (r=q)&&(decide (s=t)&&c))):=by
  unfold flg;rw[List.any_append];simp
theorem flg_no {S:List RSt} {r s:Str} (h:s ∉ ik S r):flg S r s=false:=by
 cases e:flg S r s
 ·rfl
 exact absurd (ng_.2 ⟨true,nj_.1 e⟩) h
end Go.Vs
namespace Go.Sx
open Go Go.Vs
structure BolE (es:Array MapEntry) (ks:List Str) (g:Str→Bool):Prop where
  keys:es.toList.map (·.key)=ks.map str
  vals:es.toList.map (·.val)=ks.map fun k=>Value.bool (g k)
  nd:ks.Nodup
section
variable {P:Program} {kt:TypeId} {es:Array MapEntry} {ks:List Str} {g:Str→Bool}
theorem BolE.nil {g:Str→Bool}:BolE #[] [] g:=⟨rfl,rfl,List.nodup_nil⟩
theorem BolE.no (e:KeyT P kt str) (h:BolE es ks g) {k:Str} (hk:k ∉ ks):dp_ P kt (str k) es.toList none:=e.nf k es.toList ks h.keys hk
theorem BolE.yes (y:KeyT P kt str) (h:BolE es ks g) {k:Str} (hk:k∈ks):∃ i e,ks[i]? = some k∧es[i]? = some e∧e.key=str k∧e.val=.bool (g k)∧dp_ P kt (str k) es.toList (some (i,.bool (g k))):=by
  obtain⟨i,hi⟩:=List.getElem?_of_mem hk
  have v:i<es.toList.length:=by
    have:=(List.getElem?_eq_some_iff.1 hi).1;have e:=congrArg List.length h.keys;simp only[List.length_map]at e;omega
  have q:=List.getElem?_eq_getElem v;have x:=congrArg (fun l=>l[i]?) h.vals;simp only[List.getElem?_map,q,Option.map_some,hi,Option.some.injEq]at x;have m:=congrArg (fun l=>l[i]?) h.keys;simp only[List.getElem?_map,q,Option.map_some,hi,Option.some.injEq]at m;refine⟨i,es.toList[i],hi,by rw[← Array.getElem?_toList];exact q,m,x,?_⟩;have:=y.sf k es.toList ks i _ h.keys h.nd hi q;rwa [x]at this
theorem BolE.push (h:BolE es ks g) {k:Str} (hk:k ∉ ks) (b:Bool) (c:Nat) {m:Str→Bool} (y:m k=b) (A:∀ q,q∈ks→m q=g q):BolE (es.push ⟨str k,.bool b,c⟩) (ks++[k]) m:=by
 refine⟨by simp[h.keys],?_,?_⟩
 ·rw[Array.toList_push,List.map_append,h.vals,List.map_append]
  simp only[List.map_cons,List.map_nil,y];rw[show List.map (fun q=>Value.bool (g q)) ks=List.map (fun q=>Value.bool (m q)) ks from List.map_congr_left fun q B=>by rw[A q B]]
 rw[List.nodup_append];exact⟨h.nd,by simp,fun a x b v e=>by simp at v;subst v;subst e;exact hk x⟩
theorem BolE.set (h:BolE es ks g) {k:Str} {i:Nat} (hi:ks[i]? = some k) (b:Bool) {G:Str→Bool} (Q:G k=b) (O:∀ q,q≠k→G q=g q):BolE (es.modify i fun y=>{ y with key:=str k,val:=.bool b }) ks G:=by
 have B:=congrArg List.length h.keys;simp only[List.length_map]at B;refine⟨?_,?_,h.nd⟩
 ·rw[← h.keys]
  apply List.ext_getElem?
  intro j;simp only[List.getElem?_map,Array.getElem?_toList,Array.getElem?_modify]
  by_cases m:i=j
  ·subst m
   rw[if_pos rfl];have hk:=congrArg (fun l=>l[i]?) h.keys;simp only[List.getElem?_map,hi,Option.map_some,Array.getElem?_toList]at hk;cases he:es[i]? with
   | none=>rfl
   | some e=>rw[he]at hk;simpa using hk.symm
  rw[if_neg m]
 apply List.ext_getElem?
 intro j;have L:=congrArg (fun l=>l[j]?) h.vals;simp only[List.getElem?_map,Array.getElem?_toList,Array.getElem?_modify]at L ⊢
 by_cases m:i=j
 ·subst m
  have I:i<es.size:=by
    have:=(List.getElem?_eq_some_iff.1 hi).1;rw[Array.length_toList]at B;omega
  rw[if_pos rfl,Array.getElem?_eq_getElem I,hi];simp[Q]
 rw[if_neg m,L];cases hq:ks[j]? with
 | none=>rfl
 | some q =>
   have:q≠k:=fun e=>by
     subst e;have x:=(List.getElem?_eq_some_iff.1 hi).1;have v:=(List.getElem?_eq_some_iff.1 hq).1;have J:=(List.getElem?_eq_some_iff.1 hi).2;have M:=(List.getElem?_eq_some_iff.1 hq).2;have C:=h.nd;unfold List.Nodup at C;rw[List.pairwise_iff_getElem]at C;rcases Nat.lt_trichotomy i j with A|A|A
     · exact C i j x v A (J.trans M.symm)
     · exact m A
     · exact C j i v x A (M.trans J.symm)
   simp[O q this]
end
def gd_ (E:Str→Array MapEntry×Nat) (p:Str×Nat):Nat×Obj:=(p.2,.map (E p.1).1 (E p.1).2)
def lB_ (o:Option Nat):Value:=.map o
structure MmE (ks:List (Str×Nat)) (S:List RSt) (es:Array MapEntry) (c:Nat) (E:Str→Array MapEntry×Nat):Prop where
  keys:es.toList.map (·.key)=(ks.map (·.1)).map str
  vals:es.toList.map (·.val)=ks.map fun p=>lB_ (some p.2)
  nd:(ks.map (·.1)).Nodup
  all:∀ z∈S,z.1∈ks.map (·.1)
  born:Born es c
  inn:∀ k∈ks.map (·.1),BolE (E k).1 (ik S k) (flg S k)∧Born (E k).1 (E k).2
def MmO (mb:Nat) (ks:List (Str×Nat)) (S:List RSt) (H:Hp):Prop:=∃ es c E,H=(mb,.map es c)::ks.map (gd_ E)∧MmE ks S es c E
theorem MmO.nil (mb c:Nat):MmO mb [] [] [(mb,.map #[] c)]:=⟨#[],c,fun _=>(#[],0),rfl,rfl,rfl,List.nodup_nil,by simp,Born.nil c,by simp⟩
section
variable {P:Program} {kt:TypeId} {mb:Nat} {ks:List (Str×Nat)} {S:List RSt} {es:Array MapEntry} {c:Nat} {E:Str→Array MapEntry×Nat} {H:Hp}
theorem MmE.no (e:KeyT P kt str) (h:MmE ks S es c E) {k:Str} (hk:gG_ ks k=none):dp_ P kt (str k) es.toList none:=e.nf k es.toList _ h.keys (iA_ hk)
theorem MmE.yes (m:KeyT P kt str) (h:MmE ks S es c E) {k:Str} {b:Nat} (hk:gG_ ks k=some b):∃ i,dp_ P kt (str k) es.toList (some (i,lB_ (some b))):=by
  obtain⟨i,hi⟩:=List.getElem?_of_mem (km_ hk);have e:=congrArg (fun l=>l[i]?) h.vals;simp only[List.getElem?_map,hi,Option.map_some]at e;cases hx:es.toList[i]? with
  | none=>rw[hx]at e;simp at e
  | some x =>
    rw[hx]at e;simp only[Option.map_some,Option.some.injEq]at e;refine⟨i,?_⟩;have:=m.sf k es.toList _ i x h.keys h.nd (by rw[List.getElem?_map,hi];rfl) hx;rwa [e]at this
theorem MmO.at (h:MmO mb ks S H) {k:Str} {b:Nat} (hk:gG_ ks k=some b):∃ es c Hr,H.Perm ((b,.map es c)::Hr)∧BolE es (ik S k) (flg S k)∧Born es c ∧
    ∀ s d m v,BolE m (ik (S++[(k,s,d)]) k) (flg (S++[(k,s,d)]) k)→Born m v→∃ H',MmO mb ks (S++[(k,s,d)]) H'∧((b,Obj.map m v)::Hr).Perm H':=by
  obtain⟨es,c,E,rfl,hE⟩:=h;have hm:=km_ hk;have x:k∈ks.map (·.1):=List.mem_map_of_mem hm;obtain⟨C,B,rfl⟩:=List.append_of_mem hm;refine⟨(E k).1,(E k).2,(mb,.map es c)::(C++B).map (gd_ E),?_,(hE.inn k x).1,(hE.inn k x).2,fun s d m v hB G=>?_⟩
  · rw[List.map_append,List.map_cons,List.map_append]
    exact (List.Perm.cons _ List.perm_middle).trans (.swap _ _ _)
  · have y:=hE.nd
    rw[List.map_append,List.map_cons,List.nodup_append,List.nodup_cons]at y
    have J:C.map (gd_ fun q=>if q=k then (m,v) else E q)=C.map (gd_ E):=List.map_congr_left fun p I=>by
      unfold gd_;dsimp only;rw[if_neg fun e=>y.2.2 p.1 (List.mem_map_of_mem I) k zj_ e]
    have M:B.map (gd_ fun q=>if q=k then (m,v) else E q)=B.map (gd_ E):=List.map_congr_left fun p I=>by
      unfold gd_;dsimp only;rw[if_neg fun e=>y.2.1.1 (List.mem_map.2 ⟨p,I,e⟩)]
    refine⟨(mb,.map es c)::(C++(k,b)::B).map (gd_ fun q=>if q=k then (m,v) else E q),⟨es,c,_,rfl,hE.keys,hE.vals,hE.nd,fun z A=>?_,hE.born,fun q O=>?_⟩,?_⟩
    · rcases List.mem_append.1 A with A|A
      · exact hE.all z A
      · rw[List.mem_singleton]at A;subst A;exact x
    · by_cases e:q=k
      · subst e;rw[if_pos rfl];exact⟨hB,G⟩
      · rw[if_neg e,pa_,if_neg (Ne.symm e)]
        have:flg (S++[(k,s,d)]) q=flg S q:=funext fun t=>by rw[nk_,decide_eq_false (Ne.symm e)];simp
        rw[this];exact hE.inn q O
    · have L:gd_ (fun q=>if q=k then (m,v) else E q) (k,b)=(b,.map m v):=by unfold gd_;dsimp only;rw[if_pos rfl]
      rw[List.map_append,List.map_append,List.map_cons,J,M,L];exact ((List.Perm.cons _ List.perm_middle).trans (.swap _ _ _)).symm
theorem MmE.push (h:MmE ks S es c E) {k:Str} (hk:gG_ ks k=none) (b y:Nat):MmE (ks++[(k,b)]) S (es.push ⟨str k,lB_ (some b),c⟩) (c+1) (fun q=>if q=k then (#[],y) else E q):=by
 have v:=iA_ hk;refine⟨by simp[h.keys],by simp[h.vals],?_,fun x G=>by simp only[List.map_append,List.mem_append];exact .inl (h.all x G),h.born.push _ _,fun q m=>?_⟩
 ·rw[List.map_append,List.nodup_append]
  exact⟨h.nd,by simp,fun a B q m e=>by simp at m;subst m;subst e;exact v B⟩
 by_cases e:q=k
 ·subst e
  rw[if_pos rfl]
  have:ik S q=[]:=List.eq_nil_iff_forall_not_mem.2 fun s C=>by
    obtain⟨d,A⟩:=ng_.1 C;exact v (h.all _ A)
  rw[this];exact⟨BolE.nil,Born.nil _⟩
 rw[if_neg e];refine h.inn q ?_;rw[List.map_append,List.mem_append]at m;rcases m with m|m
 ·exact m
 simp at m;exact absurd m e
end
section ops
variable {P:Program} {N:Nf} {v0:Vw} {H0:Hp} {R:Exit→Act→World→Prop} {K:List Kt} {fr:Fr} {H F:Hp} {Γ:List Fct}
variable {ops:Array Oper} {l:List Oper} {d:Nat} {ty:TypeId} {ps:String} {af:Array Edge}
variable {mb:Nat} {ks:List (Str×Nat)} {S:List RSt} {Hx:Hp}
theorem eS_ {t kt B:TypeId} {x y:Operand} {k:Str} (e:KeyT P kt str) (m:∀ w,(underlying t).run P w=.ok (.map kt B) w) (C:∀ w,(zeroValue B).run P w=.ok (.map none) w) (J:MmO mb ks S Hx) (A:Fr.ev fr x=some (.map (some mb))) (q:Fr.ev fr y=some (str k)) (G:H.Perm (Hx++F)) :
    Yld P N fr H Γ (.lookup t x y false) ty (lB_ (gG_ ks k)):=by
  obtain⟨es,c,E,rfl,hE⟩:=J;have hm:∀ v:Vw,v.sat H→Z_ Γ v→v.w.heap[mb]? = some (.map es c):=fun v h _=>(h.own (mb,.map es c) (G.mem_iff.2 zj_)).1
  cases hk:gG_ ks k with
  | none=>exact eA_ m C A q hm (e.ok k) (hE.no e hk)
  | some b =>
    obtain⟨i,I⟩:=hE.yes e hk;exact eR_ m A q hm (e.ok k) I
theorem uh_ {t B kt e:TypeId} {x y:Operand} {o:Option Nat} (q:P.underlying t=some (.map kt e)) (k:Fr.ev fr x=some (lB_ o)) (m:Fr.ev fr y=some (.map none)):Yld P N fr H Γ (.binOp .eql t x y B) ty (.bool (decide (o=none))) :=
  fun a v h _ _ _ _ _=>by
    have A:decide (o=none)=o.isNone:=by cases o<;>simp
    rw[A];have:=run_eql_map_nil (P:=P) v.w t kt e o q;simp[execOp,h.ev k,h.ev m,eqGuard,lB_,this]
theorem jf_ {t kt G:TypeId} {x y:Operand} {k s:Str} {b:Nat} (e:KeyT P kt str) (q:∀ w,(underlying t).run P w=.ok (.map kt G) w) (I:∀ w,(zeroValue G).run P w=.ok (.bool false) w) (O:MmO mb ks S Hx) (hk:gG_ ks k=some b) (C:Fr.ev fr x=some (.map (some b))) (A:Fr.ev fr y=some (str s)) (J:H.Perm (Hx++F)) :
    Yld P N fr H Γ (.lookup t x y false) ty (.bool (flg S k s)):=by
  obtain⟨es,c,Hr,M,B,_,_⟩:=O.at hk;have hm:∀ v:Vw,v.sat H→Z_ Γ v→v.w.heap[b]? = some (.map es c):=fun v h _=>(h.own _ (J.mem_iff.2 (List.mem_append_left _ (M.mem_iff.2 List.mem_cons_self)))).1
  by_cases m:s∈ik S k
  · obtain⟨_,_,_,_,_,_,L⟩:=B.yes e m
    exact eR_ q C A hm (e.ok s) L
  · rw[flg_no m]
    exact eA_ q I C A hm (e.ok s) (B.no e m)
theorem vc_ {o:Op} {t kt O:TypeId} {x y z:Operand} {k:Str} {b h:Nat} (B:KeyT P kt str) (Q:o=.insert t x y z∨o=.mapUpdate t x y z) (I:∀ w,(underlying t).run P w=.ok (.map kt O) w) (T:MmO mb ks S Hx) (hk:gG_ ks k=none)
    (M:Fr.ev fr x=some (.map (some mb))) (C:Fr.ev fr y=some (str k)) (G:Fr.ev fr z=some (.map (some b))) (m:H.Perm ((b,.map #[] h)::(Hx++F)))
    (v:∀ H',MmO mb (ks++[(k,b)]) S H'→Ops P R N v0 H0 ops l K fr (H'++F) Γ):Ops P R N v0 H0 ops (⟨none,o,ty,ps,af,none⟩::l) K fr H Γ:=by
  obtain⟨es,c,E,rfl,hE⟩:=T
  have J:ks.map (gd_ fun q=>if q=k then (#[],h) else E q)=ks.map (gd_ E):=List.map_congr_left fun p m=>by
    unfold gd_;dsimp only;rw[if_neg fun e:p.1=k=>iA_ hk (e▸List.mem_map_of_mem m)]
  have L:gd_ (fun q=>if q=k then (#[],h) else E q) (k,b)=(b,.map #[] h):=by unfold gd_;dsimp only;rw[if_pos rfl]
  have A:H.Perm ((mb,.map es c)::((ks++[(k,b)]).map (gd_ fun q=>if q=k then (#[],h) else E q)++F)):=by
    refine m.trans ?_;rw[List.map_append,List.map_cons,List.map_nil,J,L,List.cons_append];refine (List.Perm.swap _ _ _).trans (.cons _ ?_);rw[List.append_assoc];exact List.perm_middle.symm
  refine z_ A ?_;refine aQ_ 0 Q I M C G rfl (B.ok k) (hE.no B hk) ?_;simp only[List.set_cons_zero];exact v _ ⟨_,_,_,rfl,hE.push hk b h⟩
theorem qe_ {o:Op} {t kt et:TypeId} {x y z:Operand} {k s:Str} {b:Nat} {e U:Bool} (v:KeyT P kt str) (M:o=.insert t x y z∨o=.mapUpdate t x y z) (Q:∀ w,(underlying t).run P w=.ok (.map kt et) w) (Y:MmO mb ks S Hx) (hk:gG_ ks k=some b) (he:U=(flg S k s||e))
    (W:Fr.ev fr x=some (.map (some b))) (I:Fr.ev fr y=some (str s)) (O:Fr.ev fr z=some (.bool U)) (Z:H.Perm (Hx++F))
    (m:∀ H',MmO mb ks (S++[(k,s,e)]) H'→Ops P R N v0 H0 ops l K fr (H'++F) Γ):Ops P R N v0 H0 ops (⟨none,o,ty,ps,af,none⟩::l) K fr H Γ:=by
  subst he;obtain⟨es,c,Hr,h1,A,T,V⟩:=Y.at hk;have L:flg (S++[(k,s,e)]) k s=(flg S k s||e):=by rw[nk_];simp
  have J:∀ q,q≠s→flg (S++[(k,s,e)]) k q=flg S k q:=fun q C=>by rw[nk_,decide_eq_false (Ne.symm C)];simp
  refine z_ (Z.trans (h1.append_right F)) ?_
  by_cases h:s∈ik S k
  · obtain⟨i,en,g1,X,g3,g4,g5⟩:=A.yes v h
    obtain⟨H',G,B⟩:=V s e (es.modify i fun y=>{ y with key:=str s,val:=.bool (flg S k s||e) }) c (by rw[pa_,if_pos rfl,lK_,if_pos h];exact A.set g1 _ L J) (T.modify i _ fun _=>rfl);exact ho_ 0 v M Q W I O rfl g5 X g3 (z_ (B.append_right F) (m H' G))
  · obtain⟨H',G,B⟩:=V s e (es.push ⟨str s,.bool (flg S k s||e),c⟩) (c+1) (by rw[pa_,if_pos rfl,lK_,if_neg h];exact A.push h (flg S k s||e) c L fun q C=>J q (fun e=>h (e▸C))) (T.push _ _)
    exact aQ_ 0 M Q W I O rfl (v.ok s) (A.no v h) (z_ (B.append_right F) (m H' G))
end ops
end Go.Sx
namespace Go.Vs
open Go Go.Sx
def Ax.selfs (x:Ax):Nat:=x.roles.countP fun r=>decide (r=x.role)
def Ax.exm (x:Ax) (i:Nat):Bool:=decide (x.roles[i]? = some x.role)&&((decide (x.selfs=1)&&(decide (i=0)||decide (i+1=x.roles.length)))||(decide (x.selfs=2)&&decide (x.roles.length=2)))
def Ax.chs (x:Ax):Nat→List RSt
  | 0=>[]
  | i+1=>x.chs i++(match x.roles[i]? with|some r=>if x.exm i=true then [] else [(r,x.role,true)]|none=>[])
def Ax.steps (x:Ax):List RSt :=
  if x.kind=5 then (match x.roles[0]? with|some r=>if r=x.role then [] else [(r,x.role,false)]|none=>[])
  else if x.kind=6 then x.chs x.roles.length else []
def cU_ (l:List Ax):List RSt:=l.flatMap Ax.steps
theorem dB_ {l:List Ax} {i:Nat} {x:Ax} (h:l[i]? = some x):cU_ (l.take (i+1))=cU_ (l.take i)++x.steps:=by
  unfold cU_;rw[List.take_add_one,h,List.flatMap_append];simp
theorem Ax.steps_five {x:Ax} {r:Str} (hk:x.kind=5) (h:x.roles[0]? = some r) (d:r≠x.role):x.steps=[(r,x.role,false)]:=by unfold Ax.steps;rw[if_pos hk,h];dsimp only;rw[if_neg d]
theorem Ax.steps_same {x:Ax} {r:Str} (hk:x.kind=5) (h:x.roles[0]? = some r) (d:r=x.role):x.steps=[]:=by unfold Ax.steps;rw[if_pos hk,h];dsimp only;rw[if_pos d]
theorem Ax.steps_six {x:Ax} (hk:x.kind=6):x.steps=x.chs x.roles.length:=by unfold Ax.steps;rw[if_neg za_,if_pos hk]
theorem Ax.steps_no {x:Ax} (d:x.kind≠5) (e:x.kind≠6):x.steps=[]:=by unfold Ax.steps;rw[if_neg d,if_neg e]
theorem Ax.chs_yes {x:Ax} {i:Nat} {r:Str} (h:x.roles[i]? = some r) (d:x.exm i=true):x.chs (i+1)=x.chs i:=by rw[Ax.chs,h];dsimp only;rw[if_pos d,List.append_nil]
theorem Ax.chs_no {x:Ax} {i:Nat} {r:Str} (h:x.roles[i]? = some r) (d:x.exm i=false):x.chs (i+1)=x.chs i++[(r,x.role,true)]:=by rw[Ax.chs,h];dsimp only;rw[if_neg (by rw[d];simp)]
def Frm (ks:List (Str×Nat)) (S:List RSt):Prop:=∀ k∈ks.map (·.1),∃ s c,(k,s,c)∈S
theorem Frm.nil {S:List RSt}:Frm [] S:=fun k hk=>by simp at hk
theorem Frm.more {ks:List (Str×Nat)} {S T:List RSt} (h:Frm ks S):Frm ks (S++T):=fun k hk=>by
  obtain⟨s,c,d⟩:=h k hk;exact⟨s,c,List.mem_append_left _ d⟩
theorem Frm.add {ks d:List (Str×Nat)} {S:List RSt} {r s:Str} {e:Bool} (h:Frm ks S) (v:∀ k∈d.map (·.1),k∈ks.map (·.1)∨k=r):Frm d (S++[(r,s,e)]):=fun k hk=>by
 rcases v k hk with m|rfl
 ·obtain⟨t,c,q⟩:=h k m
  exact⟨t,c,List.mem_append_left _ q⟩
 exact⟨s,e,by simp⟩
def sE (S:List RSt) (r s:Str) (c:Bool):Prop:=(r,s,c)∈S
def pt_ (S:List RSt):Prop:=∃ n,Clo (sE S) n
theorem vg_ {α:Type} {l:List α} (h:l.Nodup) {i j:Nat} {x:α} (hi:l[i]? = some x) (k:l[j]? = some x):i=j:=by
 have e:=(List.getElem?_eq_some_iff.1 hi).1;have d:=(List.getElem?_eq_some_iff.1 k).1;have m:=(List.getElem?_eq_some_iff.1 hi).2;have q:=(List.getElem?_eq_some_iff.1 k).2;unfold List.Nodup at h;rw[List.pairwise_iff_getElem]at h;rcases Nat.lt_trichotomy i j with g|g|g
 ·exact absurd (m.trans q.symm) (h i j e d g)
 ·exact g
 exact absurd (q.trans m.symm) (h j i d e g)
structure GrO (S:List RSt) (R:List Str) (G:List (List (Nat×Bool))):Prop where
  len:G.length=R.length
  nd:R.Nodup
  mem:∀ r,r∈R↔∃ s c,(r,s,c)∈S
  row:∀ (i:Nat) (r:Str) (l:List (Nat×Bool)),R[i]? = some r→G[i]? = some l→∀ (j:Nat) (c:Bool),(j,c)∈l↔∃ s,R[j]? = some s∧(∃ c',(r,s,c')∈S)∧c=flg S r s
theorem GrO.to {S:List RSt} {R:List Str} {G:List (List (Nat×Bool))} (h:GrO S R G):∀ (i:Nat) (l:List (Nat×Bool)),G[i]? = some l→∀ s∈l,s.1<G.length:=by
  intro i l hl s k;have d:=(List.getElem?_eq_some_iff.1 hl).1;rw[h.len]at d;obtain⟨t,e,_⟩:=(h.row i _ l (List.getElem?_eq_getElem d) hl s.1 s.2).1 k;rw[h.len];exact (List.getElem?_eq_some_iff.1 e).1
theorem GrO.circ {S:List RSt} {R:List Str} {G:List (List (Nat×Bool))} (h:GrO S R G):pt_ S↔∃ n,Clo (gE G) n:=by
 constructor
 ·rintro ⟨n,f,c,E,H,y,B,e,k⟩
  have P:∀ m,∃ j,m≤n→R[j]? = some (f m):=fun m=>by
    by_cases g:m≤n
    · by_cases N:m<n
      · obtain⟨j,J⟩:=List.getElem?_of_mem ((h.mem (f m)).2 ⟨_,_,y m N⟩)
        exact⟨j,fun _=>J⟩
      · obtain⟨j,J⟩:=List.getElem?_of_mem ((h.mem (f 0)).2 ⟨_,_,y 0 E⟩)
        exact⟨j,fun _=>by rw[show m=n by omega,H];exact J⟩
    · exact⟨0,fun q=>absurd q g⟩
  obtain⟨g,F⟩:=Classical.axiomOfChoice P;refine⟨n,g,fun m=>flg S (f m) (f (m+1)),E,?_,fun m hm=>?_,B,e,?_⟩
  ·have v:=F n (Nat.le_refl _)
   have I:=F 0 (Nat.zero_le _);rw[H]at v;exact vg_ h.nd v I
  ·have v:=F m za_
   have A:g m<G.length:=by rw[h.len];exact (List.getElem?_eq_some_iff.1 v).1
   exact⟨_,List.getElem?_eq_getElem A,(h.row (g m) (f m) _ v (List.getElem?_eq_getElem A) _ _).2 ⟨f (m+1),F (m+1) za_,⟨_,y m hm⟩,rfl⟩⟩
  have:=y B e;rw[k]at this;exact nj_.2 this
 rintro ⟨n,g,c,E,H,y,B,e,k⟩
 have K:∀ m,m<n→∃ d,((R[g m]?).getD [],(R[g (m+1)]?).getD [],d)∈S∧(c m=true→d=true):=fun m hm=>by
   obtain⟨l,hl,M⟩:=y m hm;have C:g m<R.length:=by rw[← h.len];exact (List.getElem?_eq_some_iff.1 hl).1
   obtain⟨s,v,⟨O,I⟩,L⟩:=(h.row (g m) _ l (List.getElem?_eq_getElem C) hl _ _).1 M;rw[List.getElem?_eq_getElem C,v];simp only[Option.getD_some];cases hc:c m
   · exact⟨O,I,fun q=>by cases q⟩
   · rw[hc]at L
     exact⟨true,nj_.1 L.symm,fun _=>rfl⟩
 have x:∀ m,∃ d,m<n→((R[g m]?).getD [],(R[g (m+1)]?).getD [],d)∈S∧(c m=true→d=true):=fun m=>by
   by_cases g:m<n
   · obtain⟨d,x⟩:=K m g
     exact⟨d,fun _=>x⟩
   · exact⟨false,fun q=>absurd q g⟩
 obtain⟨d,x⟩:=Classical.axiomOfChoice x;exact⟨n,fun m=>(R[g m]?).getD [],d,E,by dsimp only;rw[H],fun m hm=>(x m hm).1,B,e,(x B e).2 k⟩
end Go.Vs
namespace Go.Sx
open Go
section
variable {P:Program} {N:Nat} {v0:Vw} {H0:Hp} {R:Exit→Act→World→Prop} {K:List Kt} {fr:Fr} {H F:Hp} {Γ:List Fct}
theorem bP_ {n:Nat}:∀ (K:List Kt) (e:Exit) (a:Act) (w:World),post P R K e a w→ee_ Fence.wide n P R K e a w
 | [],_,_,_,h=>h
 | .seq c::K,.normal,a,w,h=>wpIn_wide.2 (wp_mono h fun e a w d=>bP_ K e a w d)
 | .seq _::K,.exit _,a,w,h=>bP_ K _ a w h
 | .seq _::K,.goto _,a,w,h=>bP_ K _ a w h
 | .seq _::K,.ret,a,w,h=>bP_ K _ a w h
 | .seq _::K,.panic _,a,w,h=>bP_ K _ a w h
 | .seq _::K,.outgrown,a,w,h=>bP_ K _ a w h
 | .inv J::_,.normal,_,_,h=>h
 | .inv _::K,.exit _,a,w,h=>bP_ K _ a w h
 | .inv _::K,.goto _,a,w,h=>bP_ K _ a w h
 | .inv _::K,.ret,a,w,h=>bP_ K _ a w h
 | .inv _::K,.panic _,a,w,h=>bP_ K _ a w h
 | .inv _::K,.outgrown,a,w,h=>bP_ K _ a w h
 | .blk id::K,.exit id',a,w,h=>by
   simp only[ee_,post]at h ⊢
   split
   · rename_i e;rw[if_pos e]at h;exact bP_ K _ a w h
   · rename_i e;rw[if_neg e]at h;exact bP_ K _ a w h
 | .blk _::K,.normal,a,w,h=>bP_ K _ a w h
 | .blk _::K,.goto _,a,w,h=>bP_ K _ a w h
 | .blk _::K,.ret,a,w,h=>bP_ K _ a w h
 | .blk _::K,.panic _,a,w,h=>bP_ K _ a w h
 | .blk _::K,.outgrown,a,w,h=>bP_ K _ a w h
end
end Go.Sx
namespace Go.Sx
open Go
section
variable {P:Program} {N:Nf} {v0:Vw} {H0:Hp} {R:Exit→Act→World→Prop} {K:List Kt} {fr:Fr} {H F:Hp} {Γ:List Fct} {ops:Array Oper} {l:List Oper} {d:Nat} {ty:TypeId} {ps:String} {af:Array Edge} {e:TypeId} {sz n:Nat} {sv:Value} {xs:List Value} {Hr:Hp}
theorem vj_ (z:List Value) (h:0<z.length) (n:Nat):madeCells z.toArray (n*z.length)=(iS_ z n).toArray:=jk_ z h n
theorem qg_ {t:TypeId} {x y:Operand} {by':Nat} {z:Value} (J:P.underlying t=some (.slice e)) (hi:(P.info? e).map (fun i=>(i.zero,i.size,i.bytes))=some (some z,sz,by')) (k:z.cells.toList.length=sz) (G:0<sz) (I:Fr.ev fr x=some (.int .i64 (n:Int))) (C:Fr.ev fr y=some (.int .i64 (n:Int)))
    (L:by'*n≤281474976710656) (m:n≤maxLen) (E:Nat.blt d N.n=true)
    (hk:∀ sv Hr,aw_ e sz sv n (iS_ z.cells.toList n) Hr→Ops P R N v0 H0 ops l K ((d,sv)::fr) (Hr++H) Γ):Ops P R N v0 H0 ops (⟨some d,.makeSlice t x y,ty,ps,af,none⟩::l) K fr H Γ:=by
  refine gp_ (x:=fun b=>.slice (some ⟨b,0,none⟩) n n) (o:=.cells (iS_ z.cells.toList n).toArray e (0,0)) E (fun a v B _ _=>?_) (fun b=>hk _ [(b,.cells (iS_ z.cells.toList n).toArray e (0,0))] ⟨?_,.inr ⟨b,n,(iS_ z.cells.toList n).toArray,rfl,rfl,Nat.le_refl _,m,?_,?_⟩⟩)
  · cases h:P.info? e with
    | none=>rw[h]at hi;cases hi
    | some i =>
      rw[h]at hi;simp only[Option.map_some,Option.some.injEq,Prod.mk.injEq]at hi
      have q:(i.bytes:Int)*(n:Int)≤281474976710656:=by
        rw[hi.2.2];have h:((by'*n:Nat):Int)≤281474976710656:=by omega
        rwa [Int.natCast_mul]at h
      have A:=run_make (P:=P) v.w t e i z J h hi.1 .i64 .i64 (n:Int) (n:Int) za_ (Int.le_refl _) q (by simp only[maxLen]at m;omega);have hm:=vj_ z.cells.toList za_ n;rw[k,Array.toArray_toList]at hm;rw[hi.2.1,Int.toNat_natCast,hm]at A;simp only[execOp,B.ev I,B.ev C];simp[A]
  · rw[hX_,k]
  · simp only[List.size_toArray];rw[hX_,k]
  · rw[List.toList_toArray,List.take_of_length_le (by rw[hX_,k];exact Nat.le_refl _)]
theorem pu_ {α:Type} (f:α→List Value) (z:α):∀ n,iS_ (f z) n=(List.replicate n z).flatMap f
  | 0=>rfl
  | n+1=>by rw[iS_,List.replicate_succ,List.flatMap_cons,pu_ f z n]
end
end Go.Sx
namespace Go.Vs
open Go Go.Sx
def Ky.cells (k:Ky):List Value:=[.int .i64 k.kind,str k.role,str k.atom]
def Ky.val (k:Ky):Value:=.agg k.cells.toArray
def pN_ (s:jw_):List Value:=[str s.1,str s.2]
def hG_ (s:jw_):Value:=.agg (pN_ s).toArray
def Ky.eqb (p q:Ky):Bool:=(p.kind==q.kind)&&((p.role==q.role)&&((p.atom==q.atom)&&true))
theorem Ky.eqb_eq (p q:Ky):p.eqb q=decide (p=q):=by
  rw[Bool.eq_iff_iff];cases p;cases q;simp[Ky.eqb]
def yi_ (p q:jw_):Bool:=(p.1==q.1)&&((p.2==q.2)&&true)
theorem uB_ (p q:jw_):yi_ p q=decide (p=q):=by
  rw[Bool.eq_iff_iff];cases p;cases q;simp[yi_]
theorem Fc.cells_one (p:Fc):p.cells.all Value.oneCell'=true:=rfl
end Go.Vs
namespace Go.Sx
open Go Go.Vs
structure Emt (P:Program) (tF:TypeId) where
  stp:Fc→List Fc→List Fc
  kof:List Fc→List Fc
  St:List Fc→List Fc→Hp→Prop
  fn:FuncId
  caps:List Value
  ef:Fct
  kb:Nat
  fb:Nat
  grows:Grows stp kof
  emit:∀ f nw fm H,St nw fm H→Tri P fn (f.val::caps).toArray H [ef] (fun _:{H':Hp // St (stp f nw) fm H'}=>.tuple #[]) (fun y=>y.1) (fun _=>[])
  known:∀ {nw fm H},St nw fm H→∃ es c,(kb,Obj.map es c)∈H∧SetE Fc.val es (kof nw)
  firm:∀ {nw fm H},St nw fm H→∃ es c q,(fb,Obj.map es c)∈H∧SetE Fc.val es q∧∀ f,f∈q↔f∈fm
  setf:∀ {nw fm H} (f:Fc),St nw fm H→∃ es c q Hr,H.Perm ((fb,Obj.map es c)::Hr)∧SetE Fc.val es q∧(∀ f,f∈q↔f∈fm)∧∀ es' c',SetE Fc.val es' (if f∈q then q else q++[f])→∃ H',St nw (f::fm) H'∧H'.Perm ((fb,Obj.map es' c')::Hr)
section
variable {P:Program} {N:Nf} {v0:Vw} {H0:Hp} {R:Exit→Act→World→Prop} {K:List Kt} {fr:Fr} {H:Hp} {Γ:List Fct}
variable {ops:Array Oper} {l:List Oper} {d:Nat} {ty:TypeId} {ps:String} {af:Array Edge} {tF:TypeId} {E:Emt P tF} {nw fm:List Fc} {Hs F:Hp}
theorem mG_ {b:Nat} {o:Obj} {v:Vw} (e:H.Perm (Hs++F)) (hm:(b,o)∈Hs) (h:v.sat H):v.w.heap[b]? = some o:=(h.own _ (e.mem_iff.2 (List.mem_append_left _ hm))).1
theorem iz_ {t e:TypeId} {x y:Operand} {f:Fc} (hS:E.St nw fm Hs) (I:KeyT P tF Fc.val) (m:∀ w,(underlying t).run P w=.ok (.map tF e) w) (k:∀ w,(zeroValue e).run P w=.ok (.bool false) w) (C:Fr.ev fr x=some (.map (some E.kb))) (q:Fr.ev fr y=some f.val) (A:H.Perm (Hs++F)) :
    Yld P N fr H Γ (.lookup t x y false) ty (.bool (decide (f∈E.kof nw))):=by
  obtain⟨es,c,B,G⟩:=E.known hS;exact bs_ I m k C q G fun v h _=>mG_ A B h
theorem pA_ {t k:TypeId} {x y:Operand} {f:Fc} (hS:E.St nw fm Hs) (M:KeyT P tF Fc.val) (A:∀ w,(underlying t).run P w=.ok (.map tF k) w) (m:∀ w,(zeroValue k).run P w=.ok (.bool false) w) (I:Fr.ev fr x=some (.map (some E.fb))) (B:Fr.ev fr y=some f.val) (C:H.Perm (Hs++F)) :
    Yld P N fr H Γ (.lookup t x y false) ty (.bool (decide (f∈fm))):=by
  obtain⟨es,c,q,G,J,L⟩:=E.firm hS;have:=bs_ (P:=P) (N:=N) (H:=H) (Γ:=Γ) (ty:=ty) M A m I B J fun v h _=>mG_ C G h
  have e:decide (f∈q)=decide (f∈fm):=by rw[decide_eq_decide];exact L f
  rw[← e];exact this
theorem vb_ {o:Op} {t I:TypeId} {x y z:Operand} {f:Fc} (hS:E.St nw fm Hs) (S:KeyT P tF Fc.val) (L:o=.insert t x y z∨o=.mapUpdate t x y z) (m:∀ w,(underlying t).run P w=.ok (.map tF I) w)
    (G:Fr.ev fr x=some (.map (some E.fb))) (k:Fr.ev fr y=some f.val) (v:Fr.ev fr z=some (.bool true)) (B:H.Perm (Hs++F))
    (hk:∀ Hs',E.St nw (f::fm) Hs'→Ops P R N v0 H0 ops l K fr (Hs'++F) Γ):Ops P R N v0 H0 ops (⟨none,o,ty,ps,af,none⟩::l) K fr H Γ:=by
  obtain⟨es,c,q,Hr,C,M,T,O⟩:=E.setf f hS;refine z_ (H':=(E.fb,.map es c)::(Hr++F)) (B.trans (by have:=C.append_right F;simpa using this)) ?_;refine mK_ 0 S L m G k v rfl M fun h Q e=>?_;obtain⟨H',A,J⟩:=O h Q e;simp only[List.set_cons_zero];exact z_ (by have:=(J.append_right F).symm;simpa using this) (hk H' A)
end
structure EngB where
  g:Nat
  pb:Nat
  ab:Nat
  ub:Nat
  ob:Nat
  ib:Nat
  rb:Nat
  sb:Nat
  lad:Option Addr
  lcap:Nat
  lps:List Str
structure EngA where
  p:Ky→Option Addr×Nat
  a:Str→Option Addr×Nat
  u:Str→Option Addr×Nat
  o:jw_→Option Addr×Nat
  i:jw_→Option Addr×Nat
  r:jw_→Option Addr×Nat
  s:jw_→Option Addr×Nat
def EngB.cells (B:EngB) {P:Program} {tF:TypeId} (E:Emt P tF):List Value :=
  [.map (some B.pb),.slice B.lad B.lps.length B.lcap,.map (some E.kb),.func (.func E.fn) #[] E.caps.toArray,.map (some B.ab),.map (some B.ub),.map (some B.ob),.map (some B.ib),.map (some B.rb),.map (some B.sb),.map (some E.fb)]
structure IxH where
  a:Hp
  u:Hp
  o:Hp
  i:Hp
  r:Hp
  s:Hp
def IxO (tS tF:TypeId) (B:EngB) (x:Ix) (y:IxH):Prop :=
  cS_ str af_ tS 1 x.above B.ab y.a∧cS_ str af_ tS 1 x.under B.ub y.u∧cS_ hG_ af_ tS 1 x.frm B.ob y.o∧cS_ hG_ af_ tS 1 x.into B.ib y.i∧cS_ hG_ Fc.cells tF 6 x.ranges B.rb y.r∧cS_ hG_ Fc.cells tF 6 x.firms B.sb y.s
end Go.Sx
