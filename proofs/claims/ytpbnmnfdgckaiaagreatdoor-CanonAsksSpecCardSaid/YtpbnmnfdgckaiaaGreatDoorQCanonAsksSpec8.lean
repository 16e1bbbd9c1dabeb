/-
  Part of the proof of the law CanonAsksSpec over this seat: the small logic, the data, the contracts of functions (no condition).
-/
import Derived.Test.YtpbnmnfdgckaiaaGreatDoorQCanonAsksSpec7
import Derived.Test.YtpbnmnfdgckaiaaGreatDoorQCanonAsksSpec1
import Derived.Scope
import Derived.Test.YtpbnmnfdgckaiaaGreatDoorQCanonAsksSpec6
import Derived.Lib.Join
import Derived.Lib.AppendZeros
import Derived.Test.YtpbnmnfdgckaiaaGreatDoorQCanonAsksSpec2
import Derived.Test.YtpbnmnfdgckaiaaGreatDoorQCanonAsksSpec3
import Derived.Maps.RangeRun
import Derived.WalkSpells
set_option linter.unusedVariables false
set_option linter.unusedSimpArgs false
set_option linter.unusedSectionVars false
set_option maxHeartbeats 1000000
namespace Go.Sx
open Go Go.Vs
theorem qe_ {P:Program} {f:FuncId} {args:Array Value} {H:Hp} {Γ Q:List Fct} {ι:Type} {F:ι→Value} {H':ι→Hp} (B:Hp) (M:Tri P f args H Γ F H' (fun _=>[]))
    (U:∀ v:Vw,(∀ p∈B,v.im p.1∧v.w.heap[p.1]? = some p.2)→ac_ Q v→ac_ Γ v):Tri P f args (B++H) Q F (fun x=>B++H' x) (fun _=>[]):=by
  refine⟨M.callable,fun v E S=>?_⟩;have C:=E.nodup;rw[List.map_append,List.nodup_append]at C;have J:∀ p∈B,p.1<v.w.heap.size:=fun p q=>(Array.getElem?_eq_some_iff.1 (E.own p (List.mem_append_left _ q)).1).1
  have O:(⟨fun b=>v.im b∨b∈B.map Prod.fst,v.w,v.sl⟩:Vw).sat H:=by
    refine⟨fun p q=>⟨(E.own p (List.mem_append_right _ q)).1,fun hi=>?_⟩,C.2.1,fun b y=>?_⟩
    · rcases hi with hi|hi
      · exact (E.own p (List.mem_append_right _ q)).2 hi
      · exact C.2.2 _ hi _ (List.mem_map_of_mem q) rfl
    · rcases y with y|y
      · exact E.lt b y
      · obtain⟨p,q,rfl⟩:=List.mem_map.1 y
        exact J p q
  have L:v.le ⟨fun b=>v.im b∨b∈B.map Prod.fst,v.w,v.sl⟩:=⟨fun b h=>.inl h,fun _ _=>rfl,rfl⟩;have W:=U ⟨fun b=>v.im b∨b∈B.map Prod.fst,v.w,v.sl⟩ (fun p q=>⟨.inr (List.mem_map_of_mem q),(E.own p (List.mem_append_left _ q)).1⟩) (an_ L S);refine (M.run _ O W).mono ?_;rintro e w' ⟨x,I,rfl,rfl,G,_,A⟩;have hB:∀ b,b∈B.map Prod.fst→I.im b:=fun b y=>A.imUp b (.inr y)
  refine⟨x,⟨fun b=>I.im b∧b ∉ B.map Prod.fst,I.w,I.sl⟩,rfl,rfl,⟨fun p q=>?_,?_,fun b y=>G.lt b y.1⟩,trivial,?_⟩
  · rcases List.mem_append.1 q with q|q
    · refine⟨?_,fun h=>h.2 (List.mem_map_of_mem q)⟩
      have:=(A.le O).block p.1 (.inr (List.mem_map_of_mem q));exact this.trans (E.own p (List.mem_append_left _ q)).1
    · exact⟨(G.own p q).1,fun h=>(G.own p q).2 h.1⟩
  · rw[List.map_append,List.nodup_append]
    refine⟨C.1,G.nodup,fun a T b y e=>?_⟩;subst e;obtain⟨p,q,rfl⟩:=List.mem_map.1 y;exact (G.own p q).2 (hB _ T)
  · refine⟨A.os,A.tape,A.output,A.size,fun b y V=>A.block b y (fun hm=>V ?_),fun b y=>⟨A.imUp b (.inl y),fun hm=>?_⟩,fun b y=>?_,fun b y=>?_,A.sl,A.dr⟩
    · rw[List.map_append];exact List.mem_append_right _ hm
    · obtain⟨p,q,rfl⟩:=List.mem_map.1 hm
      exact (E.own p (List.mem_append_left _ q)).2 y
    · rcases A.imNew b y.1 with (h|h)|h|h
      · exact .inl h
      · exact absurd h y.2
      · exact .inr (.inl (by rw[List.map_append];exact List.mem_append_right _ h))
      · exact .inr (.inr h)
    · rw[List.map_append]at y ⊢
      rcases List.mem_append.1 y with h|h
      · exact .inl (List.mem_append_left _ h)
      · exact (A.hNew b h).imp (List.mem_append_right _) id
structure KeyT (P:Program) (kt:TypeId) {K:Type} [DecidableEq K] (kv:K→Value):Prop where
  ok:∀ k,hb_ P kt (kv k)
  nf:∀ (k:K) (es:List MapEntry) (ks:List K),es.map (·.key)=ks.map kv→k ∉ ks→dq_ P kt (kv k) es none
  sf:∀ (k:K) (es:List MapEntry) (ks:List K) (i:Nat) (e:MapEntry),es.map (·.key)=ks.map kv→ks.Nodup→ks[i]? = some k→es[i]? = some e→dq_ P kt (kv k) es (some (i,e.val))
  same:∀ k,Instr.sameBits 10000 (kv k) (kv k)=true
section
variable {P:Program}
theorem nQ_ (a b:List UInt8):((⟨a.toArray⟩:ByteArray)==⟨b.toArray⟩)=decide (a=b):=by
  show (a.toArray==b.toArray)=_
  rw[Bool.eq_iff_iff];simp
theorem qQ_ {kt:TypeId} (E:P.underlying kt=some .string):KeyT P kt str where
  ok:=fun k e w=>by
    have key:∀ m,(Instr.checkKey e (m+1) kt (str k)).run P w=.ok () w:=fun m=>by simp[Instr.checkKey,run_underlying E,str]
    exact key 9999
  nf:=fun k es ks h hk=>aK_ E (by
    have:∀ (ks:List Str) (es:List MapEntry) (i:Nat),es.map (·.key)=ks.map str→k ∉ ks→Instr.findNow .string (str k) es i=some none:=by
      intro ks
      induction ks with
      | nil => intro es i h _; have : es = [] := by simpa using h
               subst this;rfl
      | cons q ks ih =>
        intro es i h hk;cases es with
        | nil=>simp at h
        | cons e es =>
          simp only[List.map_cons,List.cons.injEq]at h;simp only[List.mem_cons,not_or]at hk
          have B:Instr.sameNow .string (str k) e.key=some false:=by
            rw[h.1];show some ((⟨k.toArray⟩:ByteArray)==⟨q.toArray⟩)=some false
            rw[nQ_,decide_eq_false hk.1]
          simp only[Instr.findNow,B];exact ih es (i+1) h.2 hk.2
    exact this ks es 0 h hk)
  sf:=fun k es ks i e h A hi y=>aK_ E (by
    have:∀ (ks:List Str) (es:List MapEntry) (j i:Nat),es.map (·.key)=ks.map str→ks.Nodup→ks[i]? = some k→es[i]? = some e→Instr.findNow .string (str k) es j=some (some (j+i,e.val)):=by
      intro ks
      induction ks with
      | nil=>intro es j i _ _ h;simp at h
      | cons q ks ih =>
        intro es j i h A hi y;cases es with
        | nil=>simp at h
        | cons x es =>
          simp only[List.map_cons,List.cons.injEq]at h;rw[List.nodup_cons]at A;cases i with
          | zero =>
            simp only[List.getElem?_cons_zero,Option.some.injEq]at hi y;subst hi;subst y
            have B:Instr.sameNow .string (str q) x.key=some true:=by
              rw[h.1];show some ((⟨q.toArray⟩:ByteArray)==⟨q.toArray⟩)=some true
              rw[nQ_,decide_eq_true rfl]
            simp only[Instr.findNow,B,Nat.add_zero]
          | succ i =>
            simp only[List.getElem?_cons_succ]at hi y;have C:k≠q:=fun e=>A.1 (e▸List.mem_of_getElem? hi)
            have B:Instr.sameNow .string (str k) x.key=some false:=by
              rw[h.1];show some ((⟨k.toArray⟩:ByteArray)==⟨q.toArray⟩)=some false
              rw[nQ_,decide_eq_false C]
            simp only[Instr.findNow,B];rw[ih es (j+1) i h.2 A.2 hi y,show j+1+i=j+(i+1) by omega]
    have:=this ks es 0 i h A hi y;rwa [Nat.zero_add]at this)
  same:=fun k=>by
    have key:∀ m,Instr.sameBits m (str k) (str k)=true:=fun m=>by
      cases m<;>(show ((⟨k.toArray⟩:ByteArray)==⟨k.toArray⟩)=true;rw[nQ_,decide_eq_true rfl])
    exact key 10000
theorem ft_ {K:Type} [DecidableEq K] {kt:TypeId} {fs:Array Field} {kv:K→Value} (I:P.underlying kt=some (.struct fs)) (F:∀ k,hb_ P kt (kv k)) (y:∀ p q w,(Op.equal kt (kv p) (kv q)).run P w=.ok (decide (p=q)) w) (A:∀ k,Instr.sameBits 10000 (kv k) (kv k)=true):KeyT P kt kv where
  ok:=F
  nf:=fun k es ks h hk=>(hB_ I y k ks es h).1 hk
  sf:=fun k es ks i e h C hi B=>by
    have key:∀ (ks:List K) (es:List MapEntry) (j i:Nat),es.map (·.key)=ks.map kv→ks.Nodup→ks[i]? = some k→es[i]? = some e→∀ w,(Instr.findAsking kt (kv k) es j).run P w=.ok (some (j+i,e.val)) w:=by
      intro ks
      induction ks with
      | nil=>intro es j i _ _ h;simp at h
      | cons q ks ih =>
        intro es j i h C hi B w;cases es with
        | nil=>simp at h
        | cons x es =>
          simp only[List.map_cons,List.cons.injEq]at h;rw[List.nodup_cons]at C;cases i with
          | zero =>
            simp only[List.getElem?_cons_zero,Option.some.injEq]at hi B;subst hi;subst B;simp only[Instr.findAsking,Sem.run_bind,h.1,y,Result.andThen_ok,decide_true,if_true,Sem.run_pure,Nat.add_zero]
          | succ i =>
            simp only[List.getElem?_cons_succ]at hi B;have G:k≠q:=fun e=>C.1 (e▸List.mem_of_getElem? hi)
            simp only[Instr.findAsking,Sem.run_bind,h.1,y,Result.andThen_ok,G,decide_false,Bool.false_eq_true,if_false];rw[ih es (j+1) i h.2 C.2 hi B w,show j+1+i=j+(i+1) by omega]
    intro w;have E:∀ (x:MapEntry) (r:List MapEntry),Instr.findNow (.struct fs) (kv k) (x::r) 0=none:=fun x r=>by simp[Instr.findNow,Instr.sameNow]
    cases es with
    | nil=>simp at B
    | cons x r =>
      simp only[Instr.findKey,Sem.run_bind,run_underlying I,Result.andThen_ok,E];have:=key ks (x::r) 0 i h C hi B w;rwa [Nat.zero_add]at this
  same:=A
end
theorem en_ (n:Nat) {k:IntKind} (i:Int):Instr.sameBits n (.int k i) (.int k i)=true:=by
  cases n<;>simp[Instr.sameBits]
theorem di_ (n:Nat) (s:List UInt8):Instr.sameBits n (str s) (str s)=true:=by
  cases n<;>(show ((⟨s.toArray⟩:ByteArray)==⟨s.toArray⟩)=true;rw[nQ_,decide_eq_true rfl])
theorem ik_ {n:Nat} {l:List Value} (h:∀ v∈l,Instr.sameBits n v v=true):Instr.sameBits (n+1) (.agg l.toArray) (.agg l.toArray)=true:=by
 simp only[Instr.sameBits,BEq.rfl,Bool.true_and,List.all_eq_true];intro p q
 have:∀ (l:List Value),(∀ v∈l,Instr.sameBits n v v=true)→∀ p∈l.zip l,Instr.sameBits n p.1 p.2=true:=by
   intro l
   induction l with
   | nil=>intro _ p q;simp at q
   | cons a l ih =>
     intro h p q;simp only[List.zip_cons_cons,List.mem_cons]at q;rcases q with rfl|q
     · exact h a zj_
     · exact ih (fun v x=>h v (by simp[x])) p q
 exact this l h p q
structure Born (es:Array MapEntry) (c:Nat):Prop where
  lt:∀ x∈es.toList,x.born<c
  nd:(es.toList.map (·.born)).Nodup
theorem Born.nil (c:Nat):Born #[] c:=⟨by simp,by simp⟩
theorem Born.push {es:Array MapEntry} {c:Nat} (h:Born es c) (y val:Value):Born (es.push ⟨y,val,c⟩) (c+1):=by
 refine⟨fun x q=>?_,?_⟩
 ·rw[Array.toList_push,List.mem_append]at q
  rcases q with q|q
  ·exact Nat.lt_succ_of_lt (h.lt x q)
  rw[List.mem_singleton]at q;rw[q];exact Nat.lt_succ_self _
 rw[Array.toList_push,List.map_append,List.nodup_append];refine⟨h.nd,by simp,fun a A b B e=>?_⟩;obtain⟨x,q,rfl⟩:=List.mem_map.1 A;simp at B
 have:=h.lt x q;omega
theorem Born.modify {es:Array MapEntry} {c:Nat} (h:Born es c) (i:Nat) (f:MapEntry→MapEntry) (A:∀ e,(f e).born=e.born):Born (es.modify i f) c:=by
 have q:(es.modify i f).toList.map (·.born)=es.toList.map (·.born):=by
   apply List.ext_getElem?
   intro j;simp only[List.getElem?_map,Array.getElem?_toList,Array.getElem?_modify]
   split
   · cases es[j]? <;> simp[A]
   · rfl
 refine⟨fun x B=>?_,by rw[q];exact h.nd⟩;have:x.born∈(es.modify i f).toList.map (·.born):=List.mem_map_of_mem B;rw[q]at this;obtain⟨y,C,e⟩:=List.mem_map.1 this;rw[← e];exact h.lt y C
theorem Born.find {es:Array MapEntry} {c i:Nat} {x:MapEntry} (h:Born es c) (A:es[i]? = some x):es.findIdx? (fun e=>(e.born:Int)==(x.born:Int))=some i:=by
  rw[Array.findIdx?_eq_some_iff_getElem];obtain⟨hi,rfl⟩:=Array.getElem?_eq_some_iff.1 A;refine⟨hi,by simp,fun j y=>?_⟩;simp only[beq_eq_false_iff_ne,ne_eq,Bool.not_eq_true];intro e;have q:j<es.size:=Nat.lt_trans y hi;have:=h.nd;rw[List.nodup_iff_pairwise_ne,List.pairwise_iff_getElem]at this;have:=this j i zah_ (by simpa using hi) y;simp at this
  exact this (by exact_mod_cast e)
section
variable {K D:Type} [DecidableEq K] (kv:K→Value) (cells:D→List Value) (e:TypeId) (sz:Nat) (l:List (K×D))
def ha_:List K→List MapEntry→Hp→Prop
  | [],[],H=>H=[]
  | k::ks,x::es,H=>∃ Hk Hr,H=Hk++Hr∧x.key=kv k∧ax_ e sz x.val (lat l k).length ((lat l k).flatMap cells) Hk∧ha_ ks es Hr
  | _,_,_=>False
def cS_ (mb:Nat) (H:Hp):Prop:=∃ ks es c Hr,H=(mb,.map es c)::Hr∧ks.Nodup∧(∀ x∈l,x.1∈ks)∧ha_ kv cells e sz l ks es.toList Hr∧Born es c
end
section
variable {K D:Type} [DecidableEq K] {kv:K→Value} {cells:D→List Value} {e:TypeId} {sz:Nat} {l:List (K×D)}
theorem ha_.keys:∀ {ks:List K} {es:List MapEntry} {H:Hp},ha_ kv cells e sz l ks es H→es.map (·.key)=ks.map kv
  | [],[],_,_=>rfl
  | k::ks,x::es,_,h=>by
    obtain⟨A,Hr,_,y,_,q⟩:=h;simp[y,q.keys]
  | [],_::_,_,h=>h.elim
  | _::_,[],_,h=>h.elim
theorem ha_.congr {y:List (K×D)}:∀ {ks:List K} {es:List MapEntry} {H:Hp},(∀ k∈ks,lat y k=lat l k)→ha_ kv cells e sz l ks es H→ha_ kv cells e sz y ks es H
  | [],[],_,_,h=>h
  | k::ks,x::es,_,hl,h=>by
    obtain⟨G,Hr,E,C,F,B⟩:=h;exact⟨G,Hr,E,C,by rw[hl k zj_];exact F,B.congr fun q A=>hl q (by simp[A])⟩
  | [],_::_,_,_,h=>h.elim
  | _::_,[],_,_,h=>h.elim
theorem ha_.get : ∀ {ks : List K} {es : List MapEntry} {H : Hp} {i : Nat} {k : K}, ha_ kv cells e sz l ks es H → ks.Nodup → ks[i]? = some k → ∃ x C Hr, es[i]? = some x ∧ H.Perm (C ++ Hr) ∧ x.key = kv k ∧ ax_ e sz x.val (lat l k).length ((lat l k).flatMap cells) C ∧
      ∀ (B:List (K×D)) (y:MapEntry) (A:Hp),y.key=kv k→(∀ q,q≠k→lat B q=lat l q)→ax_ e sz y.val (lat B k).length ((lat B k).flatMap cells) A→∃ H',ha_ kv cells e sz B ks (es.set i y) H'∧H'.Perm (A++Hr)
  | [],_,_,_,_,_,_,h=>by simp at h
  | _::_,[],_,_,_,h,_,_=>h.elim
  | q::ks,x::es,H,0,k,h,hn,hi=>by
    simp only[List.getElem?_cons_zero,Option.some.injEq]at hi;subst hi;rw[List.nodup_cons]at hn;obtain⟨C,Hr,O,G,Q,L⟩:=h;exact⟨x,C,Hr,rfl,O▸.refl _,G,Q,fun B y A M F I=>⟨A++Hr,⟨A,Hr,rfl,M,I,L.congr fun z U=>F z (fun e=>hn.1 (e▸U))⟩,.refl _⟩⟩
  | q::ks,x::es,H,i+1,k,h,hn,hi=>by
    simp only[List.getElem?_cons_succ]at hi;rw[List.nodup_cons]at hn;obtain⟨E,Ho,O,G,Q,L⟩:=h;obtain⟨y,C,Hr,X,V,W,Y,Z⟩:=L.get hn.2 hi;have J:q≠k:=fun e=>hn.1 (e▸List.mem_of_getElem? hi)
    refine⟨y,C,E++Hr,X,?_,W,Y,fun B z A M F I=>?_⟩
    · rw[O]
      refine (List.Perm.append_left E V).trans ?_;rw[← List.append_assoc,← List.append_assoc];exact List.perm_append_comm.append_right _
    · obtain⟨H',T,S⟩:=Z B z A M F I
      refine⟨E++H',⟨E,H',rfl,G,by rw[F q J];exact Q,T⟩,(List.Perm.append_left E S).trans ?_⟩;rw[← List.append_assoc,← List.append_assoc];exact List.perm_append_comm.append_right _
theorem ha_.push:∀ {ks:List K} {es:List MapEntry} {H:Hp} {k:K} {x:MapEntry} {Hk:Hp},ha_ kv cells e sz l ks es H→x.key=kv k→ax_ e sz x.val (lat l k).length ((lat l k).flatMap cells) Hk→ha_ kv cells e sz l (ks++[k]) (es++[x]) (H++Hk)
  | [],[],_,k,x,Hk,h,h1,h2=>by subst h;exact⟨Hk,[],by simp,h1,h2,rfl⟩
  | q::ks,y::es,_,k,x,Hk,h,h1,h2=>by
    obtain⟨E,Hr,rfl,C,B,A⟩:=h;exact⟨E,Hr++Hk,by simp,C,B,A.push h1 h2⟩
  | [],_::_,_,_,_,_,h,_,_=>h.elim
  | _::_,[],_,_,_,_,h,_,_=>h.elim
theorem iP_ {k q:K} {d:D} (h:q≠k):lat (l++[(k,d)]) q=lat l q:=by
  rw[ns_];simp[lat,Ne.symm h]
theorem ef_ {k:K} {d:D}:lat (l++[(k,d)]) k=lat l k++[d]:=by
  rw[ns_];simp[lat]
theorem cS_.open {P:Program} {kt:TypeId} (U:KeyT P kt kv) {C:Nat} {H:Hp} (h:cS_ kv cells e sz l C H) (k:K) :
    ∃ es c sv J Hr,H.Perm ((C,.map es c)::(J++Hr))∧ax_ e sz sv (lat l k).length ((lat l k).flatMap cells) J ∧
      ((dq_ P kt (kv k) es.toList none∧sv=.slice none 0 0∧∀ d sv' A,ax_ e sz sv' (lat (l++[(k,d)]) k).length ((lat (l++[(k,d)]) k).flatMap cells) A→∃ H',cS_ kv cells e sz (l++[(k,d)]) C H'∧H'.Perm ((C,.map (es.push ⟨kv k,sv',c⟩) (c+1))::(A++Hr))) ∨
       (∃ i x,dq_ P kt (kv k) es.toList (some (i,sv))∧es[i]? = some x∧x.key=kv k∧x.val=sv∧∀ d sv' A,ax_ e sz sv' (lat (l++[(k,d)]) k).length ((lat (l++[(k,d)]) k).flatMap cells) A→∃ H',cS_ kv cells e sz (l++[(k,d)]) C H'∧H'.Perm ((C,.map (es.modify i fun y=>{ y with key:=kv k,val:=sv' }) c)::(A++Hr)))):=by
  obtain⟨ks,es,c,V,rfl,I,hl,hm,E⟩:=h
  by_cases hk:k∈ks
  · obtain⟨i,hi⟩:=List.getElem?_of_mem hk
    obtain⟨x,J,Hr,M,g2,g3,W,Z⟩:=hm.get I hi;have T:es[i]? = some x:=by rw[← Array.getElem?_toList];exact M
    refine⟨es,c,x.val,J,Hr,.cons _ g2,W,.inr ⟨i,x,U.sf k es.toList ks i x hm.keys I hi M,T,g3,rfl,fun d sv' A Q=>?_⟩⟩;obtain⟨H',X,j2⟩:=Z (l++[(k,d)]) { x with key:=kv k,val:=sv' } A rfl (fun q O=>iP_ O) Q;refine⟨(C,.map (es.modify i fun y=>{ y with key:=kv k,val:=sv' }) c)::H',⟨ks,_,c,H',rfl,I,fun y B=>?_,?_,E.modify i _ fun _=>rfl⟩,.cons _ j2⟩
    · rcases List.mem_append.1 B with B|B
      · exact hl y B
      · simp at B;rw[B];exact hk
    · have e1:(es.modify i fun y=>{ y with key:=kv k,val:=sv' }).toList=es.toList.set i { x with key:=kv k,val:=sv' }:=by
        apply List.ext_getElem?
        intro j;rw[Array.getElem?_toList,Array.getElem?_modify,List.getElem?_set,Array.getElem?_toList]
        by_cases G:i=j
        · subst G
          have L:i<es.toList.length:=(List.getElem?_eq_some_iff.1 M).1;simp only[if_true,T,Option.map_some,if_pos L]
        · simp[G]
      rw[e1];exact X
  · have F:lat l k=[]:=by
      apply List.eq_nil_iff_forall_not_mem.2
      intro d Y;exact hk (hl _ (bN_.1 Y))
    refine⟨es,c,.slice none 0 0,[],V,.refl _,by rw[F];exact ax_.nil _ _,.inl ⟨U.nf k es.toList ks hm.keys hk,rfl,fun d sv' A Q=>?_⟩⟩;refine⟨(C,.map (es.push ⟨kv k,sv',c⟩) (c+1))::(V++A),⟨ks++[k],_,_,_,rfl,?_,fun y B=>?_,?_,E.push _ _⟩,.cons _ List.perm_append_comm⟩
    · rw[List.nodup_append];exact⟨I,by simp,fun a ha b S e=>by simp at S;subst S;subst e;exact hk ha⟩
    · rcases List.mem_append.1 B with B|B
      · exact List.mem_append_left _ (hl y B)
      · simp at B;simp[B]
    · rw[Array.toList_push]
      exact (hm.congr fun q O=>iP_ (fun (e:q=k)=>hk (e▸O))).push rfl Q
structure MOpn (kv:K→Value) (cells:D→List Value) (e:TypeId) (sz:Nat) (l:List (K×D)) (mb:Nat) (k:K) (es:Array MapEntry) (c i:Nat) (st:Int) (Hr:Hp):Prop where
  find:es.findIdx? (fun x=>(x.born:Int)==st)=some i
  close:∀ d sv' Hk',ax_ e sz sv' (lat (l++[(k,d)]) k).length ((lat (l++[(k,d)]) k).flatMap cells) Hk'→∃ H',cS_ kv cells e sz (l++[(k,d)]) mb H'∧H'.Perm ((mb,.map (es.modify i fun y=>{ y with val:=sv' }) c)::(Hk'++Hr))
theorem rY_ {es:Array MapEntry} {i:Nat} {x:MapEntry} {key:Value} (q:es[i]? = some x) (hk:x.key=key):(es.modify i fun y=>{ y with key:=key })=es:=by
 apply Array.ext_getElem?
 intro j;rw[Array.getElem?_modify]
 by_cases h:i=j
 ·subst h;rw[if_pos rfl,q];simp only[Option.map_some];rw[← hk]
 rw[if_neg h]
theorem cS_.entry {P:Program} {kt:TypeId} (hK:KeyT P kt kv) {J:Nat} {H:Hp} (h:cS_ kv cells e sz l J H) (k:K) :
    ∃ es c E V i st sv O Hr,H.Perm ((J,.map es c)::(O++Hr))∧ax_ e sz sv (lat l k).length ((lat l k).flatMap cells) O∧MOpn kv cells e sz l J k E V i st Hr ∧
      ((dq_ P kt (kv k) es.toList none∧sv=.slice none 0 0∧E=es.push ⟨kv k,.slice none 0 0,c⟩∧V=c+1∧st=(c:Int))∨(∃ j x,dq_ P kt (kv k) es.toList (some (j,sv))∧es[j]? = some x∧x.key=kv k∧E=es∧V=c∧st=(x.born:Int))):=by
  have h0:=h;obtain⟨ks,es,c,Ho,rfl,M,hl,hm,B⟩:=h0
  by_cases hk:k∈ks
  · obtain⟨i,hi⟩:=List.getElem?_of_mem hk
    obtain⟨x,O,Hr,U,g2,Z,g4,g5⟩:=hm.get M hi;have T:es[i]? = some x:=by rw[← Array.getElem?_toList];exact U
    refine⟨es,c,es,c,i,x.born,x.val,O,Hr,.cons _ g2,g4,⟨B.find T,fun d sv' C X=>?_⟩,.inr ⟨i,x,hK.sf k es.toList ks i x hm.keys M hi U,T,Z,rfl,rfl,rfl⟩⟩;obtain⟨H',j1,j2⟩:=g5 (l++[(k,d)]) { x with key:=kv k,val:=sv' } C rfl (fun q W=>iP_ W) X;refine⟨(J,.map (es.modify i fun y=>{ y with val:=sv' }) c)::H',⟨ks,_,c,H',rfl,M,fun y A=>?_,?_,B.modify i _ fun _=>rfl⟩,.cons _ j2⟩
    · rcases List.mem_append.1 A with A|A
      · exact hl y A
      · simp at A;rw[A];exact hk
    · have e1:(es.modify i fun y=>{ y with val:=sv' }).toList=es.toList.set i { x with key:=kv k,val:=sv' }:=by
        apply List.ext_getElem?
        intro j;rw[Array.getElem?_toList,Array.getElem?_modify,List.getElem?_set,Array.getElem?_toList]
        by_cases I:i=j
        · subst I
          have Q:i<es.toList.length:=(List.getElem?_eq_some_iff.1 U).1;simp only[if_true,T,Option.map_some,if_pos Q];rw[← Z]
        · simp[I]
      rw[e1];exact j1
  · have F:lat l k=[]:=by
      apply List.eq_nil_iff_forall_not_mem.2
      intro d hd;exact hk (hl _ (bN_.1 hd))
    have S:=B.push (kv k) (.slice none 0 0);have G:(es.push ⟨kv k,.slice none 0 0,c⟩)[es.size]? = some ⟨kv k,.slice none 0 0,c⟩:=by simp
    refine⟨es,c,es.push ⟨kv k,.slice none 0 0,c⟩,c+1,es.size,(c:Int),.slice none 0 0,[],Ho,.refl _,by rw[F];exact ax_.nil _ _,⟨S.find G,fun d sv' C X=>?_⟩,.inl ⟨hK.nf k es.toList ks hm.keys hk,rfl,rfl,rfl,rfl⟩⟩
    have e2:((es.push ⟨kv k,.slice none 0 0,c⟩).modify es.size fun y=>{ y with val:=sv' })=es.push ⟨kv k,sv',c⟩:=by
      apply Array.ext_getElem?
      intro j;rw[Array.getElem?_modify,Array.getElem?_push,Array.getElem?_push]
      by_cases L:j=es.size
      · subst L;simp
      · rw[if_neg (fun q=>L q.symm),if_neg L,if_neg L]
    rw[e2];refine⟨(J,.map (es.push ⟨kv k,sv',c⟩) (c+1))::(Ho++C),⟨ks++[k],_,_,_,rfl,?_,fun y A=>?_,?_,B.push _ _⟩,.cons _ List.perm_append_comm⟩
    · rw[List.nodup_append];exact⟨M,by simp,fun a ha b Y e=>by simp at Y;subst Y;subst e;exact hk ha⟩
    · rcases List.mem_append.1 A with A|A
      · exact List.mem_append_left _ (hl y A)
      · simp at A;simp[A]
    · rw[Array.toList_push]
      exact (hm.congr fun q W=>iP_ (fun (e:q=k)=>hk (e▸W))).push rfl X
theorem cS_.nil (h:Nat) (c:Nat):cS_ kv cells e sz ([]:List (K×D)) h [(h,.map #[] c)]:=⟨[],#[],c,[],rfl,List.nodup_nil,by simp,rfl,Born.nil c⟩
def mlF (P:Program) (kt:TypeId) (kv:K→Value) (cells:D→List Value) (mb:Nat) (l:List (K×D)) (adr:K→Option Addr×Nat):Fct where
  p:=fun v=>v.im mb∧∃ es c,v.w.heap[mb]? = some (.map es c)∧∀ k,bu_ v (adr k).1 ((lat l k).flatMap cells) ∧
    ((dq_ P kt (kv k) es.toList none∧Value.slice (adr k).1 (lat l k).length (adr k).2=.slice none 0 0)∨∃ i,dq_ P kt (kv k) es.toList (some (i,.slice (adr k).1 (lat l k).length (adr k).2)))
  mono:=fun v v' h ⟨h1,es,c,h2,h3⟩=>⟨h.imUp mb h1,es,c,by rw[h.block mb h1];exact h2,fun k=>⟨(ai_ _ _).mono v v' h (h3 k).1,(h3 k).2⟩⟩
theorem aV_ {P:Program} {kt:TypeId} {q:Nat} {adr:K→Option Addr×Nat} {v:Vw} (h:(mlF P kt kv cells q l adr).p v) (k:K):bu_ v (adr k).1 ((lat l k).flatMap cells):=by
  obtain⟨_,_,_,_,h⟩:=h;exact (h k).1
theorem tH_ {sv:Value} {n:Nat} {y:List Value} {Hr:Hp} {v:Vw} (h:ax_ e sz sv n y Hr) (A:∀ p∈Hr,v.im p.1∧v.w.heap[p.1]? = some p.2):∃ ad cap,sv=.slice ad n cap∧n≤cap∧cap≤maxLen∧(n≠0→∃ b,ad=some ⟨b,0,none⟩)∧bu_ v ad y:=by
 rcases h.2 with⟨rfl,rfl,rfl⟩|⟨g,cap,cur,rfl,rfl,F,B,I,C⟩
 ·have:y=[]:=List.eq_nil_of_length_eq_zero (by simpa using h.1)
  exact⟨none,0,rfl,Nat.le_refl _,by simp[maxLen],fun h=>absurd rfl h,.inl this⟩
 obtain⟨G,E⟩:=A _ (List.mem_singleton.2 rfl);refine⟨some ⟨g,0,none⟩,cap,rfl,F,B,fun _=>⟨g,rfl⟩,.inr ⟨g,0,cur,e,(0,0),rfl,G,E,fun j x q=>?_⟩⟩;rw[← C,List.getElem?_take]at q
 split at q
 ·rw[Nat.zero_add,← Array.getElem?_toList];exact q
 cases q
theorem cS_.lentC {P:Program} {kt:TypeId} (T:KeyT P kt kv) {J:Nat} {H:Hp} (h:cS_ kv cells e sz l J H):∃ adr:K→Option Addr×Nat,(∀ k,(lat l k).length≤(adr k).2∧((adr k).1=none→(adr k).2=0))∧∀ v:Vw,(∀ p∈H,v.im p.1∧v.w.heap[p.1]? = some p.2)→(mlF P kt kv cells J l adr).p v:=by
 have X:=h;obtain⟨ks,es,c,Ho,rfl,S,hl,hm,_⟩:=X
 have A:∀ k,∃ q:Option Addr×Nat,((lat l k).length≤q.2∧(q.1=none→q.2=0))∧∀ v:Vw,(∀ p∈(J,Obj.map es c)::Ho,v.im p.1∧v.w.heap[p.1]? = some p.2)→bu_ v q.1 ((lat l k).flatMap cells)∧((dq_ P kt (kv k) es.toList none∧Value.slice q.1 (lat l k).length q.2=.slice none 0 0)∨∃ i,dq_ P kt (kv k) es.toList (some (i,.slice q.1 (lat l k).length q.2))):=fun k=>by
   by_cases hk:k∈ks
   · obtain⟨i,hi⟩:=List.getElem?_of_mem hk
     obtain⟨x,Hk,Hr,E,I,g3,M,_⟩:=hm.get S hi;have Z:=T.sf k es.toList ks i x hm.keys S hi E
     have F:∃ ad cap,x.val=.slice ad (lat l k).length cap∧(lat l k).length≤cap∧(ad=none→cap=0):=by
       rcases M.2 with⟨L,Y,_⟩|⟨g,cap,cur,L,_,W,_⟩
       · exact⟨none,0,by rw[L,Y],by omega,fun _=>rfl⟩
       · exact⟨_,cap,L,W,fun q=>by cases q⟩
     obtain⟨ad,cap,Q,C⟩:=F;refine⟨(ad,cap),C,fun v B=>⟨?_,.inr ⟨i,by rw[← Q];exact Z⟩⟩⟩;obtain⟨ad',O,G,_,_,_,U⟩:=tH_ M fun p hp=>B p (List.mem_cons_of_mem _ (I.mem_iff.2 (List.mem_append_left _ hp)))
     rw[Q]at G;simp only[Value.slice.injEq]at G;rw[G.1];exact U
   · have y:lat l k=[]:=by
       apply List.eq_nil_iff_forall_not_mem.2
       intro d V;exact hk (hl _ (bN_.1 V))
     exact⟨(none,0),⟨by rw[y];simp,fun _=>rfl⟩,fun v B=>⟨.inl (by rw[y];rfl),.inl ⟨T.nf k es.toList ks hm.keys hk,by rw[y];rfl⟩⟩⟩
 refine⟨fun k=>(A k).choose,fun k=>(A k).choose_spec.1,fun v B=>?_⟩;obtain⟨E,I⟩:=B _ List.mem_cons_self;exact⟨E,es,c,I,fun k=>(A k).choose_spec.2 v B⟩
theorem cS_.lent {P:Program} {kt:TypeId} (x:KeyT P kt kv) {q:Nat} {H:Hp} (h:cS_ kv cells e sz l q H):∃ adr,∀ v:Vw,(∀ p∈H,v.im p.1∧v.w.heap[p.1]? = some p.2)→(mlF P kt kv cells q l adr).p v:=⟨_,(h.lentC x).choose_spec.2⟩
end
section
variable {P:Program} {K:Type} [DecidableEq K] {kv:K→Value} {kt:TypeId}
structure SetE (kv:K→Value) (es:Array MapEntry) (q:List K):Prop where
  keys:es.toList.map (·.key)=q.map kv
  vals:∀ x∈es.toList,x.val=.bool true
  nd:q.Nodup
theorem SetE.nil:SetE kv #[] ([]:List K):=⟨rfl,by simp,List.nodup_nil⟩
theorem SetE.size {es:Array MapEntry} {q:List K} (h:SetE kv es q):es.size=q.length:=by
  have:=congrArg List.length h.keys;simpa using this
theorem SetE.yes (E:KeyT P kt kv) {es:Array MapEntry} {q:List K} (h:SetE kv es q) {k:K} (hk:k∈q):∃ i x,q[i]? = some k∧es[i]? = some x∧x.key=kv k∧x.val=.bool true∧dq_ P kt (kv k) es.toList (some (i,.bool true)):=by
  obtain⟨i,hi⟩:=List.getElem?_of_mem hk
  have y:i<es.toList.length:=by
    have:=(List.getElem?_eq_some_iff.1 hi).1;have e:=congrArg List.length h.keys;simp at e this ⊢;omega
  have B:=List.getElem?_eq_getElem y;have C:=h.vals _ (List.getElem_mem y)
  have A:es.toList[i].key=kv k:=by
    have:=congrArg (fun l=>l[i]?) h.keys;simp only[List.getElem?_map,B,hi,Option.map_some,Option.some.injEq]at this;exact this
  refine⟨i,es.toList[i],hi,by rw[← Array.getElem?_toList];exact B,A,C,?_⟩;have:=E.sf k es.toList q i _ h.keys h.nd hi B;rwa [C]at this
theorem SetE.no (x:KeyT P kt kv) {es:Array MapEntry} {q:List K} (h:SetE kv es q) {k:K} (hk:k ∉ q):dq_ P kt (kv k) es.toList none:=x.nf k es.toList q h.keys hk
theorem SetE.push {es:Array MapEntry} {q:List K} (h:SetE kv es q) {k:K} (hk:k ∉ q) (c:Nat):SetE kv (es.push ⟨kv k,.bool true,c⟩) (q++[k]):=by
 refine⟨by simp[h.keys],fun x y=>?_,?_⟩
 ·rw[Array.toList_push,List.mem_append]at y
  rcases y with y|y
  ·exact h.vals x y
  simp at y;rw[y]
 rw[List.nodup_append];exact⟨h.nd,by simp,fun a B b A e=>by simp at A;subst A;subst e;exact hk B⟩
end
section ops
variable {P:Program} {N:Nf} {v0:Vw} {H0:Hp} {R:Exit→Act→World→Prop} {Kk:List Kt} {fr:Fr} {H:Hp} {Γ:List Fct}
variable {ops:Array Oper} {lo:List Oper} {d:Nat} {ty:TypeId} {ps:String} {af:Array Edge}
variable {K D:Type} [DecidableEq K] {kv:K→Value} {cells:D→List Value}
theorem bA_ {t kt I:TypeId} {x y:Operand} {E:Nat} {l:List (K×D)} {adr:K→Option Addr×Nat} {k:K} (A:KeyT P kt kv) (G:∀ w,(underlying t).run P w=.ok (.map kt I) w) (J:∀ w,(zeroValue I).run P w=.ok (.slice none 0 0) w) (F:Fr.ev fr x=some (.map (some E))) (C:Fr.ev fr y=some (kv k))
    (hm:∀ v,v.sat H→ac_ Γ v→(mlF P kt kv cells E l adr).p v):Yld P N fr H Γ (.lookup t x y false) ty (.slice (adr k).1 (lat l k).length (adr k).2) :=
  fun a v h S M _ _ _=>by
    obtain⟨_,es,c,Q,O⟩:=hm v S M;have B:=MapKept.run_getObj_map (P:=P) Q;rcases (O k).2 with⟨q,L⟩|⟨i,q⟩
    · rw[L];simp[execOp,h.ev F,h.ev C,Instr.lookup,G,B,A.ok _ _ _,q _,J]
    · simp[execOp,h.ev F,h.ev C,Instr.lookup,G,B,A.ok _ _ _,q _]
theorem bt_ {t kt G:TypeId} {x y:Operand} {C c:Nat} {es:Array MapEntry} {q:List K} {k:K} (h:KeyT P kt kv) (F:∀ w,(underlying t).run P w=.ok (.map kt G) w) (J:∀ w,(zeroValue G).run P w=.ok (.bool false) w) (E:Fr.ev fr x=some (.map (some C))) (B:Fr.ev fr y=some (kv k))
    (A:SetE kv es q) (hm:∀ v,v.sat H→ac_ Γ v→v.w.heap[C]? = some (.map es c)):Yld P N fr H Γ (.lookup t x y false) ty (.bool (decide (k∈q))):=by
  by_cases hk:k∈q
  · obtain⟨i,_,_,_,_,_,I⟩:=A.yes h hk
    rw[decide_eq_true hk];exact eS_ F E B hm (h.ok k) I
  · rw[decide_eq_false hk]
    exact eC_ F J E B hm (h.ok k) (A.no h hk)
theorem uF_ {t kt C:TypeId} {x:Operand} {h c:Nat} {es:Array MapEntry} (B:∀ w,(underlying t).run P w=.ok (.map kt C) w) (y:Fr.ev fr x=some (.map (some h))) (hm:∀ v,v.sat H→ac_ Γ v→v.w.heap[h]? = some (.map es c)) :
    Yld P N fr H Γ (.call ⟨.builtin .len,#[x],#[t]⟩) ty (.int .i64 (es.size:Int)) :=
  fun a v A q E _ _ _=>by
    have F:=MapKept.run_getObj_map (P:=P) (hm v q E);simp[execOp,resolve,invoke,builtin,Builtin.len_,A.ev y,B,F,goInt]
theorem hq_ {o:Op} {t kt Q:TypeId} {x y z:Operand} {b c i:Nat} (n:Nat) {es:Array MapEntry} {e:MapEntry} {k:K} {u u':Value} (G:KeyT P kt kv) (L:o=.insert t x y z∨o=.mapUpdate t x y z) (X:∀ w,(underlying t).run P w=.ok (.map kt Q) w)
    (M:Fr.ev fr x=some (.map (some b))) (J:Fr.ev fr y=some (kv k)) (T:Fr.ev fr z=some u) (hi:H[n]? = some (b,.map es c)) (S:dq_ P kt (kv k) es.toList (some (i,u'))) (B:es[i]? = some e) (A:e.key=kv k)
    (C:Ops P R N v0 H0 ops lo Kk fr (H.set n (b,.map (es.modify i fun y=>{ y with key:=kv k,val:=u }) c)) Γ):Ops P R N v0 H0 ops (⟨none,o,ty,ps,af,none⟩::lo) Kk fr H Γ :=
  co_ rfl fun a v h E V U=>by
    have q:=(E.own _ (List.mem_of_getElem? hi)).1;have W:=MapKept.run_getObj_map (P:=P) q;have Y:=MapKept.run_setObj_map (P:=P) (.map (es.modify i fun y=>{ y with key:=kv k,val:=u }) c) q
    have B:(execOp a.eval ⟨none,o,ty,ps,af,none⟩).run P v.w=.ok .skip { v.w with heap:=v.w.heap.setIfInBounds b (.map (es.modify i fun y=>{ y with key:=kv k,val:=u }) c) }:=by
      rcases L with rfl|rfl<;>simp[execOp,h.ev M,h.ev J,h.ev T,Instr.mapUpdate,X,W,G.ok _ _ _,S _,Y,Instr.keyThatStays,B,A,G.same]
    unfold Oper.wp;rw[B];have F:=MapKept.heap_set (o':=.map (es.modify i fun y=>{ y with key:=kv k,val:=u }) c) q;obtain⟨O,I⟩:=eG_ (w':={ v.w with heap:=v.w.heap.setIfInBounds b (.map (es.modify i fun y=>{ y with key:=kv k,val:=u }) c) }) E hi rfl rfl rfl (Nat.le_refl _) zj_ F.1 (fun k hk=>F.2 k hk);exact C a _ h O (V.trans I) (an_ (I.le E) U)
theorem ir_ {es:Array MapEntry} {i:Nat} {e:MapEntry} {key val:Value} (x:es[i]? = some e) (hk:e.key=key) (q:e.val=val):(es.modify i fun y=>{ y with key:=key,val:=val })=es:=by
 apply Array.ext_getElem?
 intro j;rw[Array.getElem?_modify]
 by_cases h:i=j
 ·subst h;rw[if_pos rfl,x];simp only[Option.map_some];rw[← hk,← q]
 rw[if_neg h]
theorem ne_ {o:Op} {t kt Q:TypeId} {x y z:Operand} {b c:Nat} (n:Nat) {es:Array MapEntry} {q:List K} {k:K} (B:KeyT P kt kv) (G:o=.insert t x y z∨o=.mapUpdate t x y z) (L:∀ w,(underlying t).run P w=.ok (.map kt Q) w)
    (J:Fr.ev fr x=some (.map (some b))) (F:Fr.ev fr y=some (kv k)) (C:Fr.ev fr z=some (.bool true)) (hi:H[n]? = some (b,.map es c)) (A:SetE kv es q)
    (h:∀ es' c',SetE kv es' (if k∈q then q else q++[k])→Ops P R N v0 H0 ops lo Kk fr (H.set n (b,.map es' c')) Γ):Ops P R N v0 H0 ops (⟨none,o,ty,ps,af,none⟩::lo) Kk fr H Γ:=by
  by_cases hk:k∈q
  · obtain⟨i,e,S,I,E,M,O⟩:=A.yes B hk
    refine hq_ n B G L J F C hi O I E ?_;rw[ir_ I E M];exact h es c (by rw[if_pos hk];exact A)
  · exact aS_ n G L J F C hi (B.ok k) (A.no B hk) (h _ _ (by rw[if_neg hk];exact A.push hk c))
theorem fh_ {t kt V:TypeId} {x y:Operand} {q:Nat} {e:TypeId} {sz:Nat} {l:List (K×D)} {k:K} {O F:Hp} (I:KeyT P kt kv) (hm:cS_ kv cells e sz l q O) (hu:∀ w,(underlying t).run P w=.ok (.map kt V) w) (hz:∀ w,(zeroValue V).run P w=.ok (.slice none 0 0) w)
    (T:Fr.ev fr x=some (.map (some q))) (S:Fr.ev fr y=some (kv k)) (hH:H.Perm (O++F)) (hN:Nat.blt d N.n=true)
    (hk:∀ es c i st sv E Hr,MOpn kv cells e sz l q k es c i st Hr→ax_ e sz sv (lat l k).length ((lat l k).flatMap cells) E→Ops P R N v0 H0 ops lo Kk ((d,.tuple #[sv,.int .i64 st])::fr) ((q,.map es c)::(E++(Hr++F))) Γ) :
    Ops P R N v0 H0 ops (⟨some d,.mapEntry t x y,ty,ps,af,none⟩::lo) Kk fr H Γ:=by
  obtain⟨es,c,h,B,i,st,sv,E,Hr,p1,p2,p3,p4⟩:=hm.entry I k;refine co_ rfl fun a v C h2 h3 h4=>?_
  have Y:H.Perm ((q,.map es c)::(E++(Hr++F))):=hH.trans (by
    have:=p1.append_right F;simpa [List.append_assoc] using this)
  have A:=h2.perm Y;have G:=(A.own _ List.mem_cons_self).1;have Z:=MapKept.run_getObj_map (P:=P) G
  have he:(execOp a.eval ⟨some d,.mapEntry t x y,ty,ps,af,none⟩).run P v.w=.ok (.value (.tuple #[sv,.int .i64 st])) { v.w with heap:=v.w.heap.setIfInBounds q (.map h B) }:=by
    rcases p4 with⟨M,rfl,rfl,rfl,rfl⟩|⟨j,z,M,W,Q,rfl,rfl,rfl⟩
    · have L:=MapKept.run_setObj_map (P:=P) (.map (es.push ⟨kv k,.slice none 0 0,c⟩) (c+1)) G
      simp[execOp,C.ev T,C.ev S,Instr.mapEntry,hu,Z,I.ok _ _ _,M _,hz,L,goInt]
    · have L:=MapKept.run_setObj_map (P:=P) (.map h B) G
      simp[execOp,C.ev T,C.ev S,Instr.mapEntry,hu,Z,I.ok _ _ _,M _,Instr.keyThatStays,W,Q,I.same,rY_ W Q,L,goInt]
  unfold Oper.wp;rw[he];have X:=MapKept.heap_set (o':=.map h B) G;obtain⟨U,J⟩:=eG_ (i:=0) (o':=.map h B) (w':={ v.w with heap:=v.w.heap.setIfInBounds q (.map h B) }) A rfl rfl rfl rfl (Nat.le_refl _) zj_ X.1 (fun k hk=>X.2 k hk);simp only[List.set_cons_zero]at U J;exact hk h B i st sv E Hr p3 p2 _ _ (C.put hN) U (h3.trans (J.permL Y.symm)) (an_ (J.le A) h4)
theorem cX_ {t:TypeId} {x y z:Operand} {h c i:Nat} {e:TypeId} {sz:Nat} {l:List (K×D)} {k:K} {dd:D} {es:Array MapEntry} {st:Int} {sv:Value} {C Hr F:Hp} (J:MOpn kv cells e sz l h k es c i st Hr) (O:ax_ e sz sv (lat (l++[(k,dd)]) k).length ((lat (l++[(k,dd)]) k).flatMap cells) C)
    (S:Fr.ev fr x=some (.map (some h))) (Q:Fr.ev fr y=some (.int .i64 st)) (V:Fr.ev fr z=some sv) (G:H.Perm ((h,.map es c)::(C++(Hr++F))))
    (hk:∀ H',cS_ kv cells e sz (l++[(k,dd)]) h H'→Ops P R N v0 H0 ops lo Kk fr (H'++F) Γ):Ops P R N v0 H0 ops (⟨none,.entryStore t x y z,ty,ps,af,none⟩::lo) Kk fr H Γ:=by
  obtain⟨H',q1,T⟩:=J.close dd sv C O;refine co_ rfl fun a v B h2 Y W=>?_;have q:=h2.perm G;have A:=(q.own _ List.mem_cons_self).1;have Z:=MapKept.run_getObj_map (P:=P) A;have hs:=MapKept.run_setObj_map (P:=P) (.map (es.modify i fun y=>{ y with val:=sv }) c) A
  have X:(execOp a.eval ⟨none,.entryStore t x y z,ty,ps,af,none⟩).run P v.w=.ok .skip { v.w with heap:=v.w.heap.setIfInBounds h (.map (es.modify i fun y=>{ y with val:=sv }) c) }:=by
    have U:=J.find;simp[execOp,B.ev S,B.ev Q,B.ev V,Instr.entryStore,Z,hs,asInt,asIntOf,U]
  unfold Oper.wp;rw[X];have M:=MapKept.heap_set (o':=.map (es.modify i fun y=>{ y with val:=sv }) c) A;obtain⟨L,E⟩:=eG_ (i:=0) (o':=.map (es.modify i fun y=>{ y with val:=sv }) c) (w':={ v.w with heap:=v.w.heap.setIfInBounds h (.map (es.modify i fun y=>{ y with val:=sv }) c) }) q rfl rfl rfl rfl (Nat.le_refl _) zj_ M.1 (fun k hk=>M.2 k hk);simp only[List.set_cons_zero]at L E
  have I:((h,Obj.map (es.modify i fun y=>{ y with val:=sv }) c)::(C++(Hr++F))).Perm (H'++F):=by
    have:=(T.append_right F).symm;simpa [List.append_assoc] using this
  exact hk H' q1 _ _ B (L.perm I) (Y.trans ((E.permL G.symm).subR fun b A=>((I.map Prod.fst).mem_iff).2 A)) (an_ (E.le q) W)
def MOp (P:Program) (kt:TypeId) (kv:K→Value) (cells:D→List Value) (e:TypeId) (sz:Nat) (l:List (K×D)) (mb:Nat) (k:K) (es:Array MapEntry) (c:Nat) (sv:Value) (Hr:Hp):Prop :=
  (dq_ P kt (kv k) es.toList none∧sv=.slice none 0 0∧∀ d sv' Hk',ax_ e sz sv' (lat (l++[(k,d)]) k).length ((lat (l++[(k,d)]) k).flatMap cells) Hk'→∃ H',cS_ kv cells e sz (l++[(k,d)]) mb H'∧H'.Perm ((mb,.map (es.push ⟨kv k,sv',c⟩) (c+1))::(Hk'++Hr))) ∨
  (∃ i x,dq_ P kt (kv k) es.toList (some (i,sv))∧es[i]? = some x∧x.key=kv k∧x.val=sv∧∀ d sv' Hk',ax_ e sz sv' (lat (l++[(k,d)]) k).length ((lat (l++[(k,d)]) k).flatMap cells) Hk'→∃ H',cS_ kv cells e sz (l++[(k,d)]) mb H'∧H'.Perm ((mb,.map (es.modify i fun y=>{ y with key:=kv k,val:=sv' }) c)::(Hk'++Hr)))
theorem mg_ {y:Act→World→Prop} {kt:TypeId} {x:Nat} {e:TypeId} {sz:Nat} {l:List (K×D)} {A F:Hp} (E:KeyT P kt kv) (k:K) (hm:cS_ kv cells e sz l x A) (B:H.Perm (A++F))
    (h:∀ es c sv q Hr,ax_ e sz sv (lat l k).length ((lat l k).flatMap cells) q→MOp P kt kv cells e sz l x k es c sv Hr→Ok N v0 H0 y fr ((x,.map es c)::(q++(Hr++F))) Γ):Ok N v0 H0 y fr H Γ:=by
  obtain⟨es,c,sv,q,Hr,I,C,G⟩:=hm.open E k
  refine C_ (B.trans (by
    have:=I.append_right F;simpa [List.append_assoc] using this)) (h es c sv q Hr C G)
theorem ey_ {t kt G:TypeId} {x y:Operand} {q c:Nat} {e:TypeId} {sz:Nat} {l:List (K×D)} {k:K} {es:Array MapEntry} {sv:Value} {Hr:Hp} (B:KeyT P kt kv) (J:MOp P kt kv cells e sz l q k es c sv Hr) (F:∀ w,(underlying t).run P w=.ok (.map kt G) w) (I:∀ w,(zeroValue G).run P w=.ok (.slice none 0 0) w)
    (E:Fr.ev fr x=some (.map (some q))) (C:Fr.ev fr y=some (kv k)) (i:Nat) (hi:H[i]? = some (q,.map es c)):Yld P N fr H Γ (.lookup t x y false) ty sv:=by
  have hm:∀ v,v.sat H→ac_ Γ v→v.w.heap[q]? = some (.map es c):=fun v h _=>(h.own _ (List.mem_of_getElem? hi)).1
  rcases J with⟨A,rfl,_⟩|⟨i,z,A,_⟩
  · exact eC_ F I E C hm (B.ok k) A
  · exact eS_ F E C hm (B.ok k) A
theorem hr_ {o:Op} {t kt V:TypeId} {x y z:Operand} {A c:Nat} {e:TypeId} {sz:Nat} {l:List (K×D)} {k:K} {dd:D} {es:Array MapEntry} {sv sv':Value} {B Hr F:Hp} (Q:KeyT P kt kv) (U:MOp P kt kv cells e sz l A k es c sv Hr) (J:ax_ e sz sv' (lat (l++[(k,dd)]) k).length ((lat (l++[(k,dd)]) k).flatMap cells) B)
    (h:o=.insert t x y z∨o=.mapUpdate t x y z) (S:∀ w,(underlying t).run P w=.ok (.map kt V) w) (M:Fr.ev fr x=some (.map (some A))) (L:Fr.ev fr y=some (kv k)) (O:Fr.ev fr z=some sv') (T:H.Perm ((A,.map es c)::(B++(Hr++F))))
    (hk:∀ H',cS_ kv cells e sz (l++[(k,dd)]) A H'→Ops P R N v0 H0 ops lo Kk fr (H'++F) Γ):Ops P R N v0 H0 ops (⟨none,o,ty,ps,af,none⟩::lo) Kk fr H Γ:=by
  refine C_ T ?_;rcases U with⟨E,_,G⟩|⟨i,q,E,X,W,_,G⟩
  · obtain⟨H',I,C⟩:=G dd sv' B J
    refine aS_ 0 h S M L O rfl (Q.ok k) E ?_;simp only[List.set_cons_zero];exact C_ zau_ (hk H' I)
  · obtain⟨H',I,C⟩:=G dd sv' B J
    refine hq_ 0 Q h S M L O rfl E X W ?_;simp only[List.set_cons_zero];exact C_ zau_ (hk H' I)
theorem ed_ {b:Nat×Obj} {O Q F:Hp} (h:H.Perm ((b::(O++Q))++F)):H.Perm (b::(O++(Q++F))):=by simpa [List.append_assoc] using h
theorem bj_ {b:Nat×Obj} {F:Hp} (h:H.Perm ([b]++F)):H.Perm (b::F):=h
theorem W_ {b:Nat×Obj} {F q:Hp} (h:H.Perm ([b]++F)) (x:F.Perm q):H.Perm (b::q):=List.Perm.trans h (x.cons b)
theorem kF_ {fn:Func} {q:Ending→World→Prop} {c:Code} (h:Run P (bodyPost P fn q) N v0 H0 c [] fr H Γ):Run P (bodyPost P fn q) N v0 H0 (.scope c) [] fr H Γ :=
  fun a v B y A C=>wp_scope_straight (wp_mono (h a v B y A C) fun e a w x=>by cases e<;>exact x)
theorem kH_ {c:Nat} (h:Fin P R N v0 H0 Kk fr H Γ):Run P R N v0 H0 (.label c) Kk fr H Γ :=
  fun a v x A q y=>wp_label (h a v x A q y)
end ops
end Go.Sx
namespace Go.Vs
open Go Go.Sx
structure Rul where
  f:Str
  s:Str
  r:Str
  deriving DecidableEq
structure Itm where
  r:Str
  i:Nat
  j:Nat
  deriving DecidableEq
def addI {α:Type} [DecidableEq α] (y:α) (l:List α):List α:=if y∈l then l else l++[y]
theorem kx_ {α:Type} [DecidableEq α] {y z:α} {l:List α}:z∈addI y l↔z∈l∨z=y:=by
 unfold addI
 by_cases h:y∈l
 ·rw[if_pos h];exact⟨.inl,fun q=>q.elim id fun e=>e▸h⟩
 rw[if_neg h,List.mem_append,List.mem_singleton]
section
variable {R:List Rul} {U:List Str} {n:Nat}
def Pr1 (n:Nat) (x:Itm) (T0:List Itm) (L:List Rul) (T:List Itm):Prop:=∀ y∈L,∀ e,x.j≤e→e≤n→(⟨y.s,x.j,e⟩:Itm)∈T0→(⟨y.r,x.i,e⟩:Itm)∈T
def Pr2 (x:Itm) (T0:List Itm) (L:List Rul) (T:List Itm):Prop:=∀ y∈L,∀ b,b≤x.i→(⟨y.f,b,x.i⟩:Itm)∈T0→(⟨y.r,b,x.j⟩:Itm)∈T
theorem Pr1.mono {x:Itm} {q T d:List Itm} {L:List Rul} (h:Pr1 n x q L T) (C:∀ y∈T,y∈d):Pr1 n x q L d:=fun y F e E A B=>C _ (h y F e E A B)
theorem Pr2.mono {x:Itm} {e T d:List Itm} {L:List Rul} (h:Pr2 x e L T) (A:∀ y∈T,y∈d):Pr2 x e L d:=fun y C b B q=>A _ (h y C b B q)
end
end Go.Vs
namespace Go.Sx
open Go Go.Vs
def kD_ (T:List Itm) (r:Str):List Value:=(List.range 4225).map fun k=>.bool (decide ((⟨r,k / 65,k%65⟩:Itm)∈T))
theorem mL_ (T:List Itm) (r:Str):(kD_ T r).length=4225:=by simp[kD_]
theorem pd_ (T:List Itm) (r:Str) {k:Nat} (hk:k<4225):(kD_ T r)[k]? = some (.bool (decide ((⟨r,k / 65,k%65⟩:Itm)∈T))):=by
  unfold kD_;rw[List.getElem?_map,List.getElem?_range hk];rfl
theorem vb_ {i j:Nat} (e:j≤64):(i*65+j) / 65=i∧(i*65+j)%65=j:=by omega
theorem vd_ (T:List Itm) (r:Str) {i j:Nat} (hi:i≤64) (h:j≤64):(kD_ T r)[i*65+j]? = some (.bool (decide ((⟨r,i,j⟩:Itm)∈T))):=by
  obtain⟨e,q⟩:=vb_ (i:=i) h;rw[pd_ T r za_,e,q]
theorem mK_ {T:List Itm} {r q:Str} {i j:Nat} (h:q≠r):kD_ (addI ⟨r,i,j⟩ T) q=kD_ T q:=by
  unfold kD_
  apply List.map_congr_left
  intro k _
  congr 1
  apply decide_eq_decide.2
  rw[kx_];exact⟨fun q=>q.elim id fun e=>absurd (congrArg Itm.r e) h,.inl⟩
theorem vc_ (T:List Itm) (r:Str) {i j:Nat} (hi:i≤64) (h:j≤64):(kD_ T r).set (i*65+j) (.bool true)=kD_ (addI ⟨r,i,j⟩ T) r:=by
 apply List.ext_getElem?
 intro k;rw[List.getElem?_set,mL_];obtain⟨y,x⟩:=vb_ (i:=i) h
 by_cases hk:i*65+j=k
 ·subst hk
  rw[if_pos rfl,if_pos za_,vd_ _ _ hi h,decide_eq_true (kx_.2 (.inr rfl))]
 rw[if_neg hk]
 by_cases hl:k<4225
 ·rw[pd_ _ _ hl,pd_ _ _ hl]
  congr 2
  apply decide_eq_decide.2
  rw[kx_];refine⟨.inl,fun q=>q.elim id fun e=>?_⟩;simp only[Itm.mk.injEq,true_and]at e;omega
 rw[List.getElem?_eq_none (by rw[mL_];omega),List.getElem?_eq_none (by rw[mL_];omega)]
def gK_ (ks:List (Str×Nat)) (k:Str):Option Nat:=(ks.find? fun p=>decide (p.1=k)).map (·.2)
def tptr (o:Option Nat):Value:=.pointer (o.map fun b=>⟨b,0,none⟩)
def oY_ (tt:TypeId) (T:List Itm) (p:Str×Nat):Nat×Obj:=(p.2,.cells (kD_ T p.1).toArray tt (0,0))
structure TabE (ks:List (Str×Nat)) (T:List Itm) (es:Array MapEntry):Prop where
  keys:es.toList.map (·.key)=(ks.map (·.1)).map str
  vals:es.toList.map (·.val)=ks.map fun p=>tptr (some p.2)
  nd:(ks.map (·.1)).Nodup
  all:∀ x∈T,x.r∈ks.map (·.1)
def TabO (tt mb:Nat) (ks:List (Str×Nat)) (T:List Itm) (H:Hp):Prop:=∃ es c,H=(mb,.map es c)::ks.map (oY_ tt T)∧TabE ks T es
theorem kC_ {ks:List (Str×Nat)} {k:Str} {b:Nat} (h:gK_ ks k=some b):(k,b)∈ks:=by
  unfold gK_ at h;rw[Option.map_eq_some_iff]at h;obtain⟨p,q,rfl⟩:=h;have e:=List.find?_some q;have x:=List.mem_of_find?_eq_some q;simp only[decide_eq_true_eq]at e;subst e;exact x
theorem iH_ {ks:List (Str×Nat)} {k:Str} (h:gK_ ks k=none):k ∉ ks.map (·.1):=by
  unfold gK_ at h;rw[Option.map_eq_none_iff,List.find?_eq_none]at h;intro hm;obtain⟨p,e,rfl⟩:=List.mem_map.1 hm;exact h p e zj_
theorem uS_ {ks:List (Str×Nat)} {k:Str} {b:Nat} (h:gK_ ks k=none):gK_ (ks++[(k,b)]) k=some b:=by
  unfold gK_ at h ⊢;rw[Option.map_eq_none_iff]at h;rw[List.find?_append,h];simp
section
variable {P:Program} {kt:TypeId} {tt mb:Nat} {ks:List (Str×Nat)} {T:List Itm} {es:Array MapEntry} {H:Hp}
theorem TabO.at (h:TabO tt mb ks T H) {k:Str} {b:Nat} (hk:gK_ ks k=some b):∃ Hr,H.Perm ((b,.cells (kD_ T k).toArray tt (0,0))::Hr) ∧
    ∀ i j,i≤64→j≤64→∃ H',TabO tt mb ks (addI ⟨k,i,j⟩ T) H'∧((b,Obj.cells ((kD_ T k).set (i*65+j) (.bool true)).toArray tt (0,0))::Hr).Perm H':=by
  obtain⟨es,c,rfl,hE⟩:=h;have hm:=kC_ hk;obtain⟨y,A,rfl⟩:=List.append_of_mem hm;refine⟨(mb,.map es c)::(y++A).map (oY_ tt T),?_,fun i j hi E=>?_⟩
  · rw[List.map_append,List.map_cons,List.map_append]
    exact (List.Perm.cons _ List.perm_middle).trans (.swap _ _ _)
  · refine⟨(mb,.map es c)::(y++(k,b)::A).map (oY_ tt (addI ⟨k,i,j⟩ T)),⟨es,c,rfl,hE.keys,hE.vals,hE.nd,fun x C=>?_⟩,?_⟩
    · rcases kx_.1 C with C|rfl
      · exact hE.all x C
      · simp
    · have q:=hE.nd
      rw[List.map_append,List.map_cons,List.nodup_append,List.nodup_cons]at q
      have G:y.map (oY_ tt (addI ⟨k,i,j⟩ T))=y.map (oY_ tt T):=List.map_congr_left fun p B=>by
        unfold oY_;rw[mK_ fun e=>q.2.2 p.1 (List.mem_map_of_mem B) k zj_ e]
      have I:A.map (oY_ tt (addI ⟨k,i,j⟩ T))=A.map (oY_ tt T):=List.map_congr_left fun p B=>by
        unfold oY_;rw[mK_ fun e=>q.2.1.1 (List.mem_map.2 ⟨p,B,e⟩)]
      rw[vc_ T k hi E,List.map_append,List.map_append,List.map_cons,G,I];exact ((List.Perm.cons _ List.perm_middle).trans (.swap _ _ _)).symm
end
section ops
variable {P:Program} {N:Nf} {v0:Vw} {H0:Hp} {R:Exit→Act→World→Prop} {K:List Kt} {fr:Fr} {H F:Hp} {Γ:List Fct}
variable {ops:Array Oper} {l:List Oper} {d:Nat} {ty:TypeId} {ps:String} {af:Array Edge}
variable {tt mb:Nat} {ks:List (Str×Nat)} {T:List Itm} {Hx:Hp}
end ops
end Go.Sx
namespace Go.Sx
open Go Go.Vs
structure IntE {K:Type} (kv:K→Value) (es:Array MapEntry) (ks:List K) (vs:List Int):Prop where
  keys:es.toList.map (·.key)=ks.map kv
  vals:es.toList.map (·.val)=vs.map fun n=>Value.int .i64 n
  nd:ks.Nodup
section
variable {P:Program} {K:Type} [DecidableEq K] {kv:K→Value} {kt:TypeId} {es:Array MapEntry} {ks:List K} {vs:List Int}
end
section ops
variable {P:Program} {N:Nf} {v0:Vw} {H0:Hp} {R:Exit→Act→World→Prop} {Kk:List Kt} {fr:Fr} {H:Hp} {Γ:List Fct}
variable {ops:Array Oper} {lo:List Oper} {d:Nat} {ty:TypeId} {ps:String} {af:Array Edge}
variable {K:Type} [DecidableEq K] {kv:K→Value}
end ops
end Go.Sx
namespace Go.Sx
open Go
section
variable {P:Program} {N:Nf} {v0:Vw} {H0:Hp} {R:Exit→Act→World→Prop} {K:List Kt} {fr:Fr} {H F:Hp} {Γ:List Fct} {ops:Array Oper} {l:List Oper} {d:Nat} {ty:TypeId} {ps:String} {af:Array Edge} {e:TypeId} {sz n:Nat} {sv:Value} {xs:List Value} {Hr:Hp}
theorem qF_ {x y:Operand} {t E:TypeId} {by':Nat} {k I:IntKind} (A:Elt P t e sz by') (C:P.underlying E=some (.int I)) (Q:Fr.ev fr x=some (.slice none 0 0)) (O:Fr.ev fr y=some (.int k (n:Int))) (U:0<n) (W:n*by'≤140737488355328) (h:n≤maxLen) (S:Nat.blt d N.n=true)
    (hk:∀ (y:Nat×Array Value) (b:Nat),(n≤y.1∧y.1≤maxLen∧y.2.size=y.1*sz)→Ops P R N v0 H0 ops l K ((d,.slice (some ⟨b,0,none⟩) n y.1)::fr) ((b,.cells y.2 e (0,0))::H) Γ) :
    Ops P R N v0 H0 ops (⟨some d,.call ⟨.builtin .append,#[x,y],#[t,E]⟩,ty,ps,af,none⟩::l) K fr H Γ :=
  nd_ (β:=Nat×Array Value) (x:=fun y b=>.slice (some ⟨b,0,none⟩) n y.1) (o:=fun y=>.cells y.2 e (0,0)) (fun y=>n≤y.1∧y.1≤maxLen∧y.2.size=y.1*sz) S
    (fun a v G X V=>by
      obtain⟨i,z,hi,L,es,T,M⟩:=A.info;subst es T;have J:=Lib.run_append_nil_zeros (P:=P) v.w t E ty e i z k I A.und C hi L n U A.pos (by simp only[maxLen]at h;omega) za_;have q:=grownCap_ge v.w n 0 e;have B:=grownCap_le_maxLen v.w n 0 e h;refine⟨(grownCap v.w n 0 e,Builtin.zeroCells z.cells n++Builtin.zeroCells z.cells (grownCap v.w n 0 e - n)),v.w.drew.alloc (.cells (Builtin.zeroCells z.cells n++Builtin.zeroCells z.cells (grownCap v.w n 0 e - n)) e),⟨q,B,?_⟩,?_,rfl,rfl,rfl,rfl,by simp⟩
      · simp only[Array.size_append,size_zeroCells,M,← Nat.add_mul]
        congr 1
        omega
      · simp only[execOp,resolve,invoke,builtin,Sem.run_bind,Sem.run_pure,Result.andThen_ok,List.map_toArray,List.map_cons,List.map_nil,G.ev Q,G.ev O,J])
    hk
theorem pZ_ {x:Operand} {t:TypeId} {ad:Option Addr} {len cap:Nat} (y:∀ w,(underlying t).run P w=.ok (.slice e) w) (h:Fr.ev fr x=some (.slice ad len cap)) :
    Yld P N fr H Γ (.call ⟨.builtin .cap,#[x],#[t]⟩) ty (.int .i64 (cap:Int)) :=
  fun a v q _ _ _ _ _=>by simp[execOp,resolve,invoke,builtin,Builtin.cap_,y,q.ev h,goInt]
theorem tG_ {b cap:Nat} {cur:Array Value} (q:cap≤maxLen) (h:cur.size=cap*sz):ax_ e sz (.slice (some ⟨b,0,none⟩) 0 cap) 0 [] [(b,.cells cur e (0,0))] :=
  ⟨by simp,.inr ⟨b,cap,cur,rfl,rfl,Nat.zero_le _,q,h,by simp⟩⟩
end
end Go.Sx
namespace Go.Sx
open Go
theorem wa_ {P:Program} {I:TypeId} {y:IntKind} (G:P.underlying I=some (.int y)):KeyT P I (fun n:Int=>.int y n) where
  ok:=fun k=>bb_ G
  nf:=fun k es ks h hk=>aK_ G (by
    have:∀ (ks:List Int) (es:List MapEntry) (i:Nat),es.map (·.key)=ks.map (fun n:Int=>Value.int y n)→k ∉ ks→Instr.findNow (.int y) (.int y k) es i=some none:=by
      intro ks
      induction ks with
      | nil => intro es i h _; have : es = [] := by simpa using h
               subst this;rfl
      | cons q ks ih =>
        intro es i h hk;cases es with
        | nil=>simp at h
        | cons e es =>
          simp only[List.map_cons,List.cons.injEq]at h;simp only[List.mem_cons,not_or]at hk
          have C:Instr.sameNow (.int y) (.int y k) e.key=some false:=by
            rw[h.1];simp[Instr.sameNow,hk.1]
          simp only[Instr.findNow,C];exact ih es (i+1) h.2 hk.2
    exact this ks es 0 h hk)
  sf:=fun k es ks i e h B hi A=>aK_ G (by
    have:∀ (ks:List Int) (es:List MapEntry) (j i:Nat),es.map (·.key)=ks.map (fun n:Int=>Value.int y n)→ks.Nodup→ks[i]? = some k→es[i]? = some e→Instr.findNow (.int y) (.int y k) es j=some (some (j+i,e.val)):=by
      intro ks
      induction ks with
      | nil=>intro es j i _ _ h;simp at h
      | cons q ks ih =>
        intro es j i h B hi A;cases es with
        | nil=>simp at h
        | cons x es =>
          simp only[List.map_cons,List.cons.injEq]at h;rw[List.nodup_cons]at B;cases i with
          | zero =>
            simp only[List.getElem?_cons_zero,Option.some.injEq]at hi A;subst hi;subst A
            have C:Instr.sameNow (.int y) (.int y q) x.key=some true:=by
              rw[h.1];simp[Instr.sameNow]
            simp only[Instr.findNow,C,Nat.add_zero]
          | succ i =>
            simp only[List.getElem?_cons_succ]at hi A;have E:k≠q:=fun e=>B.1 (e▸List.mem_of_getElem? hi)
            have C:Instr.sameNow (.int y) (.int y k) x.key=some false:=by
              rw[h.1];simp[Instr.sameNow,E]
            simp only[Instr.findNow,C];rw[ih es (j+1) i h.2 B.2 hi A,show j+1+i=j+(i+1) by omega]
    have:=this ks es 0 i h B hi A;rwa [Nat.zero_add]at this)
  same:=fun k=>en_ 10000 k
end Go.Sx
namespace Go.Sx
open Go
section
variable {P:Program} {N:Nat} {v0:Vw} {H0:Hp} {R:Exit→Act→World→Prop} {Kk:List Kt} {fr:Fr} {H:Hp} {Γ:List Fct}
variable {ops:Array Oper} {lo:List Oper} {d:Nat} {ty:TypeId} {ps:String} {af:Array Edge}
variable {K:Type} [DecidableEq K] {kv:K→Value}
theorem oz_ {t h e:TypeId} {x:Operand} {b c:Nat} (n:Nat) {es:Array MapEntry} (B:P.underlying t=some (.map h e)) (A:Fr.ev fr x=some (.map (some b))) (hi:H[n]? = some (b,.map es c)) (C:Nat.blt d N=true)
    (hk:∀ r,Ops P R N v0 H0 ops lo Kk ((d,.pointer (some ⟨r,0,none⟩))::fr) ((r,.mapIter (some b) c #[] c)::H) Γ):Ops P R N v0 H0 ops (⟨some d,.range t x,ty,ps,af,none⟩::lo) Kk fr H Γ :=
  gt_ (x:=fun b=>.pointer (some ⟨b,0,none⟩)) C (fun a v q E _=>by
    have y:=(E.own _ (List.mem_of_getElem? hi)).1;simp[execOp,q.ev A,run_range_map v.w t h e b es c B y]) hk
theorem qB_ {L:Operand} {b r c h J:Nat} {es:Array MapEntry} {q:Array Nat} (n m:Nat) (E:Fr.ev fr L=some (.pointer (some ⟨r,0,none⟩))) (W:H[n]? = some (r,.mapIter (some b) h q J)) (hb:H[m]? = some (b,.map es c)) (G:∀ x∈es.toList,x.born<h) (V:h≤J) (X:Nat.blt d N=true)
    (h0:(leftOf es q).size=0→Ops P R N v0 H0 ops lo Kk ((d,.tuple #[.bool false])::fr) H Γ)
    (hk:∀ e,e∈(leftOf es q).toList→Ops P R N v0 H0 ops lo Kk ((d,.tuple #[.bool true,e.key,e.val])::fr) (H.set n (r,.mapIter (some b) h (q.push e.born) c)) Γ):Ops P R N v0 H0 ops (⟨some d,.next L false,ty,ps,af,none⟩::lo) Kk fr H Γ :=
  co_ rfl fun a v M I h3 Z=>by
    have C:=(I.own _ (List.mem_of_getElem? W)).1;have U:=(I.own _ (List.mem_of_getElem? hb)).1;unfold Oper.wp;rcases run_next_at (P:=P) v.w ty r b h J q es c C U G V with⟨e0,A⟩|⟨e,he,B,y,A⟩
    · have S:(execOp a.eval ⟨some d,.next L false,ty,ps,af,none⟩).run P v.w=.ok (.value (.tuple #[.bool false])) v.w:=by simp[execOp,M.ev E,A]
      rw[S];exact h0 e0 _ v (M.put X) I h3 Z
    · have S:(execOp a.eval ⟨some d,.next L false,ty,ps,af,none⟩).run P v.w=.ok (.value (.tuple #[.bool true,e.key,e.val])) (ChangeMaps.setBlock B r (.mapIter (some b) h (q.push e.born) c)):=by simp[execOp,M.ev E,A]
      rw[S];have T:B.heap[r]? = some (.mapIter (some b) h q J):=by rcases y with rfl|rfl<;>exact C
      have O:r<B.heap.size:=(Array.getElem?_eq_some_iff.1 T).1;have Y:B.heap=v.w.heap:=by rcases y with rfl|rfl<;>rfl
      have Q:v.w.drawn≤B.drawn:=by
        rcases y with rfl|rfl
        · exact Nat.le_refl _
        · exact Nat.le_succ _
      obtain⟨g1,g2⟩:=eG_ (w':=ChangeMaps.setBlock B r (.mapIter (some b) h (q.push e.born) c)) I W zaG_ zaG_ zaG_ Q (by simp[ChangeMaps.setBlock,Y])
        (by simp only[ChangeMaps.setBlock];rw[Array.getElem?_setIfInBounds_self_of_lt O]) (fun k hk=>by simp only[ChangeMaps.setBlock];rw[Array.getElem?_setIfInBounds_ne (Ne.symm hk),Y])
      exact hk e he _ ⟨v.im,_,v.sl⟩ (M.put X) g1 (h3.trans g2) (an_ (g2.le I) Z)
theorem oi_ {y:Operand} {b r c h:Nat} {es:Array MapEntry} {q:Array Nat} {e:MapEntry} (n m:Nat) (x:Fr.ev fr y=some (.pointer (some ⟨r,0,none⟩))) (B:H[n]? = some (r,.mapIter (some b) h (q.push e.born) c)) (G:H[m]? = some (b,.map es c)) (E:e∈es.toList) (hB:Born es c) :
    Yld P N fr H Γ (.entry y) ty (.tuple #[e.key,e.val]) :=
  fun a v C A _ _ _ _=>by
    have:=run_entry_at (P:=P) v.w r b h q es c e (A.own _ (List.mem_of_getElem? B)).1 (A.own _ (List.mem_of_getElem? G)).1 E hB.nd;simp[execOp,C.ev x,this]
structure ItS (kv:K→Value) (es:Array MapEntry) (seen:Array Nat) (done:List K):Prop where
  nd:done.Nodup
  mem:∀ e∈es.toList,seen.contains e.born=true↔∃ k∈done,e.key=kv k
  sub:∀ k∈done,∃ e∈es.toList,e.key=kv k
theorem ItS.nil {es:Array MapEntry}:ItS kv es #[] []:=⟨List.nodup_nil,fun e _=>by simp,fun k hk=>by simp at hk⟩
end
section
variable {P:Program} {N:Nat} {v0:Vw} {H0:Hp} {R:Exit→Act→World→Prop} {K:List Kt} {fr:Fr} {H F:Hp} {Γ:List Fct}
def wT_ {σ:Type} (v0:Vw) (H0:Hp) (Hj:σ→Hp) (ok:σ→Prop) (HL:Hp):Exit→Act→World→Prop
  | .normal,_,w=>∃ s' v,ok s'∧v.w=w∧v.sat (Hj s'++HL)∧v0.to H0 v (Hj s'++HL)
  | _,_,_=>False
theorem pU_ {σ ι:Type} {l D:Nat} {h:Loop} {A:Nat} {x:Value} {Hj:σ→Hp} {s:σ} {ok:σ→Prop} (I:ι→Fr) (L:ι→Hp)
    (hp:h.params=#[A]) (Z:h.state=.ready) (hpe:h.pending=none) (ht:Fr.sat N fr ⟨h.tmps,[]⟩) (a0:Nat.blt A N=true)
    (y:∀ n v0 H0 HL,iD_ (Fence.wide.inRound l) n P (Mid N v0 H0 I (fun i=>L i++HL) (fun _=>Γ)) N [] v0 H0 h.assign [] ((A,x)::fr) (Hj s++HL) Γ)
    (C:∀ n v0 H0 HL i,iD_ (Fence.wide.inRound l) n P (wT_ v0 H0 Hj ok HL) N [] v0 H0 h.body [] (I i) (L i++HL) Γ) :
    jc_ P l x (Hj s++HLp l D h) Γ (fun _:{E:σ // ok E}=>.bool true) (fun E=>Hj E.1++HLp l D h) (fun _=>[]):=by
  intro v hs hΓ
  have q:∀ (X:Hp) r,(X++HLp l D r).Perm ((l,.loop r)::(X++[(D,.deferred (some []))])):=fun X r=>by
    unfold HLp;exact List.perm_middle
  have hl:v.w.heap[l]? = some (.loop h):=((hs.perm (q _ _)).own _ List.mem_cons_self).1;refine⟨h.fn,_,h.assign,h.body,run_yield hl (by simp[hp]),fun n=>roundIn_of_wpIn trivial ?_⟩;have Q:(h.params.zip #[x]).foldl (fun tmps (t,a)=>tmps.setIfInBounds t a) h.tmps=h.tmps.setIfInBounds A x:=by simp[hp]
  rw[Q];have J:Fr.sat N ((A,x)::fr) ⟨h.tmps.setIfInBounds A x,[]⟩:=ht.put a0;refine wpIn_mono (gG_.1 (y n v (Hj s++HLp l D h) (HLp l D h)) ⟨h.tmps.setIfInBounds A x,[]⟩ v J hs (Vw.to.refl _ _) hΓ) ?_;rintro e a1 w1 ⟨rfl,i,M,rfl,k1,k2,k3,k4⟩;have B:=k2.perm (q _ _);have U:=(B.own _ List.mem_cons_self).1;obtain⟨m1,m2⟩:=eH_ (o':=.loop { h with state:=.busy }) B;refine⟨_,run_beginRound U Z,?_⟩;have m3:=m1.perm (q (L i) { h with state:=.busy }).symm
  have m4:v.to (Hj s++HLp l D h) ⟨M.im,M.w.putObj l (.loop { h with state:=.busy }),M.sl⟩ (L i++HLp l D { h with state:=.busy }) :=
    (k3.trans ((m2.permL (q _ _).symm).subR fun b T=>((q (L i) { h with state:=.busy }).map Prod.fst).mem_iff.1 T))
  have V:=an_ (m2.le B) k4;refine wpIn_mono (gG_.1 (C n v (Hj s++HLp l D h) (HLp l D { h with state:=.busy }) i) a1 ⟨M.im,_,M.sl⟩ k1 m3 m4 V) ?_;intro e2 a2 w2 G;cases e2 with
  | normal =>
    obtain⟨E,S,W,rfl,q1,q2⟩:=G;have O:=q1.perm (q _ _);have Y:=(O.own _ List.mem_cons_self).1;obtain⟨z1,z2⟩:=eH_ (o':=.loop h) O;have er:({ h with state:=.ready,pending:=none }:Loop)=h:=by cases h;simp_all
    refine⟨_,_,run_endRound none Y,⟨E,W⟩,⟨S.im,S.w.putObj l (.loop h),S.sl⟩,rfl,?_,z1.perm (q _ _).symm,trivial,q2.trans ((z2.permL (q _ _).symm).subR fun b T=>((q (Hj E) h).map Prod.fst).mem_iff.1 T)⟩;simp[er]
  | ret=>exact G.elim
  | exit id=>exact G.elim
  | goto t=>exact G.elim
  | panic c=>exact G.elim
  | outgrown=>exact G.elim
theorem rM_ {σ:Type} {Hj:σ→Hp} {h G:Hp} {ok:σ→Prop} (e:σ) (A:ok e) (q:H.Perm (Hj e++h++G)):OkD N [] v0 H0 (wT_ v0 H0 Hj ok h .normal) fr H Γ :=
  cM_ (Γ':=[]) q (fun _ _ _=>trivial) fun a v B x y _=>⟨e,v,A,rfl,x,y⟩
theorem ql_ {σ α:Type} {g:Operand} {pm:Nat} {assign body:Code} {U:FuncId} {caps:List Value} {Hj:σ→Hp} {Hc:Hp} {Γi:List Fct} (Γx:List Fct) {xv:α→Value} {good:σ→α→Prop} {nx:α→σ→σ→Prop} {Rc:σ→Prop}
    (s0:σ) (hg:Fr.ev fr g=some (.func (.func U) #[] caps.toArray)) (hH:H.Perm (Hc++Hj s0)) (W:∀ v,v.sat H→ac_ Γ v→ac_ Γi v)
    (E:∀ l D (y:Loop),y.params=#[pm]→y.state=.ready→y.pending=none→Fr.sat N fr ⟨y.tmps,[]⟩→y.assign=assign→y.body=body→∀ s x,good s x →
      jc_ P l (xv x) (Hj s++HLp l D y) Γx (fun _:{B:σ // nx x s B}=>.bool true) (fun B=>Hj B.1++HLp l D y) (fun _=>[]))
    (a3:∀ l (Gj:σ→Hp),(∀ s x,good s x→jc_ P l (xv x) (Gj s) Γx (fun _:{B:σ // nx x s B}=>.bool true) (fun B=>Gj B.1) (fun _=>[])) →
      Tri P U (.func (.yield l) #[] #[]::caps).toArray (Hc++Gj s0) Γi (fun _:{B:σ // Rc B}=>.tuple #[]) (fun B=>Hc++Gj B.1) (fun _=>[]))
    (G:∀ B,Rc B→∀ D l r,sB_ Fence.wide 0 P R N (nX_ D) v0 H0 K fr (Hc++Hj B++HLp l D r) Γ) :
    Run P R N v0 H0 (.rangeFunc g #[pm] assign body) K fr H Γ:=by
  intro a v L T h3 h4;refine wpIn_wide (n:=0) |>.1 (wpIn_mono (Q:=ej_ Fence.wide 0 P R K) (wpIn_rangeFunc fun fn _=>?_) fun e a w hq=>bk_ K e a w hq)
  obtain⟨a1,a2⟩:=fE_ (w':=v.w.alloc (.deferred (some []))) (o:=.deferred (some [])) T rfl rfl rfl rfl (Nat.le_refl _);obtain⟨y,A⟩:∃ y:Loop,y={ state:=.ready,pending:=none,fn,tmps:=a.tmps,params:=#[pm],assign,body,defers:=v.w.heap.size }:=⟨_,rfl⟩;obtain⟨b1,b2⟩:=fE_ (w':=(v.w.alloc (.deferred (some []))).alloc (.loop y)) (o:=.loop y) a1 rfl rfl rfl rfl (Nat.le_refl _);have M:(v.w.alloc (Obj.deferred (some []))).heap.size=v.w.heap.size+1:=by simp
  have Z:(⟨v.im,(v.w.alloc (.deferred (some []))).alloc (.loop y),v.sl⟩:Vw).sat ((v.w.heap.size+1,.loop y)::(v.w.heap.size,.deferred (some []))::H):=M▸b1;have J:v.to H ⟨v.im,(v.w.alloc (.deferred (some []))).alloc (.loop y),v.sl⟩ ((v.w.heap.size+1,.loop y)::(v.w.heap.size,.deferred (some []))::H):=a2.trans (M▸b2)
  have C:((v.w.heap.size+1,Obj.loop y)::(v.w.heap.size,.deferred (some []))::H).Perm (Hc++(Hj s0++HLp (v.w.heap.size+1) v.w.heap.size y)):=by
    rw[← List.append_assoc];exact (List.perm_append_comm (l₁:=HLp (v.w.heap.size+1) v.w.heap.size y) (l₂:=H)).trans (hH.append_right _)
  have hT:=a3 (v.w.heap.size+1) (fun s=>Hj s++HLp (v.w.heap.size+1) v.w.heap.size y)
    (E _ _ y (by rw[A]) (by rw[A]) (by rw[A]) (by rw[A];exact⟨L.size,rfl,L.val⟩) (by rw[A]) (by rw[A]))
  have hΓ2:=an_ (J.le T) (W v T h4);have hΓ3:=an_ (J.le T) h4;have he:=L.ev hg;refine⟨v.w.heap.size+1,nX_ v.w.heap.size,(v.w.alloc (.deferred (some []))).alloc (.loop y),⟨.fn (.func U) caps.toArray,#[.func (.yield (v.w.heap.size+1)) #[] #[]]⟩,(v.w.alloc (.deferred (some []))).alloc (.loop y),U,(.func (.yield (v.w.heap.size+1)) #[] #[]::caps).toArray,_,?_,?_,fun _ _=>trivial,?_,fun h=>(by cases h),callsIn_wide.2 ((hT.run ⟨v.im,_,v.sl⟩ (Z.perm C) hΓ2).mono ?_)⟩
  · rw[A];exact run_enterLoop_outer _ _ _ _ _
  · simp only[resolve,rangeCall,List.map_toArray,List.map_cons,List.map_nil,he,Deferred.ofValue]
    rfl
  · have:=hT.callable (.func (.yield (v.w.heap.size+1)) #[] #[]::caps).toArray ((v.w.alloc (.deferred (some []))).alloc (.loop y))
    simpa [invoke] using this
  · rintro e w' ⟨⟨B,a4⟩,v',rfl,rfl,g1,g2,g3⟩
    have O:=J.trans (g3.permL C.symm);have a0:=an_ (O.le T) h4;have hsd:∀ S,SatD N S fr { a with defers:=S++a.defers }:=fun S=>⟨⟨L.size,rfl,L.val⟩,by show S++a.defers=S;rw[L.defers];simp⟩
    have I:∀ (X Y:Hp) r,(Y++(X++HLp (v.w.heap.size+1) v.w.heap.size r)).Perm ((v.w.heap.size+1,.loop r)::(Y++X++[(v.w.heap.size,.deferred (some []))])):=fun X Y r=>by
      unfold HLp;rw[← List.append_assoc];exact List.perm_middle
    have q:=g1.perm (I (Hj B) Hc y);have hl:=(q.own _ List.mem_cons_self).1;obtain⟨z1,z2⟩:=eH_ (o':=.loop { y with state:=.exhausted }) q
    have zp:((v.w.heap.size+1,Obj.loop { y with state:=.exhausted })::(Hc++Hj B++[(v.w.heap.size,.deferred (some []))])).Perm (Hc++Hj B++HLp (v.w.heap.size+1) v.w.heap.size { y with state:=.exhausted }):=by
      have:=(I (Hj B) Hc { y with state:=.exhausted }).symm;rw[← List.append_assoc]at this;exact this
    refine⟨y.pending,_,run_endLoop hl (by rw[A];simp),?_⟩;have V:y.pending=none:=by rw[A]
    split
    case h_2=>rename_i c hc;rw[V]at hc;cases hc
    exact G B a4 _ _ _ _ ⟨v'.im,_,v'.sl⟩ (hsd _) (z1.perm zp) (h3.trans (O.trans ((z2.permL (I _ _ _).symm).subR fun b hb=>(zp.map Prod.fst).mem_iff.2 hb))) (an_ (z2.le q) a0)
theorem rK_ {σ α:Type} {g:Operand} {B:Nat} {assign body:Code} {C:FuncId} {caps:List Value} {Hj:σ→Hp} {Hc:Hp} {Γi:List Fct} {xv:α→Value} {good:σ→α→Prop} {nx:α→σ→σ→Prop} {Rc:σ→Prop}
    (A:σ) (G:Fr.ev fr g=some (.func (.func C) #[] caps.toArray)) (E:H.Perm (Hc++Hj A)) (q:∀ v,v.sat H→ac_ Γ v→ac_ Γi v)
    (e:∀ l D (rec:Loop),rec.params=#[B]→rec.state=.ready→rec.pending=none→Fr.sat N fr ⟨rec.tmps,[]⟩→rec.assign=assign→rec.body=body→∀ s x,good s x →
      jc_ P l (xv x) (Hj s++HLp l D rec) [] (fun _:{s':σ // nx x s s'}=>.bool true) (fun s'=>Hj s'.1++HLp l D rec) (fun _=>[]))
    (y:∀ l (Gj:σ→Hp),(∀ s x,good s x→jc_ P l (xv x) (Gj s) [] (fun _:{s':σ // nx x s s'}=>.bool true) (fun s'=>Gj s'.1) (fun _=>[])) →
      Tri P C (.func (.yield l) #[] #[]::caps).toArray (Hc++Gj A) Γi (fun _:{s':σ // Rc s'}=>.tuple #[]) (fun s'=>Hc++Gj s'.1) (fun _=>[]))
    (h:∀ s',Rc s'→∀ D l r,sB_ Fence.wide 0 P R N (nX_ D) v0 H0 K fr (Hc++Hj s'++HLp l D r) Γ) :
    Run P R N v0 H0 (.rangeFunc g #[B] assign body) K fr H Γ:=
  ql_ [] A G E q e y h
end
section
variable {Fc:Fence} {n:Nat} {P:Program} {N:Nat} {D:List Deferred} {v0:Vw} {H0:Hp} {R:Exit→Act→World→Prop} {K:List Kt} {fr:Fr} {H:Hp} {Γ:List Fct}
variable {ops:Array Oper} {l:List Oper} {d:Nat} {ty:TypeId} {ps:String} {af:Array Edge}
theorem ue_ {t e:TypeId} {len sz:Nat} {parts:List (Nat×Operand)} {vs:List (Nat×Value)} {y:Value} {cs:List Value} (U:Opn Fc) (Z:∀ w,(underlying t).run P w=.ok (.slice e) w) (hs:∀ w,(sizeOf e).run P w=.ok sz w) (S:∀ w,(zeroValue e).run P w=.ok y w)
    (A:y.cells.toList.length=sz) (W:Nat.blt 0 (len*sz)=true) (G:Nat.ble (len*sz) 16777216=true) (Y:Fr.evp fr parts=some vs) (Q:lK_ (fun i=>some (i*sz,sz)) (jb_ y.cells.toList len) vs=some cs) (hN:Nat.blt d N=true)
    (hk:∀ b,fC_ Fc n P R N D v0 H0 ops l K ((d,.slice (some ⟨b,0,none⟩) len len)::fr) ((b,.cells cs.toArray e (0,0))::H) Γ):fC_ Fc n P R N D v0 H0 ops (⟨some d,.buildSlice t len parts.toArray,ty,ps,af,none⟩::l) K fr H Γ :=
  ee_ rfl fun a v J O X T=>by
    refine⟨fun f _=>U.fn f,?_⟩;rw[semAt_eq rfl]
    have V:(execOp a.eval ⟨some d,.buildSlice t len parts.toArray,ty,ps,af,none⟩).run P v.w=.ok (.value (.slice (some ⟨v.w.heap.size,0,none⟩) len len)) (v.w.alloc (.cells cs.toArray e (0,0))):=by
      have C:=J.sat.evp Y;have h:=ix_ _ _ _ _ Q;have q:0<len*sz:=by simpa [Nat.blt_eq] using W
      have I:0<sz:=Nat.pos_of_mul_pos_left q;have M:len*sz≤16777216:=Nat.le_of_ble_eq_true G;have E:=jr_ y.cells.toList za_ len;rw[A]at E;simp only[Array.toArray_toList]at E;rw[← E]at h;have B:(parts.map fun (i,x)=>(i,a.eval x))=vs:=C;simp only[execOp,Instr.buildSlice,Sem.run_bind,Z,Result.andThen_ok,hs,List.map_toArray,B];rw[if_neg za_,if_neg za_];simp only[Sem.run_bind,Sem.run_pure,S,Result.andThen_ok,h];rfl
    rw[V];obtain⟨g1,L⟩:=fE_ (w':=v.w.alloc (.cells cs.toArray e (0,0))) (o:=.cells cs.toArray e (0,0)) O rfl rfl rfl rfl (Nat.le_refl _);exact hk v.w.heap.size _ ⟨v.im,_,v.sl⟩ (J.put hN) g1 (X.trans L) (an_ (L.le O) T)
theorem fV_ {k:Act→World→Prop} {H':Hp} (e:H.Perm H') (h:OkD N D v0 H0 k fr H' Γ):OkD N D v0 H0 k fr H Γ :=
  fun a v x A q y=>h a v x (A.perm e) (q.subR fun b B=>(e.map Prod.fst).mem_iff.2 B) y
theorem nW_ {t e:TypeId} {x y:Operand} {b off sz m:Nat} {sv:Value} {A:List Value} {Hr:Hp} (B:Opn Fc) (i:Nat) {cur:Array Value} {T:TypeId} (h:ax_ e sz sv m A Hr) (G:∀ w,(sizeOf t).run P w=.ok 1 w)
    (E:Fr.ev fr x=some (.pointer (some ⟨b,off,none⟩))) (C:Fr.ev fr y=some sv) (hi:H[i]? = some (b,.cells cur T (0,0))) (q:Nat.ble (off+1) cur.size=true)
    (hk:fC_ Fc n P R N D v0 H0 ops l K fr (H.set i (b,.cells (cur.toList.take off++[sv]++cur.toList.drop (off+1)).toArray T (0,0))) Γ):fC_ Fc n P R N D v0 H0 ops (⟨none,.store t x y,ty,ps,af,none⟩::l) K fr H Γ :=
  fU_ B i G E C hi (by rw[(fq_ h).1];rfl) q (by rw[(fq_ h).1];simp[(fq_ h).2]) (by rw[(fq_ h).1];exact hk)
theorem qH_ {x y:Operand} {t e:TypeId} {sz by' m k c:Nat} {sv:Value} {L news:List Value} {Hr F:Hp} {ad:Addr} (hF:Opn Fc) (E:Elt P t e sz by') (q:ax_ e sz sv m L Hr)
    (hx:Fr.ev fr x=some sv) (hy:Fr.ev fr y=some (.slice (some ad) k c)) (G:H.Perm (Hr++F)) (hl:news.length=k*sz) (A:∀ v,v.sat H→ac_ Γ v→∀ j u,news[j]? = some u→v.w.cell? (ad.add j)=some u) (C:∀ u∈news,u.oneCell'=true)
    (B:m+k≤maxLen) (S:(m+k)*by'≤140737488355328) (hN:Nat.blt d N=true)
    (hk:∀ sv' h,ax_ e sz sv' (m+k) (L++news) h→fC_ Fc n P R N D v0 H0 ops l K ((d,sv')::fr) (h++F) Γ) :
    fC_ Fc n P R N D v0 H0 ops (⟨some d,.call ⟨.builtin .append,#[x,y],#[t,t]⟩,ty,ps,af,none⟩::l) K fr H Γ :=
  ee_ rfl fun a v J M h3 X=>by
    refine⟨fun f _=>hF.fn f,?_⟩;rw[semAt_eq rfl];obtain⟨i,z,hi,V,es,Y,Z⟩:=E.info;have g:=M.perm G;have W:=A v M X;have T:=q.owns g;obtain⟨U,w',O,q1,q2,_⟩:=run_append_own (P:=P) v.w 0 t ty e i z sz by' E.und hi V es Y Z E.pos sv m L T ad k c news hl W C B S (Nat.zero_le _)
    obtain⟨a1,a2⟩:=kw_ v.w E.und hi V es T hl W C B (by rw[Y];exact S) O;obtain⟨h,k1,k2,Q⟩:=iS_ q g q1 q2 a1 a2;have e1:a.eval x=sv:=J.sat.ev hx;have e2:a.eval y=.slice (some ad) k c:=J.sat.ev hy
    have I:(execOp a.eval ⟨some d,.call ⟨.builtin .append,#[x,y],#[t,t]⟩,ty,ps,af,none⟩).run P v.w=.ok (.value U) w':=by
      simp only[execOp,resolve,invoke,builtin,Sem.run_bind,Sem.run_pure,Result.andThen_ok,List.map_toArray,List.map_cons,List.map_nil,e1,e2,O]
    rw[I];exact hk U h k1 _ ⟨v.im,w',v.sl⟩ (J.put hN) k2 (h3.trans (Q.permL G.symm)) (an_ ((Q.permL G.symm).le M) X)
end
end Go.Sx
namespace Go.Vs
open Go Go.Sx
abbrev RSt:=Str×Str×Bool
def mc_ (l:List Str) (x:Str):List Str:=if x∈l then l else l++[x]
def mB_ (l:List Str):List Str:=l.foldl mc_ []
theorem rB_ (l:List Str) (x:Str):mB_ (l++[x])=mc_ (mB_ l) x:=by simp[mB_]
theorem wO_ {l:List Str} {x y:Str}:y∈mc_ l x↔y∈l∨y=x:=by
 unfold mc_
 split
 ·rename_i h
  exact⟨.inl,fun q=>q.elim id fun e=>e▸h⟩
 simp
theorem yC_ {l:List Str} {x:Str} (h:l.Nodup):(mc_ l x).Nodup:=by
 unfold mc_
 split
 ·exact h
 rename_i y
 rw[List.nodup_append];exact⟨h,by simp,fun a A b q e=>by simp at q;subst q;subst e;exact y A⟩
theorem mA_ (l:List Str):(mB_ l).Nodup∧∀ y,y∈mB_ l↔y∈l:=by
  unfold mB_
  have A:∀ (l e:List Str),e.Nodup→(l.foldl mc_ e).Nodup∧∀ y,y∈l.foldl mc_ e↔y∈e∨y∈l:=by
    intro l
    induction l with
    | nil=>intro e h;exact⟨h,fun y=>by simp⟩
    | cons x l ih =>
      intro e h;obtain⟨q,B⟩:=ih (mc_ e x) (yC_ h);refine⟨q,fun y=>?_⟩;rw[List.foldl_cons,B,wO_,List.mem_cons,or_assoc]
  obtain⟨q,B⟩:=A l [] List.nodup_nil;exact⟨q,fun y=>by rw[B];simp⟩
def ik (S:List RSt) (r:Str):List Str:=mB_ ((S.filter fun z=>decide (z.1=r)).map (·.2.1))
def flg (S:List RSt) (r s:Str):Bool:=S.any fun z=>decide (z.1=r)&&(decide (z.2.1=s)&&z.2.2)
theorem nB_ {S:List RSt} {r s:Str}:s∈ik S r↔∃ c,(r,s,c)∈S:=by
 unfold ik;rw[(mA_ _).2,List.mem_map];constructor
 ·rintro ⟨⟨a,b,c⟩,h,rfl⟩
  rw[List.mem_filter,decide_eq_true_eq]at h;obtain⟨e,rfl⟩:=h;exact⟨c,e⟩
 rintro ⟨c,h⟩;exact⟨(r,s,c),by rw[List.mem_filter];exact⟨h,by simp⟩,rfl⟩
theorem yS_ (S:List RSt) (r:Str):(ik S r).Nodup:=(mA_ _).1
theorem pz_ (S:List RSt) (r s:Str) (c:Bool) (q:Str):ik (S++[(r,s,c)]) q=if r=q then mc_ (ik S q) s else ik S q:=by
 unfold ik;rw[List.filter_append,List.map_append]
 by_cases h:r=q
 ·rw[if_pos h]
  simp only[List.filter_cons,h,decide_true,if_true,List.filter_nil,List.map_cons,List.map_nil];exact rB_ _ _
 rw[if_neg h];simp[h]
theorem nE_ {S:List RSt} {r s:Str}:flg S r s=true↔(r,s,true)∈S:=by
 unfold flg;rw[List.any_eq_true];constructor
 ·rintro ⟨⟨a,b,c⟩,h,e⟩
  simp only[Bool.and_eq_true,decide_eq_true_eq]at e;obtain⟨rfl,rfl,rfl⟩:=e;exact h
 exact fun h=>⟨_,h,by simp⟩
theorem nF_ (S:List RSt) (r s:Str) (c:Bool) (q t:Str):flg (S++[(r,s,c)]) q t=(flg S q t||(decide (r=q)&&(decide (s=t)&&c))):=by
  unfold flg;rw[List.any_append];simp
theorem flg_no {S:List RSt} {r s:Str} (h:s ∉ ik S r):flg S r s=false:=by
 cases e:flg S r s
 ·rfl
 exact absurd (nB_.2 ⟨true,nE_.1 e⟩) h
end Go.Vs
namespace Go.Sx
open Go Go.Vs
structure BolE (es:Array MapEntry) (ks:List Str) (g:Str→Bool):Prop where
  keys:es.toList.map (·.key)=ks.map str
  vals:es.toList.map (·.val)=ks.map fun k=>Value.bool (g k)
  nd:ks.Nodup
section
variable {P:Program} {kt:TypeId} {es:Array MapEntry} {ks:List Str} {g:Str→Bool}
theorem BolE.nil {g:Str→Bool}:BolE #[] [] g:=⟨rfl,rfl,List.nodup_nil⟩
theorem BolE.no (e:KeyT P kt str) (h:BolE es ks g) {k:Str} (hk:k ∉ ks):dq_ P kt (str k) es.toList none:=e.nf k es.toList ks h.keys hk
theorem BolE.yes (B:KeyT P kt str) (h:BolE es ks g) {k:Str} (hk:k∈ks):∃ i e,ks[i]? = some k∧es[i]? = some e∧e.key=str k∧e.val=.bool (g k)∧dq_ P kt (str k) es.toList (some (i,.bool (g k))):=by
  obtain⟨i,hi⟩:=List.getElem?_of_mem hk
  have A:i<es.toList.length:=by
    have:=(List.getElem?_eq_some_iff.1 hi).1;have e:=congrArg List.length h.keys;simp only[List.length_map]at e;omega
  have x:=List.getElem?_eq_getElem A;have y:=congrArg (fun l=>l[i]?) h.vals;simp only[List.getElem?_map,x,Option.map_some,hi,Option.some.injEq]at y;have q:=congrArg (fun l=>l[i]?) h.keys;simp only[List.getElem?_map,x,Option.map_some,hi,Option.some.injEq]at q;refine⟨i,es.toList[i],hi,by rw[← Array.getElem?_toList];exact x,q,y,?_⟩;have:=B.sf k es.toList ks i _ h.keys h.nd hi x;rwa [y]at this
theorem BolE.push (h:BolE es ks g) {k:Str} (hk:k ∉ ks) (b:Bool) (c:Nat) {x:Str→Bool} (B:x k=b) (G:∀ q,q∈ks→x q=g q):BolE (es.push ⟨str k,.bool b,c⟩) (ks++[k]) x:=by
 refine⟨by simp[h.keys],?_,?_⟩
 ·rw[Array.toList_push,List.map_append,h.vals,List.map_append]
  simp only[List.map_cons,List.map_nil,B];rw[show List.map (fun q=>Value.bool (g q)) ks=List.map (fun q=>Value.bool (x q)) ks from List.map_congr_left fun q A=>by rw[G q A]]
 rw[List.nodup_append];exact⟨h.nd,by simp,fun a C b y e=>by simp at y;subst y;subst e;exact hk C⟩
theorem BolE.set (h:BolE es ks g) {k:Str} {i:Nat} (hi:ks[i]? = some k) (b:Bool) {L:Str→Bool} (T:L k=b) (U:∀ q,q≠k→L q=g q):BolE (es.modify i fun y=>{ y with key:=str k,val:=.bool b }) ks L:=by
 have C:=congrArg List.length h.keys;simp only[List.length_map]at C;refine⟨?_,?_,h.nd⟩
 ·rw[← h.keys]
  apply List.ext_getElem?
  intro j;simp only[List.getElem?_map,Array.getElem?_toList,Array.getElem?_modify]
  by_cases x:i=j
  ·subst x
   rw[if_pos rfl];have hk:=congrArg (fun l=>l[i]?) h.keys;simp only[List.getElem?_map,hi,Option.map_some,Array.getElem?_toList]at hk;cases he:es[i]? with
   | none=>rfl
   | some e=>rw[he]at hk;simpa using hk.symm
  rw[if_neg x]
 apply List.ext_getElem?
 intro j;have M:=congrArg (fun l=>l[j]?) h.vals;simp only[List.getElem?_map,Array.getElem?_toList,Array.getElem?_modify]at M ⊢
 by_cases x:i=j
 ·subst x
  have J:i<es.size:=by
    have:=(List.getElem?_eq_some_iff.1 hi).1;rw[Array.length_toList]at C;omega
  rw[if_pos rfl,Array.getElem?_eq_getElem J,hi];simp[T]
 rw[if_neg x,M];cases hq:ks[j]? with
 | none=>rfl
 | some q =>
   have:q≠k:=fun e=>by
     subst e;have B:=(List.getElem?_eq_some_iff.1 hi).1;have A:=(List.getElem?_eq_some_iff.1 hq).1;have O:=(List.getElem?_eq_some_iff.1 hi).2;have Q:=(List.getElem?_eq_some_iff.1 hq).2;have I:=h.nd;unfold List.Nodup at I;rw[List.pairwise_iff_getElem]at I;rcases Nat.lt_trichotomy i j with G|G|G
     · exact I i j B A G (O.trans Q.symm)
     · exact x G
     · exact I j i A B G (Q.trans O.symm)
   simp[U q this]
end
def gc_ (E:Str→Array MapEntry×Nat) (p:Str×Nat):Nat×Obj:=(p.2,.map (E p.1).1 (E p.1).2)
def lS_ (o:Option Nat):Value:=.map o
structure MmE (ks:List (Str×Nat)) (S:List RSt) (es:Array MapEntry) (c:Nat) (E:Str→Array MapEntry×Nat):Prop where
  keys:es.toList.map (·.key)=(ks.map (·.1)).map str
  vals:es.toList.map (·.val)=ks.map fun p=>lS_ (some p.2)
  nd:(ks.map (·.1)).Nodup
  all:∀ z∈S,z.1∈ks.map (·.1)
  born:Born es c
  inn:∀ k∈ks.map (·.1),BolE (E k).1 (ik S k) (flg S k)∧Born (E k).1 (E k).2
def MmO (mb:Nat) (ks:List (Str×Nat)) (S:List RSt) (H:Hp):Prop:=∃ es c E,H=(mb,.map es c)::ks.map (gc_ E)∧MmE ks S es c E
theorem MmO.nil (mb c:Nat):MmO mb [] [] [(mb,.map #[] c)]:=⟨#[],c,fun _=>(#[],0),rfl,rfl,rfl,List.nodup_nil,by simp,Born.nil c,by simp⟩
section
variable {P:Program} {kt:TypeId} {mb:Nat} {ks:List (Str×Nat)} {S:List RSt} {es:Array MapEntry} {c:Nat} {E:Str→Array MapEntry×Nat} {H:Hp}
theorem MmE.no (e:KeyT P kt str) (h:MmE ks S es c E) {k:Str} (hk:gK_ ks k=none):dq_ P kt (str k) es.toList none:=e.nf k es.toList _ h.keys (iH_ hk)
theorem MmE.yes (q:KeyT P kt str) (h:MmE ks S es c E) {k:Str} {b:Nat} (hk:gK_ ks k=some b):∃ i,dq_ P kt (str k) es.toList (some (i,lS_ (some b))):=by
  obtain⟨i,hi⟩:=List.getElem?_of_mem (kC_ hk);have e:=congrArg (fun l=>l[i]?) h.vals;simp only[List.getElem?_map,hi,Option.map_some]at e;cases hx:es.toList[i]? with
  | none=>rw[hx]at e;simp at e
  | some x =>
    rw[hx]at e;simp only[Option.map_some,Option.some.injEq]at e;refine⟨i,?_⟩;have:=q.sf k es.toList _ i x h.keys h.nd (by rw[List.getElem?_map,hi];rfl) hx;rwa [e]at this
theorem MmO.at (h:MmO mb ks S H) {k:Str} {b:Nat} (hk:gK_ ks k=some b):∃ es c Hr,H.Perm ((b,.map es c)::Hr)∧BolE es (ik S k) (flg S k)∧Born es c ∧
    ∀ s d x y,BolE x (ik (S++[(k,s,d)]) k) (flg (S++[(k,s,d)]) k)→Born x y→∃ H',MmO mb ks (S++[(k,s,d)]) H'∧((b,Obj.map x y)::Hr).Perm H':=by
  obtain⟨es,c,E,rfl,hE⟩:=h;have hm:=kC_ hk;have B:k∈ks.map (·.1):=List.mem_map_of_mem hm;obtain⟨G,I,rfl⟩:=List.append_of_mem hm;refine⟨(E k).1,(E k).2,(mb,.map es c)::(G++I).map (gc_ E),?_,(hE.inn k B).1,(hE.inn k B).2,fun s d x y hB L=>?_⟩
  · rw[List.map_append,List.map_cons,List.map_append]
    exact (List.Perm.cons _ List.perm_middle).trans (.swap _ _ _)
  · have A:=hE.nd
    rw[List.map_append,List.map_cons,List.nodup_append,List.nodup_cons]at A
    have O:G.map (gc_ fun q=>if q=k then (x,y) else E q)=G.map (gc_ E):=List.map_congr_left fun p J=>by
      unfold gc_;dsimp only;rw[if_neg fun e=>A.2.2 p.1 (List.mem_map_of_mem J) k zj_ e]
    have T:I.map (gc_ fun q=>if q=k then (x,y) else E q)=I.map (gc_ E):=List.map_congr_left fun p J=>by
      unfold gc_;dsimp only;rw[if_neg fun e=>A.2.1.1 (List.mem_map.2 ⟨p,J,e⟩)]
    refine⟨(mb,.map es c)::(G++(k,b)::I).map (gc_ fun q=>if q=k then (x,y) else E q),⟨es,c,_,rfl,hE.keys,hE.vals,hE.nd,fun z C=>?_,hE.born,fun q M=>?_⟩,?_⟩
    · rcases List.mem_append.1 C with C|C
      · exact hE.all z C
      · rw[List.mem_singleton]at C;subst C;exact B
    · by_cases e:q=k
      · subst e;rw[if_pos rfl];exact⟨hB,L⟩
      · rw[if_neg e,pz_,if_neg (Ne.symm e)]
        have:flg (S++[(k,s,d)]) q=flg S q:=funext fun t=>by rw[nF_,decide_eq_false (Ne.symm e)];simp
        rw[this];exact hE.inn q M
    · have Q:gc_ (fun q=>if q=k then (x,y) else E q) (k,b)=(b,.map x y):=by unfold gc_;dsimp only;rw[if_pos rfl]
      rw[List.map_append,List.map_append,List.map_cons,O,T,Q];exact ((List.Perm.cons _ List.perm_middle).trans (.swap _ _ _)).symm
theorem MmE.push (h:MmE ks S es c E) {k:Str} (hk:gK_ ks k=none) (b B:Nat):MmE (ks++[(k,b)]) S (es.push ⟨str k,lS_ (some b),c⟩) (c+1) (fun q=>if q=k then (#[],B) else E q):=by
 have A:=iH_ hk;refine⟨by simp[h.keys],by simp[h.vals],?_,fun x I=>by simp only[List.map_append,List.mem_append];exact .inl (h.all x I),h.born.push _ _,fun q y=>?_⟩
 ·rw[List.map_append,List.nodup_append]
  exact⟨h.nd,by simp,fun a C q y e=>by simp at y;subst y;subst e;exact A C⟩
 by_cases e:q=k
 ·subst e
  rw[if_pos rfl]
  have:ik S q=[]:=List.eq_nil_iff_forall_not_mem.2 fun s J=>by
    obtain⟨d,G⟩:=nB_.1 J;exact A (h.all _ G)
  rw[this];exact⟨BolE.nil,Born.nil _⟩
 rw[if_neg e];refine h.inn q ?_;rw[List.map_append,List.mem_append]at y;rcases y with y|y
 ·exact y
 simp at y;exact absurd y e
end
section ops
variable {P:Program} {N:Nf} {v0:Vw} {H0:Hp} {R:Exit→Act→World→Prop} {K:List Kt} {fr:Fr} {H F:Hp} {Γ:List Fct}
variable {ops:Array Oper} {l:List Oper} {d:Nat} {ty:TypeId} {ps:String} {af:Array Edge}
variable {mb:Nat} {ks:List (Str×Nat)} {S:List RSt} {Hx:Hp}
theorem eT_ {t kt C:TypeId} {x y:Operand} {k:Str} (e:KeyT P kt str) (B:∀ w,(underlying t).run P w=.ok (.map kt C) w) (I:∀ w,(zeroValue C).run P w=.ok (.map none) w) (L:MmO mb ks S Hx) (A:Fr.ev fr x=some (.map (some mb))) (q:Fr.ev fr y=some (str k)) (J:H.Perm (Hx++F)) :
    Yld P N fr H Γ (.lookup t x y false) ty (lS_ (gK_ ks k)):=by
  obtain⟨es,c,E,rfl,hE⟩:=L;have hm:∀ v:Vw,v.sat H→ac_ Γ v→v.w.heap[mb]? = some (.map es c):=fun v h _=>(h.own (mb,.map es c) (J.mem_iff.2 zj_)).1
  cases hk:gK_ ks k with
  | none=>exact eC_ B I A q hm (e.ok k) (hE.no e hk)
  | some b =>
    obtain⟨i,G⟩:=hE.yes e hk;exact eS_ B A q hm (e.ok k) G
theorem uE_ {t C kt e:TypeId} {x y:Operand} {o:Option Nat} (B:P.underlying t=some (.map kt e)) (A:Fr.ev fr x=some (lS_ o)) (G:Fr.ev fr y=some (.map none)):Yld P N fr H Γ (.binOp .eql t x y C) ty (.bool (decide (o=none))) :=
  fun a v h _ _ _ _ _=>by
    have q:decide (o=none)=o.isNone:=by cases o<;>simp
    rw[q];have:=run_eql_map_nil (P:=P) v.w t kt e o B;simp[execOp,h.ev A,h.ev G,eqGuard,lS_,this]
theorem jn_ {t kt G:TypeId} {x y:Operand} {k s:Str} {b:Nat} (e:KeyT P kt str) (C:∀ w,(underlying t).run P w=.ok (.map kt G) w) (M:∀ w,(zeroValue G).run P w=.ok (.bool false) w) (Q:MmO mb ks S Hx) (hk:gK_ ks k=some b) (B:Fr.ev fr x=some (.map (some b))) (A:Fr.ev fr y=some (str s)) (O:H.Perm (Hx++F)) :
    Yld P N fr H Γ (.lookup t x y false) ty (.bool (flg S k s)):=by
  obtain⟨es,c,Hr,L,I,_,_⟩:=Q.at hk;have hm:∀ v:Vw,v.sat H→ac_ Γ v→v.w.heap[b]? = some (.map es c):=fun v h _=>(h.own _ (O.mem_iff.2 (List.mem_append_left _ (L.mem_iff.2 List.mem_cons_self)))).1
  by_cases q:s∈ik S k
  · obtain⟨_,_,_,_,_,_,J⟩:=I.yes e q
    exact eS_ C B A hm (e.ok s) J
  · rw[flg_no q]
    exact eC_ C M B A hm (e.ok s) (I.no e q)
theorem vJ_ {o:Op} {t kt V:TypeId} {x y z:Operand} {k:Str} {b h:Nat} (G:KeyT P kt str) (M:o=.insert t x y z∨o=.mapUpdate t x y z) (U:∀ w,(underlying t).run P w=.ok (.map kt V) w) (Q:MmO mb ks S Hx) (hk:gK_ ks k=none)
    (T:Fr.ev fr x=some (.map (some mb))) (L:Fr.ev fr y=some (str k)) (I:Fr.ev fr z=some (.map (some b))) (B:H.Perm ((b,.map #[] h)::(Hx++F)))
    (C:∀ H',MmO mb (ks++[(k,b)]) S H'→Ops P R N v0 H0 ops l K fr (H'++F) Γ):Ops P R N v0 H0 ops (⟨none,o,ty,ps,af,none⟩::l) K fr H Γ:=by
  obtain⟨es,c,E,rfl,hE⟩:=Q
  have J:ks.map (gc_ fun q=>if q=k then (#[],h) else E q)=ks.map (gc_ E):=List.map_congr_left fun p B=>by
    unfold gc_;dsimp only;rw[if_neg fun e:p.1=k=>iH_ hk (e▸List.mem_map_of_mem B)]
  have O:gc_ (fun q=>if q=k then (#[],h) else E q) (k,b)=(b,.map #[] h):=by unfold gc_;dsimp only;rw[if_pos rfl]
  have A:H.Perm ((mb,.map es c)::((ks++[(k,b)]).map (gc_ fun q=>if q=k then (#[],h) else E q)++F)):=by
    refine B.trans ?_;rw[List.map_append,List.map_cons,List.map_nil,J,O,List.cons_append];refine (List.Perm.swap _ _ _).trans (.cons _ ?_);rw[List.append_assoc];exact List.perm_middle.symm
  refine C_ A ?_;refine aS_ 0 M U T L I rfl (G.ok k) (hE.no G hk) ?_;simp only[List.set_cons_zero];exact C _ ⟨_,_,_,rfl,hE.push hk b h⟩
theorem qA_ {o:Op} {t kt et:TypeId} {x y z:Operand} {k s:Str} {b:Nat} {e U:Bool} (B:KeyT P kt str) (O:o=.insert t x y z∨o=.mapUpdate t x y z) (Y:∀ w,(underlying t).run P w=.ok (.map kt et) w) (hT:MmO mb ks S Hx) (hk:gK_ ks k=some b) (he:U=(flg S k s||e))
    (Q:Fr.ev fr x=some (.map (some b))) (M:Fr.ev fr y=some (str s)) (V:Fr.ev fr z=some (.bool U)) (hp:H.Perm (Hx++F))
    (A:∀ H',MmO mb ks (S++[(k,s,e)]) H'→Ops P R N v0 H0 ops l K fr (H'++F) Γ):Ops P R N v0 H0 ops (⟨none,o,ty,ps,af,none⟩::l) K fr H Γ:=by
  subst he;obtain⟨es,c,Hr,h1,C,X,W⟩:=hT.at hk;have L:flg (S++[(k,s,e)]) k s=(flg S k s||e):=by rw[nF_];simp
  have T:∀ q,q≠s→flg (S++[(k,s,e)]) k q=flg S k q:=fun q I=>by rw[nF_,decide_eq_false (Ne.symm I)];simp
  refine C_ (hp.trans (h1.append_right F)) ?_
  by_cases h:s∈ik S k
  · obtain⟨i,en,g1,g2,g3,g4,Z⟩:=C.yes B h
    obtain⟨H',J,G⟩:=W s e (es.modify i fun y=>{ y with key:=str s,val:=.bool (flg S k s||e) }) c (by rw[pz_,if_pos rfl,mc_,if_pos h];exact C.set g1 _ L T) (X.modify i _ fun _=>rfl);exact hq_ 0 B O Y Q M V rfl Z g2 g3 (C_ (G.append_right F) (A H' J))
  · obtain⟨H',J,G⟩:=W s e (es.push ⟨str s,.bool (flg S k s||e),c⟩) (c+1) (by rw[pz_,if_pos rfl,mc_,if_neg h];exact C.push h (flg S k s||e) c L fun q I=>T q (fun e=>h (e▸I))) (X.push _ _)
    exact aS_ 0 O Y Q M V rfl (B.ok s) (C.no B h) (C_ (G.append_right F) (A H' J))
end ops
end Go.Sx
namespace Go.Vs
open Go Go.Sx
def Ax.selfs (x:Ax):Nat:=x.roles.countP fun r=>decide (r=x.role)
def Ax.exm (x:Ax) (i:Nat):Bool:=decide (x.roles[i]? = some x.role)&&((decide (x.selfs=1)&&(decide (i=0)||decide (i+1=x.roles.length)))||(decide (x.selfs=2)&&decide (x.roles.length=2)))
def Ax.chs (x:Ax):Nat→List RSt
  | 0=>[]
  | i+1=>x.chs i++(match x.roles[i]? with|some r=>if x.exm i=true then [] else [(r,x.role,true)]|none=>[])
def Ax.steps (x:Ax):List RSt :=
  if x.kind=5 then (match x.roles[0]? with|some r=>if r=x.role then [] else [(r,x.role,false)]|none=>[])
  else if x.kind=6 then x.chs x.roles.length else []
def cV_ (l:List Ax):List RSt:=l.flatMap Ax.steps
theorem dG_ {l:List Ax} {i:Nat} {x:Ax} (h:l[i]? = some x):cV_ (l.take (i+1))=cV_ (l.take i)++x.steps:=by
  unfold cV_;rw[List.take_add_one,h,List.flatMap_append];simp
theorem Ax.steps_five {x:Ax} {r:Str} (hk:x.kind=5) (h:x.roles[0]? = some r) (d:r≠x.role):x.steps=[(r,x.role,false)]:=by unfold Ax.steps;rw[if_pos hk,h];dsimp only;rw[if_neg d]
theorem Ax.steps_same {x:Ax} {r:Str} (hk:x.kind=5) (h:x.roles[0]? = some r) (d:r=x.role):x.steps=[]:=by unfold Ax.steps;rw[if_pos hk,h];dsimp only;rw[if_pos d]
theorem Ax.steps_six {x:Ax} (hk:x.kind=6):x.steps=x.chs x.roles.length:=by unfold Ax.steps;rw[if_neg za_,if_pos hk]
theorem Ax.steps_no {x:Ax} (e:x.kind≠5) (d:x.kind≠6):x.steps=[]:=by unfold Ax.steps;rw[if_neg e,if_neg d]
theorem Ax.chs_yes {x:Ax} {i:Nat} {r:Str} (h:x.roles[i]? = some r) (d:x.exm i=true):x.chs (i+1)=x.chs i:=by rw[Ax.chs,h];dsimp only;rw[if_pos d,List.append_nil]
theorem Ax.chs_no {x:Ax} {i:Nat} {r:Str} (h:x.roles[i]? = some r) (d:x.exm i=false):x.chs (i+1)=x.chs i++[(r,x.role,true)]:=by rw[Ax.chs,h];dsimp only;rw[if_neg (by rw[d];simp)]
def Frm (ks:List (Str×Nat)) (S:List RSt):Prop:=∀ k∈ks.map (·.1),∃ s c,(k,s,c)∈S
theorem Frm.nil {S:List RSt}:Frm [] S:=fun k hk=>by simp at hk
theorem Frm.more {ks:List (Str×Nat)} {S T:List RSt} (h:Frm ks S):Frm ks (S++T):=fun k hk=>by
  obtain⟨s,c,d⟩:=h k hk;exact⟨s,c,List.mem_append_left _ d⟩
theorem Frm.add {ks d:List (Str×Nat)} {S:List RSt} {r s:Str} {e:Bool} (h:Frm ks S) (y:∀ k∈d.map (·.1),k∈ks.map (·.1)∨k=r):Frm d (S++[(r,s,e)]):=fun k hk=>by
 rcases y k hk with q|rfl
 ·obtain⟨t,c,x⟩:=h k q
  exact⟨t,c,List.mem_append_left _ x⟩
 exact⟨s,e,by simp⟩
def sE (S:List RSt) (r s:Str) (c:Bool):Prop:=(r,s,c)∈S
def pQ_ (S:List RSt):Prop:=∃ n,Clo (sE S) n
theorem vP_ {α:Type} {l:List α} (h:l.Nodup) {i j:Nat} {x:α} (hi:l[i]? = some x) (q:l[j]? = some x):i=j:=by
 have e:=(List.getElem?_eq_some_iff.1 hi).1;have d:=(List.getElem?_eq_some_iff.1 q).1;have A:=(List.getElem?_eq_some_iff.1 hi).2;have y:=(List.getElem?_eq_some_iff.1 q).2;unfold List.Nodup at h;rw[List.pairwise_iff_getElem]at h;rcases Nat.lt_trichotomy i j with g|g|g
 ·exact absurd (A.trans y.symm) (h i j e d g)
 ·exact g
 exact absurd (y.trans A.symm) (h j i d e g)
structure GrO (S:List RSt) (R:List Str) (G:List (List (Nat×Bool))):Prop where
  len:G.length=R.length
  nd:R.Nodup
  mem:∀ r,r∈R↔∃ s c,(r,s,c)∈S
  row:∀ (i:Nat) (r:Str) (l:List (Nat×Bool)),R[i]? = some r→G[i]? = some l→∀ (j:Nat) (c:Bool),(j,c)∈l↔∃ s,R[j]? = some s∧(∃ c',(r,s,c')∈S)∧c=flg S r s
theorem GrO.to {S:List RSt} {R:List Str} {G:List (List (Nat×Bool))} (h:GrO S R G):∀ (i:Nat) (l:List (Nat×Bool)),G[i]? = some l→∀ s∈l,s.1<G.length:=by
  intro i l hl s e;have d:=(List.getElem?_eq_some_iff.1 hl).1;rw[h.len]at d;obtain⟨t,q,_⟩:=(h.row i _ l (List.getElem?_eq_getElem d) hl s.1 s.2).1 e;rw[h.len];exact (List.getElem?_eq_some_iff.1 q).1
theorem GrO.circ {S:List RSt} {R:List Str} {G:List (List (Nat×Bool))} (h:GrO S R G):pQ_ S↔∃ n,Clo (gE G) n:=by
 constructor
 ·rintro ⟨n,f,c,H,I,B,F,e,x⟩
  have T:∀ m,∃ j,m≤n→R[j]? = some (f m):=fun m=>by
    by_cases g:m≤n
    · by_cases P:m<n
      · obtain⟨j,K⟩:=List.getElem?_of_mem ((h.mem (f m)).2 ⟨_,_,B m P⟩)
        exact⟨j,fun _=>K⟩
      · obtain⟨j,K⟩:=List.getElem?_of_mem ((h.mem (f 0)).2 ⟨_,_,B 0 H⟩)
        exact⟨j,fun _=>by rw[show m=n by omega,I];exact K⟩
    · exact⟨0,fun q=>absurd q g⟩
  obtain⟨g,J⟩:=Classical.axiomOfChoice T;refine⟨n,g,fun m=>flg S (f m) (f (m+1)),H,?_,fun m hm=>?_,F,e,?_⟩
  ·have y:=J n (Nat.le_refl _)
   have M:=J 0 (Nat.zero_le _);rw[I]at y;exact vP_ h.nd y M
  ·have y:=J m za_
   have C:g m<G.length:=by rw[h.len];exact (List.getElem?_eq_some_iff.1 y).1
   exact⟨_,List.getElem?_eq_getElem C,(h.row (g m) (f m) _ y (List.getElem?_eq_getElem C) _ _).2 ⟨f (m+1),J (m+1) za_,⟨_,B m hm⟩,rfl⟩⟩
  have:=B F e;rw[x]at this;exact nE_.2 this
 rintro ⟨n,g,c,H,I,B,F,e,x⟩
 have L:∀ m,m<n→∃ d,((R[g m]?).getD [],(R[g (m+1)]?).getD [],d)∈S∧(c m=true→d=true):=fun m hm=>by
   obtain⟨l,hl,Q⟩:=B m hm;have E:g m<R.length:=by rw[← h.len];exact (List.getElem?_eq_some_iff.1 hl).1
   obtain⟨s,y,⟨O,M⟩,N⟩:=(h.row (g m) _ l (List.getElem?_eq_getElem E) hl _ _).1 Q;rw[List.getElem?_eq_getElem E,y];simp only[Option.getD_some];cases hc:c m
   · exact⟨O,M,fun q=>by cases q⟩
   · rw[hc]at N
     exact⟨true,nE_.1 N.symm,fun _=>rfl⟩
 have A:∀ m,∃ d,m<n→((R[g m]?).getD [],(R[g (m+1)]?).getD [],d)∈S∧(c m=true→d=true):=fun m=>by
   by_cases g:m<n
   · obtain⟨d,A⟩:=L m g
     exact⟨d,fun _=>A⟩
   · exact⟨false,fun q=>absurd q g⟩
 obtain⟨d,A⟩:=Classical.axiomOfChoice A;exact⟨n,fun m=>(R[g m]?).getD [],d,H,by dsimp only;rw[I],fun m hm=>(A m hm).1,F,e,(A F e).2 x⟩
end Go.Vs
namespace Go.Sx
open Go
section
variable {P:Program} {N:Nat} {v0:Vw} {H0:Hp} {R:Exit→Act→World→Prop} {K:List Kt} {fr:Fr} {H F:Hp} {Γ:List Fct}
theorem bM_ {n:Nat}:∀ (K:List Kt) (e:Exit) (a:Act) (w:World),post P R K e a w→ej_ Fence.wide n P R K e a w
 | [],_,_,_,h=>h
 | .seq c::K,.normal,a,w,h=>wpIn_wide.2 (wp_mono h fun e a w d=>bM_ K e a w d)
 | .seq _::K,.exit _,a,w,h=>bM_ K _ a w h
 | .seq _::K,.goto _,a,w,h=>bM_ K _ a w h
 | .seq _::K,.ret,a,w,h=>bM_ K _ a w h
 | .seq _::K,.panic _,a,w,h=>bM_ K _ a w h
 | .seq _::K,.outgrown,a,w,h=>bM_ K _ a w h
 | .inv J::_,.normal,_,_,h=>h
 | .inv _::K,.exit _,a,w,h=>bM_ K _ a w h
 | .inv _::K,.goto _,a,w,h=>bM_ K _ a w h
 | .inv _::K,.ret,a,w,h=>bM_ K _ a w h
 | .inv _::K,.panic _,a,w,h=>bM_ K _ a w h
 | .inv _::K,.outgrown,a,w,h=>bM_ K _ a w h
 | .blk id::K,.exit id',a,w,h=>by
   simp only[ej_,post]at h ⊢
   split
   · rename_i e;rw[if_pos e]at h;exact bM_ K _ a w h
   · rename_i e;rw[if_neg e]at h;exact bM_ K _ a w h
 | .blk _::K,.normal,a,w,h=>bM_ K _ a w h
 | .blk _::K,.goto _,a,w,h=>bM_ K _ a w h
 | .blk _::K,.ret,a,w,h=>bM_ K _ a w h
 | .blk _::K,.panic _,a,w,h=>bM_ K _ a w h
 | .blk _::K,.outgrown,a,w,h=>bM_ K _ a w h
end
end Go.Sx
namespace Go.Sx
open Go
section
variable {P:Program} {N:Nf} {v0:Vw} {H0:Hp} {R:Exit→Act→World→Prop} {K:List Kt} {fr:Fr} {H F:Hp} {Γ:List Fct} {ops:Array Oper} {l:List Oper} {d:Nat} {ty:TypeId} {ps:String} {af:Array Edge} {e:TypeId} {sz n:Nat} {sv:Value} {xs:List Value} {Hr:Hp}
theorem vS_ (z:List Value) (h:0<z.length) (n:Nat):madeCells z.toArray (n*z.length)=(jb_ z n).toArray:=jr_ z h n
theorem qC_ {t:TypeId} {x y:Operand} {by':Nat} {z:Value} (G:P.underlying t=some (.slice e)) (hi:(P.info? e).map (fun i=>(i.zero,i.size,i.bytes))=some (some z,sz,by')) (q:z.cells.toList.length=sz) (I:0<sz) (L:Fr.ev fr x=some (.int .i64 (n:Int))) (J:Fr.ev fr y=some (.int .i64 (n:Int)))
    (O:by'*n≤281474976710656) (A:n≤maxLen) (M:Nat.blt d N.n=true)
    (hk:∀ sv Hr,ax_ e sz sv n (jb_ z.cells.toList n) Hr→Ops P R N v0 H0 ops l K ((d,sv)::fr) (Hr++H) Γ):Ops P R N v0 H0 ops (⟨some d,.makeSlice t x y,ty,ps,af,none⟩::l) K fr H Γ:=by
  refine gt_ (x:=fun b=>.slice (some ⟨b,0,none⟩) n n) (o:=.cells (jb_ z.cells.toList n).toArray e (0,0)) M (fun a v C _ _=>?_) (fun b=>hk _ [(b,.cells (jb_ z.cells.toList n).toArray e (0,0))] ⟨?_,.inr ⟨b,n,(jb_ z.cells.toList n).toArray,rfl,rfl,Nat.le_refl _,A,?_,?_⟩⟩)
  · cases h:P.info? e with
    | none=>rw[h]at hi;cases hi
    | some i =>
      rw[h]at hi;simp only[Option.map_some,Option.some.injEq,Prod.mk.injEq]at hi
      have B:(i.bytes:Int)*(n:Int)≤281474976710656:=by
        rw[hi.2.2];have h:((by'*n:Nat):Int)≤281474976710656:=by omega
        rwa [Int.natCast_mul]at h
      have E:=run_make (P:=P) v.w t e i z G h hi.1 .i64 .i64 (n:Int) (n:Int) za_ (Int.le_refl _) B (by simp only[maxLen]at A;omega);have hm:=vS_ z.cells.toList za_ n;rw[q,Array.toArray_toList]at hm;rw[hi.2.1,Int.toNat_natCast,hm]at E;simp only[execOp,C.ev L,C.ev J];simp[E]
  · rw[ia_,q]
  · simp only[List.size_toArray];rw[ia_,q]
  · rw[List.toList_toArray,List.take_of_length_le (by rw[ia_,q];exact Nat.le_refl _)]
theorem pR_ {α:Type} (f:α→List Value) (z:α):∀ n,jb_ (f z) n=(List.replicate n z).flatMap f
  | 0=>rfl
  | n+1=>by rw[jb_,List.replicate_succ,List.flatMap_cons,pR_ f z n]
end
end Go.Sx
namespace Go.Vs
open Go Go.Sx
def Ky.cells (k:Ky):List Value:=[.int .i64 k.kind,str k.role,str k.atom]
def Ky.val (k:Ky):Value:=.agg k.cells.toArray
def qj_ (s:jD_):List Value:=[str s.1,str s.2]
def hJ_ (s:jD_):Value:=.agg (qj_ s).toArray
def Ky.eqb (p q:Ky):Bool:=(p.kind==q.kind)&&((p.role==q.role)&&((p.atom==q.atom)&&true))
theorem Ky.eqb_eq (p q:Ky):p.eqb q=decide (p=q):=by
  rw[Bool.eq_iff_iff];cases p;cases q;simp[Ky.eqb]
def yK_ (p q:jD_):Bool:=(p.1==q.1)&&((p.2==q.2)&&true)
theorem va_ (p q:jD_):yK_ p q=decide (p=q):=by
  rw[Bool.eq_iff_iff];cases p;cases q;simp[yK_]
theorem Fc.cells_one (p:Fc):p.cells.all Value.oneCell'=true:=rfl
end Go.Vs
namespace Go.Sx
open Go Go.Vs
structure Emt (P:Program) (tF:TypeId) where
  stp:Fc→List Fc→List Fc
  kof:List Fc→List Fc
  St:List Fc→List Fc→Hp→Prop
  fn:FuncId
  caps:List Value
  ef:Fct
  kb:Nat
  fb:Nat
  grows:Grows stp kof
  emit:∀ f nw fm H,St nw fm H→Tri P fn (f.val::caps).toArray H [ef] (fun _:{H':Hp // St (stp f nw) fm H'}=>.tuple #[]) (fun y=>y.1) (fun _=>[])
  known:∀ {nw fm H},St nw fm H→∃ es c,(kb,Obj.map es c)∈H∧SetE Fc.val es (kof nw)
  firm:∀ {nw fm H},St nw fm H→∃ es c q,(fb,Obj.map es c)∈H∧SetE Fc.val es q∧∀ f,f∈q↔f∈fm
  setf:∀ {nw fm H} (f:Fc),St nw fm H→∃ es c q Hr,H.Perm ((fb,Obj.map es c)::Hr)∧SetE Fc.val es q∧(∀ f,f∈q↔f∈fm)∧∀ es' c',SetE Fc.val es' (if f∈q then q else q++[f])→∃ H',St nw (f::fm) H'∧H'.Perm ((fb,Obj.map es' c')::Hr)
section
variable {P:Program} {N:Nf} {v0:Vw} {H0:Hp} {R:Exit→Act→World→Prop} {K:List Kt} {fr:Fr} {H:Hp} {Γ:List Fct}
variable {ops:Array Oper} {l:List Oper} {d:Nat} {ty:TypeId} {ps:String} {af:Array Edge} {tF:TypeId} {E:Emt P tF} {nw fm:List Fc} {Hs F:Hp}
theorem na_ {b:Nat} {o:Obj} {v:Vw} (e:H.Perm (Hs++F)) (hm:(b,o)∈Hs) (h:v.sat H):v.w.heap[b]? = some o:=(h.own _ (e.mem_iff.2 (List.mem_append_left _ hm))).1
theorem iF_ {t e:TypeId} {x y:Operand} {f:Fc} (hS:E.St nw fm Hs) (A:KeyT P tF Fc.val) (J:∀ w,(underlying t).run P w=.ok (.map tF e) w) (q:∀ w,(zeroValue e).run P w=.ok (.bool false) w) (I:Fr.ev fr x=some (.map (some E.kb))) (B:Fr.ev fr y=some f.val) (G:H.Perm (Hs++F)) :
    Yld P N fr H Γ (.lookup t x y false) ty (.bool (decide (f∈E.kof nw))):=by
  obtain⟨es,c,L,C⟩:=E.known hS;exact bt_ A J q I B C fun v h _=>na_ G L h
theorem pY_ {t A:TypeId} {x y:Operand} {f:Fc} (hS:E.St nw fm Hs) (G:KeyT P tF Fc.val) (O:∀ w,(underlying t).run P w=.ok (.map tF A) w) (B:∀ w,(zeroValue A).run P w=.ok (.bool false) w) (M:Fr.ev fr x=some (.map (some E.fb))) (I:Fr.ev fr y=some f.val) (L:H.Perm (Hs++F)) :
    Yld P N fr H Γ (.lookup t x y false) ty (.bool (decide (f∈fm))):=by
  obtain⟨es,c,q,Q,J,C⟩:=E.firm hS;have:=bt_ (P:=P) (N:=N) (H:=H) (Γ:=Γ) (ty:=ty) G O B M I J fun v h _=>na_ L Q h
  have e:decide (f∈q)=decide (f∈fm):=by rw[decide_eq_decide];exact C f
  rw[← e];exact this
theorem vI_ {o:Op} {t T:TypeId} {x y z:Operand} {f:Fc} (hS:E.St nw fm Hs) (G:KeyT P tF Fc.val) (J:o=.insert t x y z∨o=.mapUpdate t x y z) (S:∀ w,(underlying t).run P w=.ok (.map tF T) w)
    (O:Fr.ev fr x=some (.map (some E.fb))) (I:Fr.ev fr y=some f.val) (C:Fr.ev fr z=some (.bool true)) (L:H.Perm (Hs++F))
    (hk:∀ Hs',E.St nw (f::fm) Hs'→Ops P R N v0 H0 ops l K fr (Hs'++F) Γ):Ops P R N v0 H0 ops (⟨none,o,ty,ps,af,none⟩::l) K fr H Γ:=by
  obtain⟨es,c,q,Hr,M,B,W,Q⟩:=E.setf f hS;refine C_ (H':=(E.fb,.map es c)::(Hr++F)) (L.trans (by have:=M.append_right F;simpa using this)) ?_;refine ne_ 0 G J S O I C rfl B fun e A h=>?_;obtain⟨H',U,V⟩:=Q e A h;simp only[List.set_cons_zero];exact C_ (by have:=(V.append_right F).symm;simpa using this) (hk H' U)
end
structure EngB where
  g:Nat
  pb:Nat
  ab:Nat
  ub:Nat
  ob:Nat
  ib:Nat
  rb:Nat
  sb:Nat
  lad:Option Addr
  lcap:Nat
  lps:List Str
structure EngA where
  p:Ky→Option Addr×Nat
  a:Str→Option Addr×Nat
  u:Str→Option Addr×Nat
  o:jD_→Option Addr×Nat
  i:jD_→Option Addr×Nat
  r:jD_→Option Addr×Nat
  s:jD_→Option Addr×Nat
def EngB.cells (B:EngB) {P:Program} {tF:TypeId} (E:Emt P tF):List Value :=
  [.map (some B.pb),.slice B.lad B.lps.length B.lcap,.map (some E.kb),.func (.func E.fn) #[] E.caps.toArray,.map (some B.ab),.map (some B.ub),.map (some B.ob),.map (some B.ib),.map (some B.rb),.map (some B.sb),.map (some E.fb)]
structure IxH where
  a:Hp
  u:Hp
  o:Hp
  i:Hp
  r:Hp
  s:Hp
def IxO (tS tF:TypeId) (B:EngB) (x:Ix) (y:IxH):Prop :=
  cS_ str ak_ tS 1 x.above B.ab y.a∧cS_ str ak_ tS 1 x.under B.ub y.u∧cS_ hJ_ ak_ tS 1 x.frm B.ob y.o∧cS_ hJ_ ak_ tS 1 x.into B.ib y.i∧cS_ hJ_ Fc.cells tF 6 x.ranges B.rb y.r∧cS_ hJ_ Fc.cells tF 6 x.firms B.sb y.s
end Go.Sx
