/-
  Part of the proof of the law CanonGrows over this seat: the small logic, the data, the contracts of functions (no condition).
-/
import Derived.Test.YtpbnmnfdgckaiaaGreatDoorQCanonGrows7
import Derived.Test.YtpbnmnfdgckaiaaGreatDoorQCanonGrows1
import Derived.Scope
import Derived.Test.YtpbnmnfdgckaiaaGreatDoorQCanonGrows6
import Derived.Lib.Join
import Derived.Lib.AppendZeros
import Derived.Test.YtpbnmnfdgckaiaaGreatDoorQCanonGrows2
import Derived.Test.YtpbnmnfdgckaiaaGreatDoorQCanonGrows3
import Derived.Maps.RangeRun
import Derived.WalkSpells
set_option linter.unusedVariables false
set_option linter.unusedSimpArgs false
set_option linter.unusedSectionVars false
set_option maxHeartbeats 1000000
namespace Go.Sx
open Go Go.Vs
theorem qy_ {P:Program} {f:FuncId} {args:Array Value} {H:Hp} {Γ J:List Fct} {ι:Type} {E:ι→Value} {H':ι→Hp} (B:Hp) (L:Tri P f args H Γ E H' (fun _=>[]))
    (O:∀ v:Vw,(∀ p∈B,v.im p.1∧v.w.heap[p.1]? = some p.2)→ag_ J v→ag_ Γ v):Tri P f args (B++H) J E (fun x=>B++H' x) (fun _=>[]):=by
  refine⟨L.callable,fun v A Q=>?_⟩;have y:=A.nodup;rw[List.map_append,List.nodup_append]at y;have G:∀ p∈B,p.1<v.w.heap.size:=fun p k=>(Array.getElem?_eq_some_iff.1 (A.own p (List.mem_append_left _ k)).1).1
  have M:(⟨fun b=>v.im b∨b∈B.map Prod.fst,v.w,v.sl⟩:Vw).sat H:=by
    refine⟨fun p k=>⟨(A.own p (List.mem_append_right _ k)).1,fun hi=>?_⟩,y.2.1,fun b m=>?_⟩
    · rcases hi with hi|hi
      · exact (A.own p (List.mem_append_right _ k)).2 hi
      · exact y.2.2 _ hi _ (List.mem_map_of_mem k) rfl
    · rcases m with m|m
      · exact A.lt b m
      · obtain⟨p,k,rfl⟩:=List.mem_map.1 m
        exact G p k
  have I:v.le ⟨fun b=>v.im b∨b∈B.map Prod.fst,v.w,v.sl⟩:=⟨fun b h=>.inl h,fun _ _=>rfl,rfl⟩;have T:=O ⟨fun b=>v.im b∨b∈B.map Prod.fst,v.w,v.sl⟩ (fun p k=>⟨.inr (List.mem_map_of_mem k),(A.own p (List.mem_append_left _ k)).1⟩) (az_ I Q);refine (L.run _ M T).mono ?_;rintro e w' ⟨x,F,rfl,rfl,C,_,q⟩;have hB:∀ b,b∈B.map Prod.fst→F.im b:=fun b m=>q.imUp b (.inr m)
  refine⟨x,⟨fun b=>F.im b∧b ∉ B.map Prod.fst,F.w,F.sl⟩,rfl,rfl,⟨fun p k=>?_,?_,fun b m=>C.lt b m.1⟩,trivial,?_⟩
  · rcases List.mem_append.1 k with k|k
    · refine⟨?_,fun h=>h.2 (List.mem_map_of_mem k)⟩
      have:=(q.le M).block p.1 (.inr (List.mem_map_of_mem k));exact this.trans (A.own p (List.mem_append_left _ k)).1
    · exact⟨(C.own p k).1,fun h=>(C.own p k).2 h.1⟩
  · rw[List.map_append,List.nodup_append]
    refine⟨y.1,C.nodup,fun a S b m e=>?_⟩;subst e;obtain⟨p,k,rfl⟩:=List.mem_map.1 m;exact (C.own p k).2 (hB _ S)
  · refine⟨q.os,q.tape,q.output,q.size,fun b m U=>q.block b m (fun hm=>U ?_),fun b m=>⟨q.imUp b (.inl m),fun hm=>?_⟩,fun b m=>?_,fun b m=>?_,q.sl,q.dr⟩
    · rw[List.map_append];exact List.mem_append_right _ hm
    · obtain⟨p,k,rfl⟩:=List.mem_map.1 hm
      exact (A.own p (List.mem_append_left _ k)).2 m
    · rcases q.imNew b m.1 with (h|h)|h|h
      · exact .inl h
      · exact absurd h m.2
      · exact .inr (.inl (by rw[List.map_append];exact List.mem_append_right _ h))
      · exact .inr (.inr h)
    · rw[List.map_append]at m ⊢
      rcases List.mem_append.1 m with h|h
      · exact .inl (List.mem_append_left _ h)
      · exact (q.hNew b h).imp (List.mem_append_right _) id
structure KeyT (P:Program) (kt:TypeId) {K:Type} [DecidableEq K] (kv:K→Value):Prop where
  ok:∀ k,ht_ P kt (kv k)
  nf:∀ (k:K) (es:List MapEntry) (ks:List K),es.map (·.key)=ks.map kv→k ∉ ks→dJ_ P kt (kv k) es none
  sf:∀ (k:K) (es:List MapEntry) (ks:List K) (i:Nat) (e:MapEntry),es.map (·.key)=ks.map kv→ks.Nodup→ks[i]? = some k→es[i]? = some e→dJ_ P kt (kv k) es (some (i,e.val))
  same:∀ k,Instr.sameBits 10000 (kv k) (kv k)=true
section
variable {P:Program}
theorem oo_ (a b:List UInt8):((⟨a.toArray⟩:ByteArray)==⟨b.toArray⟩)=decide (a=b):=by
  show (a.toArray==b.toArray)=_
  rw[Bool.eq_iff_iff];simp
theorem rm_ {kt:TypeId} (B:P.underlying kt=some .string):KeyT P kt str where
  ok:=fun k e w=>by
    have key:∀ m,(Instr.checkKey e (m+1) kt (str k)).run P w=.ok () w:=fun m=>by simp[Instr.checkKey,run_underlying B,str]
    exact key 9999
  nf:=fun k es ks h hk=>aW_ B (by
    have:∀ (ks:List Str) (es:List MapEntry) (i:Nat),es.map (·.key)=ks.map str→k ∉ ks→Instr.findNow .string (str k) es i=some none:=by
      intro ks
      induction ks with
      | nil => intro es i h _; have : es = [] := by simpa using h
               subst this;rfl
      | cons q ks ih =>
        intro es i h hk;cases es with
        | nil=>simp at h
        | cons e es =>
          simp only[List.map_cons,List.cons.injEq]at h;simp only[List.mem_cons,not_or]at hk
          have y:Instr.sameNow .string (str k) e.key=some false:=by
            rw[h.1];show some ((⟨k.toArray⟩:ByteArray)==⟨q.toArray⟩)=some false
            rw[oo_,decide_eq_false hk.1]
          simp only[Instr.findNow,y];exact ih es (i+1) h.2 hk.2
    exact this ks es 0 h hk)
  sf:=fun k es ks i e h A hi v=>aW_ B (by
    have:∀ (ks:List Str) (es:List MapEntry) (j i:Nat),es.map (·.key)=ks.map str→ks.Nodup→ks[i]? = some k→es[i]? = some e→Instr.findNow .string (str k) es j=some (some (j+i,e.val)):=by
      intro ks
      induction ks with
      | nil=>intro es j i _ _ h;simp at h
      | cons q ks ih =>
        intro es j i h A hi v;cases es with
        | nil=>simp at h
        | cons x es =>
          simp only[List.map_cons,List.cons.injEq]at h;rw[List.nodup_cons]at A;cases i with
          | zero =>
            simp only[List.getElem?_cons_zero,Option.some.injEq]at hi v;subst hi;subst v
            have y:Instr.sameNow .string (str q) x.key=some true:=by
              rw[h.1];show some ((⟨q.toArray⟩:ByteArray)==⟨q.toArray⟩)=some true
              rw[oo_,decide_eq_true rfl]
            simp only[Instr.findNow,y,Nat.add_zero]
          | succ i =>
            simp only[List.getElem?_cons_succ]at hi v;have C:k≠q:=fun e=>A.1 (e▸List.mem_of_getElem? hi)
            have y:Instr.sameNow .string (str k) x.key=some false:=by
              rw[h.1];show some ((⟨k.toArray⟩:ByteArray)==⟨q.toArray⟩)=some false
              rw[oo_,decide_eq_false C]
            simp only[Instr.findNow,y];rw[ih es (j+1) i h.2 A.2 hi v,show j+1+i=j+(i+1) by omega]
    have:=this ks es 0 i h A hi v;rwa [Nat.zero_add]at this)
  same:=fun k=>by
    have key:∀ m,Instr.sameBits m (str k) (str k)=true:=fun m=>by
      cases m<;>(show ((⟨k.toArray⟩:ByteArray)==⟨k.toArray⟩)=true;rw[oo_,decide_eq_true rfl])
    exact key 10000
theorem fS_ {K:Type} [DecidableEq K] {kt:TypeId} {fs:Array Field} {kv:K→Value} (F:P.underlying kt=some (.struct fs)) (C:∀ k,ht_ P kt (kv k)) (y:∀ p q w,(Op.equal kt (kv p) (kv q)).run P w=.ok (decide (p=q)) w) (v:∀ k,Instr.sameBits 10000 (kv k) (kv k)=true):KeyT P kt kv where
  ok:=C
  nf:=fun k es ks h hk=>(hT_ F y k ks es h).1 hk
  sf:=fun k es ks i e h B hi m=>by
    have key:∀ (ks:List K) (es:List MapEntry) (j i:Nat),es.map (·.key)=ks.map kv→ks.Nodup→ks[i]? = some k→es[i]? = some e→∀ w,(Instr.findAsking kt (kv k) es j).run P w=.ok (some (j+i,e.val)) w:=by
      intro ks
      induction ks with
      | nil=>intro es j i _ _ h;simp at h
      | cons q ks ih =>
        intro es j i h B hi m w;cases es with
        | nil=>simp at h
        | cons x es =>
          simp only[List.map_cons,List.cons.injEq]at h;rw[List.nodup_cons]at B;cases i with
          | zero =>
            simp only[List.getElem?_cons_zero,Option.some.injEq]at hi m;subst hi;subst m;simp only[Instr.findAsking,Sem.run_bind,h.1,y,Result.andThen_ok,decide_true,if_true,Sem.run_pure,Nat.add_zero]
          | succ i =>
            simp only[List.getElem?_cons_succ]at hi m;have E:k≠q:=fun e=>B.1 (e▸List.mem_of_getElem? hi)
            simp only[Instr.findAsking,Sem.run_bind,h.1,y,Result.andThen_ok,E,decide_false,Bool.false_eq_true,if_false];rw[ih es (j+1) i h.2 B.2 hi m w,show j+1+i=j+(i+1) by omega]
    intro w;have A:∀ (x:MapEntry) (r:List MapEntry),Instr.findNow (.struct fs) (kv k) (x::r) 0=none:=fun x r=>by simp[Instr.findNow,Instr.sameNow]
    cases es with
    | nil=>simp at m
    | cons x r =>
      simp only[Instr.findKey,Sem.run_bind,run_underlying F,Result.andThen_ok,A];have:=key ks (x::r) 0 i h B hi m w;rwa [Nat.zero_add]at this
  same:=v
end
theorem eC_ (n:Nat) {k:IntKind} (i:Int):Instr.sameBits n (.int k i) (.int k i)=true:=by
  cases n<;>simp[Instr.sameBits]
theorem dz_ (n:Nat) (s:List UInt8):Instr.sameBits n (str s) (str s)=true:=by
  cases n<;>(show ((⟨s.toArray⟩:ByteArray)==⟨s.toArray⟩)=true;rw[oo_,decide_eq_true rfl])
theorem iF_ {n:Nat} {l:List Value} (h:∀ v∈l,Instr.sameBits n v v=true):Instr.sameBits (n+1) (.agg l.toArray) (.agg l.toArray)=true:=by
 simp only[Instr.sameBits,BEq.rfl,Bool.true_and,List.all_eq_true];intro p k
 have:∀ (l:List Value),(∀ v∈l,Instr.sameBits n v v=true)→∀ p∈l.zip l,Instr.sameBits n p.1 p.2=true:=by
   intro l
   induction l with
   | nil=>intro _ p k;simp at k
   | cons a l ih =>
     intro h p k;simp only[List.zip_cons_cons,List.mem_cons]at k;rcases k with rfl|k
     · exact h a zC_
     · exact ih (fun v m=>h v (by simp[m])) p k
 exact this l h p k
structure Born (es:Array MapEntry) (c:Nat):Prop where
  lt:∀ x∈es.toList,x.born<c
  nd:(es.toList.map (·.born)).Nodup
theorem Born.nil (c:Nat):Born #[] c:=⟨by simp,by simp⟩
theorem Born.push {es:Array MapEntry} {c:Nat} (h:Born es c) (m val:Value):Born (es.push ⟨m,val,c⟩) (c+1):=by
 refine⟨fun x k=>?_,?_⟩
 ·rw[Array.toList_push,List.mem_append]at k
  rcases k with k|k
  ·exact Nat.lt_succ_of_lt (h.lt x k)
  rw[List.mem_singleton]at k;rw[k];exact Nat.lt_succ_self _
 rw[Array.toList_push,List.map_append,List.nodup_append];refine⟨h.nd,by simp,fun a v b q e=>?_⟩;obtain⟨x,k,rfl⟩:=List.mem_map.1 v;simp at q
 have:=h.lt x k;omega
theorem Born.modify {es:Array MapEntry} {c:Nat} (h:Born es c) (i:Nat) (f:MapEntry→MapEntry) (q:∀ e,(f e).born=e.born):Born (es.modify i f) c:=by
 have k:(es.modify i f).toList.map (·.born)=es.toList.map (·.born):=by
   apply List.ext_getElem?
   intro j;simp only[List.getElem?_map,Array.getElem?_toList,Array.getElem?_modify]
   split
   · cases es[j]? <;> simp[q]
   · rfl
 refine⟨fun x v=>?_,by rw[k];exact h.nd⟩;have:x.born∈(es.modify i f).toList.map (·.born):=List.mem_map_of_mem v;rw[k]at this;obtain⟨y,m,e⟩:=List.mem_map.1 this;rw[← e];exact h.lt y m
theorem Born.find {es:Array MapEntry} {c i:Nat} {x:MapEntry} (h:Born es c) (q:es[i]? = some x):es.findIdx? (fun e=>(e.born:Int)==(x.born:Int))=some i:=by
  rw[Array.findIdx?_eq_some_iff_getElem];obtain⟨hi,rfl⟩:=Array.getElem?_eq_some_iff.1 q;refine⟨hi,by simp,fun j m=>?_⟩;simp only[beq_eq_false_iff_ne,ne_eq,Bool.not_eq_true];intro e;have k:j<es.size:=Nat.lt_trans m hi;have:=h.nd;rw[List.nodup_iff_pairwise_ne,List.pairwise_iff_getElem]at this;have:=this j i zaC_ (by simpa using hi) m;simp at this
  exact this (by exact_mod_cast e)
section
variable {K D:Type} [DecidableEq K] (kv:K→Value) (cells:D→List Value) (e:TypeId) (sz:Nat) (l:List (K×D))
def hs_:List K→List MapEntry→Hp→Prop
  | [],[],H=>H=[]
  | k::ks,x::es,H=>∃ Hk Hr,H=Hk++Hr∧x.key=kv k∧aB_ e sz x.val (lat l k).length ((lat l k).flatMap cells) Hk∧hs_ ks es Hr
  | _,_,_=>False
def dl_ (mb:Nat) (H:Hp):Prop:=∃ ks es c Hr,H=(mb,.map es c)::Hr∧ks.Nodup∧(∀ x∈l,x.1∈ks)∧hs_ kv cells e sz l ks es.toList Hr∧Born es c
end
section
variable {K D:Type} [DecidableEq K] {kv:K→Value} {cells:D→List Value} {e:TypeId} {sz:Nat} {l:List (K×D)}
theorem hs_.keys:∀ {ks:List K} {es:List MapEntry} {H:Hp},hs_ kv cells e sz l ks es H→es.map (·.key)=ks.map kv
  | [],[],_,_=>rfl
  | k::ks,x::es,_,h=>by
    obtain⟨v,Hr,_,m,_,q⟩:=h;simp[m,q.keys]
  | [],_::_,_,h=>h.elim
  | _::_,[],_,h=>h.elim
theorem hs_.congr {m:List (K×D)}:∀ {ks:List K} {es:List MapEntry} {H:Hp},(∀ k∈ks,lat m k=lat l k)→hs_ kv cells e sz l ks es H→hs_ kv cells e sz m ks es H
  | [],[],_,_,h=>h
  | k::ks,x::es,_,hl,h=>by
    obtain⟨A,Hr,E,v,y,C⟩:=h;exact⟨A,Hr,E,v,by rw[hl k zC_];exact y,C.congr fun q B=>hl q (by simp[B])⟩
  | [],_::_,_,_,h=>h.elim
  | _::_,[],_,_,h=>h.elim
theorem hs_.get : ∀ {ks : List K} {es : List MapEntry} {H : Hp} {i : Nat} {k : K}, hs_ kv cells e sz l ks es H → ks.Nodup → ks[i]? = some k → ∃ x A Hr, es[i]? = some x ∧ H.Perm (A ++ Hr) ∧ x.key = kv k ∧ aB_ e sz x.val (lat l k).length ((lat l k).flatMap cells) A ∧
      ∀ (v:List (K×D)) (y:MapEntry) (m:Hp),y.key=kv k→(∀ q,q≠k→lat v q=lat l q)→aB_ e sz y.val (lat v k).length ((lat v k).flatMap cells) m→∃ H',hs_ kv cells e sz v ks (es.set i y) H'∧H'.Perm (m++Hr)
  | [],_,_,_,_,_,_,h=>by simp at h
  | _::_,[],_,_,_,h,_,_=>h.elim
  | q::ks,x::es,H,0,k,h,hn,hi=>by
    simp only[List.getElem?_cons_zero,Option.some.injEq]at hi;subst hi;rw[List.nodup_cons]at hn;obtain⟨A,Hr,I,E,G,M⟩:=h;exact⟨x,A,Hr,rfl,I▸.refl _,E,G,fun v y m J C F=>⟨m++Hr,⟨m,Hr,rfl,J,F,M.congr fun z T=>C z (fun e=>hn.1 (e▸T))⟩,.refl _⟩⟩
  | q::ks,x::es,H,i+1,k,h,hn,hi=>by
    simp only[List.getElem?_cons_succ]at hi;rw[List.nodup_cons]at hn;obtain⟨B,Y,I,E,G,M⟩:=h;obtain⟨y,A,Hr,U,S,Q,V,O⟩:=M.get hn.2 hi;have L:q≠k:=fun e=>hn.1 (e▸List.mem_of_getElem? hi)
    refine⟨y,A,B++Hr,U,?_,Q,V,fun v z m J C F=>?_⟩
    · rw[I]
      refine (List.Perm.append_left B S).trans ?_;rw[← List.append_assoc,← List.append_assoc];exact List.perm_append_comm.append_right _
    · obtain⟨H',X,W⟩:=O v z m J C F
      refine⟨B++H',⟨B,H',rfl,E,by rw[C q L];exact G,X⟩,(List.Perm.append_left B W).trans ?_⟩;rw[← List.append_assoc,← List.append_assoc];exact List.perm_append_comm.append_right _
theorem hs_.push:∀ {ks:List K} {es:List MapEntry} {H:Hp} {k:K} {x:MapEntry} {Hk:Hp},hs_ kv cells e sz l ks es H→x.key=kv k→aB_ e sz x.val (lat l k).length ((lat l k).flatMap cells) Hk→hs_ kv cells e sz l (ks++[k]) (es++[x]) (H++Hk)
  | [],[],_,k,x,Hk,h,h1,h2=>by subst h;exact⟨Hk,[],by simp,h1,h2,rfl⟩
  | q::ks,y::es,_,k,x,Hk,h,h1,h2=>by
    obtain⟨m,Hr,rfl,B,v,A⟩:=h;exact⟨m,Hr++Hk,by simp,B,v,A.push h1 h2⟩
  | [],_::_,_,_,_,_,h,_,_=>h.elim
  | _::_,[],_,_,_,_,h,_,_=>h.elim
theorem jk_ {k q:K} {d:D} (h:q≠k):lat (l++[(k,d)]) q=lat l q:=by
  rw[nS_];simp[lat,Ne.symm h]
theorem es_ {k:K} {d:D}:lat (l++[(k,d)]) k=lat l k++[d]:=by
  rw[nS_];simp[lat]
theorem dl_.open {P:Program} {kt:TypeId} (Q:KeyT P kt kv) {A:Nat} {H:Hp} (h:dl_ kv cells e sz l A H) (k:K) :
    ∃ es c sv F Hr,H.Perm ((A,.map es c)::(F++Hr))∧aB_ e sz sv (lat l k).length ((lat l k).flatMap cells) F ∧
      ((dJ_ P kt (kv k) es.toList none∧sv=.slice none 0 0∧∀ d sv' m,aB_ e sz sv' (lat (l++[(k,d)]) k).length ((lat (l++[(k,d)]) k).flatMap cells) m→∃ H',dl_ kv cells e sz (l++[(k,d)]) A H'∧H'.Perm ((A,.map (es.push ⟨kv k,sv',c⟩) (c+1))::(m++Hr))) ∨
       (∃ i x,dJ_ P kt (kv k) es.toList (some (i,sv))∧es[i]? = some x∧x.key=kv k∧x.val=sv∧∀ d sv' m,aB_ e sz sv' (lat (l++[(k,d)]) k).length ((lat (l++[(k,d)]) k).flatMap cells) m→∃ H',dl_ kv cells e sz (l++[(k,d)]) A H'∧H'.Perm ((A,.map (es.modify i fun y=>{ y with key:=kv k,val:=sv' }) c)::(m++Hr)))):=by
  obtain⟨ks,es,c,T,rfl,G,hl,hm,B⟩:=h
  by_cases hk:k∈ks
  · obtain⟨i,hi⟩:=List.getElem?_of_mem hk
    obtain⟨x,F,Hr,M,X,Y,g4,U⟩:=hm.get G hi;have O:es[i]? = some x:=by rw[← Array.getElem?_toList];exact M
    refine⟨es,c,x.val,F,Hr,.cons _ X,g4,.inr ⟨i,x,Q.sf k es.toList ks i x hm.keys G hi M,O,Y,rfl,fun d sv' m J=>?_⟩⟩;obtain⟨H',j1,j2⟩:=U (l++[(k,d)]) { x with key:=kv k,val:=sv' } m rfl (fun q L=>jk_ L) J;refine⟨(A,.map (es.modify i fun y=>{ y with key:=kv k,val:=sv' }) c)::H',⟨ks,_,c,H',rfl,G,fun y v=>?_,?_,B.modify i _ fun _=>rfl⟩,.cons _ j2⟩
    · rcases List.mem_append.1 v with v|v
      · exact hl y v
      · simp at v;rw[v];exact hk
    · have W:(es.modify i fun y=>{ y with key:=kv k,val:=sv' }).toList=es.toList.set i { x with key:=kv k,val:=sv' }:=by
        apply List.ext_getElem?
        intro j;rw[Array.getElem?_toList,Array.getElem?_modify,List.getElem?_set,Array.getElem?_toList]
        by_cases E:i=j
        · subst E
          have I:i<es.toList.length:=(List.getElem?_eq_some_iff.1 M).1;simp only[if_true,O,Option.map_some,if_pos I]
        · simp[E]
      rw[W];exact j1
  · have C:lat l k=[]:=by
      apply List.eq_nil_iff_forall_not_mem.2
      intro d Z;exact hk (hl _ (bP_.1 Z))
    refine⟨es,c,.slice none 0 0,[],T,.refl _,by rw[C];exact aB_.nil _ _,.inl ⟨Q.nf k es.toList ks hm.keys hk,rfl,fun d sv' m J=>?_⟩⟩;refine⟨(A,.map (es.push ⟨kv k,sv',c⟩) (c+1))::(T++m),⟨ks++[k],_,_,_,rfl,?_,fun y v=>?_,?_,B.push _ _⟩,.cons _ List.perm_append_comm⟩
    · rw[List.nodup_append];exact⟨G,by simp,fun a V b S e=>by simp at S;subst S;subst e;exact hk V⟩
    · rcases List.mem_append.1 v with v|v
      · exact List.mem_append_left _ (hl y v)
      · simp at v;simp[v]
    · rw[Array.toList_push]
      exact (hm.congr fun q L=>jk_ (fun (e:q=k)=>hk (e▸L))).push rfl J
structure MOpn (kv:K→Value) (cells:D→List Value) (e:TypeId) (sz:Nat) (l:List (K×D)) (mb:Nat) (k:K) (es:Array MapEntry) (c i:Nat) (st:Int) (Hr:Hp):Prop where
  find:es.findIdx? (fun x=>(x.born:Int)==st)=some i
  close:∀ d sv' Hk',aB_ e sz sv' (lat (l++[(k,d)]) k).length ((lat (l++[(k,d)]) k).flatMap cells) Hk'→∃ H',dl_ kv cells e sz (l++[(k,d)]) mb H'∧H'.Perm ((mb,.map (es.modify i fun y=>{ y with val:=sv' }) c)::(Hk'++Hr))
theorem sr_ {es:Array MapEntry} {i:Nat} {x:MapEntry} {key:Value} (k:es[i]? = some x) (hk:x.key=key):(es.modify i fun y=>{ y with key:=key })=es:=by
 apply Array.ext_getElem?
 intro j;rw[Array.getElem?_modify]
 by_cases h:i=j
 ·subst h;rw[if_pos rfl,k];simp only[Option.map_some];rw[← hk]
 rw[if_neg h]
theorem dl_.entry {P:Program} {kt:TypeId} (W:KeyT P kt kv) {G:Nat} {H:Hp} (h:dl_ kv cells e sz l G H) (k:K) :
    ∃ es c A T i st sv J Hr,H.Perm ((G,.map es c)::(J++Hr))∧aB_ e sz sv (lat l k).length ((lat l k).flatMap cells) J∧MOpn kv cells e sz l G k A T i st Hr ∧
      ((dJ_ P kt (kv k) es.toList none∧sv=.slice none 0 0∧A=es.push ⟨kv k,.slice none 0 0,c⟩∧T=c+1∧st=(c:Int))∨(∃ j x,dJ_ P kt (kv k) es.toList (some (j,sv))∧es[j]? = some x∧x.key=kv k∧A=es∧T=c∧st=(x.born:Int))):=by
  have h0:=h;obtain⟨ks,es,c,Z,rfl,L,hl,hm,v⟩:=h0
  by_cases hk:k∈ks
  · obtain⟨i,hi⟩:=List.getElem?_of_mem hk
    obtain⟨x,J,Hr,U,g2,X,g4,g5⟩:=hm.get L hi;have S:es[i]? = some x:=by rw[← Array.getElem?_toList];exact U
    refine⟨es,c,es,c,i,x.born,x.val,J,Hr,.cons _ g2,g4,⟨v.find S,fun d sv' B O=>?_⟩,.inr ⟨i,x,W.sf k es.toList ks i x hm.keys L hi U,S,X,rfl,rfl,rfl⟩⟩;obtain⟨H',j1,j2⟩:=g5 (l++[(k,d)]) { x with key:=kv k,val:=sv' } B rfl (fun q Q=>jk_ Q) O;refine⟨(G,.map (es.modify i fun y=>{ y with val:=sv' }) c)::H',⟨ks,_,c,H',rfl,L,fun y m=>?_,?_,v.modify i _ fun _=>rfl⟩,.cons _ j2⟩
    · rcases List.mem_append.1 m with m|m
      · exact hl y m
      · simp at m;rw[m];exact hk
    · have e1:(es.modify i fun y=>{ y with val:=sv' }).toList=es.toList.set i { x with key:=kv k,val:=sv' }:=by
        apply List.ext_getElem?
        intro j;rw[Array.getElem?_toList,Array.getElem?_modify,List.getElem?_set,Array.getElem?_toList]
        by_cases F:i=j
        · subst F
          have M:i<es.toList.length:=(List.getElem?_eq_some_iff.1 U).1;simp only[if_true,S,Option.map_some,if_pos M];rw[← X]
        · simp[F]
      rw[e1];exact j1
  · have E:lat l k=[]:=by
      apply List.eq_nil_iff_forall_not_mem.2
      intro d hd;exact hk (hl _ (bP_.1 hd))
    have V:=v.push (kv k) (.slice none 0 0);have C:(es.push ⟨kv k,.slice none 0 0,c⟩)[es.size]? = some ⟨kv k,.slice none 0 0,c⟩:=by simp
    refine⟨es,c,es.push ⟨kv k,.slice none 0 0,c⟩,c+1,es.size,(c:Int),.slice none 0 0,[],Z,.refl _,by rw[E];exact aB_.nil _ _,⟨V.find C,fun d sv' B O=>?_⟩,.inl ⟨W.nf k es.toList ks hm.keys hk,rfl,rfl,rfl,rfl⟩⟩
    have e2:((es.push ⟨kv k,.slice none 0 0,c⟩).modify es.size fun y=>{ y with val:=sv' })=es.push ⟨kv k,sv',c⟩:=by
      apply Array.ext_getElem?
      intro j;rw[Array.getElem?_modify,Array.getElem?_push,Array.getElem?_push]
      by_cases I:j=es.size
      · subst I;simp
      · rw[if_neg (fun q=>I q.symm),if_neg I,if_neg I]
    rw[e2];refine⟨(G,.map (es.push ⟨kv k,sv',c⟩) (c+1))::(Z++B),⟨ks++[k],_,_,_,rfl,?_,fun y m=>?_,?_,v.push _ _⟩,.cons _ List.perm_append_comm⟩
    · rw[List.nodup_append];exact⟨L,by simp,fun a ha b Y e=>by simp at Y;subst Y;subst e;exact hk ha⟩
    · rcases List.mem_append.1 m with m|m
      · exact List.mem_append_left _ (hl y m)
      · simp at m;simp[m]
    · rw[Array.toList_push]
      exact (hm.congr fun q Q=>jk_ (fun (e:q=k)=>hk (e▸Q))).push rfl O
theorem dl_.nil (h:Nat) (c:Nat):dl_ kv cells e sz ([]:List (K×D)) h [(h,.map #[] c)]:=⟨[],#[],c,[],rfl,List.nodup_nil,by simp,rfl,Born.nil c⟩
def mlF (P:Program) (kt:TypeId) (kv:K→Value) (cells:D→List Value) (mb:Nat) (l:List (K×D)) (adr:K→Option Addr×Nat):Fct where
  p:=fun v=>v.im mb∧∃ es c,v.w.heap[mb]? = some (.map es c)∧∀ k,bz_ v (adr k).1 ((lat l k).flatMap cells) ∧
    ((dJ_ P kt (kv k) es.toList none∧Value.slice (adr k).1 (lat l k).length (adr k).2=.slice none 0 0)∨∃ i,dJ_ P kt (kv k) es.toList (some (i,.slice (adr k).1 (lat l k).length (adr k).2)))
  mono:=fun v v' h ⟨h1,es,c,h2,h3⟩=>⟨h.imUp mb h1,es,c,by rw[h.block mb h1];exact h2,fun k=>⟨(V_ _ _).mono v v' h (h3 k).1,(h3 k).2⟩⟩
theorem bl_ {P:Program} {kt:TypeId} {m:Nat} {adr:K→Option Addr×Nat} {v:Vw} (h:(mlF P kt kv cells m l adr).p v) (k:K):bz_ v (adr k).1 ((lat l k).flatMap cells):=by
  obtain⟨_,_,_,_,h⟩:=h;exact (h k).1
theorem tU_ {sv:Value} {n:Nat} {m:List Value} {Hr:Hp} {v:Vw} (h:aB_ e sz sv n m Hr) (y:∀ p∈Hr,v.im p.1∧v.w.heap[p.1]? = some p.2):∃ ad cap,sv=.slice ad n cap∧n≤cap∧cap≤maxLen∧(n≠0→∃ b,ad=some ⟨b,0,none⟩)∧bz_ v ad m:=by
 rcases h.2 with⟨rfl,rfl,rfl⟩|⟨g,cap,cur,rfl,rfl,C,E,F,A⟩
 ·have:m=[]:=List.eq_nil_of_length_eq_zero (by simpa using h.1)
  exact⟨none,0,rfl,Nat.le_refl _,by simp[maxLen],fun h=>absurd rfl h,.inl this⟩
 obtain⟨B,q⟩:=y _ (List.mem_singleton.2 rfl);refine⟨some ⟨g,0,none⟩,cap,rfl,C,E,fun _=>⟨g,rfl⟩,.inr ⟨g,0,cur,e,(0,0),rfl,B,q,fun j x k=>?_⟩⟩;rw[← A,List.getElem?_take]at k
 split at k
 ·rw[Nat.zero_add,← Array.getElem?_toList];exact k
 cases k
theorem dl_.lentC {P:Program} {kt:TypeId} (M:KeyT P kt kv) {J:Nat} {H:Hp} (h:dl_ kv cells e sz l J H):∃ adr:K→Option Addr×Nat,(∀ k,(lat l k).length≤(adr k).2∧((adr k).1=none→(adr k).2=0))∧∀ v:Vw,(∀ p∈H,v.im p.1∧v.w.heap[p.1]? = some p.2)→(mlF P kt kv cells J l adr).p v:=by
 have U:=h;obtain⟨ks,es,c,Z,rfl,O,hl,hm,_⟩:=U
 have y:∀ k,∃ q:Option Addr×Nat,((lat l k).length≤q.2∧(q.1=none→q.2=0))∧∀ v:Vw,(∀ p∈(J,Obj.map es c)::Z,v.im p.1∧v.w.heap[p.1]? = some p.2)→bz_ v q.1 ((lat l k).flatMap cells)∧((dJ_ P kt (kv k) es.toList none∧Value.slice q.1 (lat l k).length q.2=.slice none 0 0)∨∃ i,dJ_ P kt (kv k) es.toList (some (i,.slice q.1 (lat l k).length q.2))):=fun k=>by
   by_cases hk:k∈ks
   · obtain⟨i,hi⟩:=List.getElem?_of_mem hk
     obtain⟨x,Hk,Hr,B,E,g3,Q,_⟩:=hm.get O hi;have V:=M.sf k es.toList ks i x hm.keys O hi B
     have F:∃ ad cap,x.val=.slice ad (lat l k).length cap∧(lat l k).length≤cap∧(ad=none→cap=0):=by
       rcases Q.2 with⟨I,q2,_⟩|⟨g,cap,cur,I,_,T,_⟩
       · exact⟨none,0,by rw[I,q2],by omega,fun _=>rfl⟩
       · exact⟨_,cap,I,T,fun q=>by cases q⟩
     obtain⟨ad,cap,L,G⟩:=F;refine⟨(ad,cap),G,fun v A=>⟨?_,.inr ⟨i,by rw[← L];exact V⟩⟩⟩;obtain⟨a0,S,C,_,_,_,X⟩:=tU_ Q fun p Y=>A p (List.mem_cons_of_mem _ (E.mem_iff.2 (List.mem_append_left _ Y)))
     rw[L]at C;simp only[Value.slice.injEq]at C;rw[C.1];exact X
   · have m:lat l k=[]:=by
       apply List.eq_nil_iff_forall_not_mem.2
       intro d W;exact hk (hl _ (bP_.1 W))
     exact⟨(none,0),⟨by rw[m];simp,fun _=>rfl⟩,fun v A=>⟨.inl (by rw[m];rfl),.inl ⟨M.nf k es.toList ks hm.keys hk,by rw[m];rfl⟩⟩⟩
 refine⟨fun k=>(y k).choose,fun k=>(y k).choose_spec.1,fun v A=>?_⟩;obtain⟨B,E⟩:=A _ List.mem_cons_self;exact⟨B,es,c,E,fun k=>(y k).choose_spec.2 v A⟩
theorem dl_.lent {P:Program} {kt:TypeId} (m:KeyT P kt kv) {k:Nat} {H:Hp} (h:dl_ kv cells e sz l k H):∃ adr,∀ v:Vw,(∀ p∈H,v.im p.1∧v.w.heap[p.1]? = some p.2)→(mlF P kt kv cells k l adr).p v:=⟨_,(h.lentC m).choose_spec.2⟩
end
section
variable {P:Program} {K:Type} [DecidableEq K] {kv:K→Value} {kt:TypeId}
structure SetE (kv:K→Value) (es:Array MapEntry) (q:List K):Prop where
  keys:es.toList.map (·.key)=q.map kv
  vals:∀ x∈es.toList,x.val=.bool true
  nd:q.Nodup
theorem SetE.nil:SetE kv #[] ([]:List K):=⟨rfl,by simp,List.nodup_nil⟩
theorem SetE.size {es:Array MapEntry} {q:List K} (h:SetE kv es q):es.size=q.length:=by
  have:=congrArg List.length h.keys;simpa using this
theorem SetE.yes (B:KeyT P kt kv) {es:Array MapEntry} {q:List K} (h:SetE kv es q) {k:K} (hk:k∈q):∃ i x,q[i]? = some k∧es[i]? = some x∧x.key=kv k∧x.val=.bool true∧dJ_ P kt (kv k) es.toList (some (i,.bool true)):=by
  obtain⟨i,hi⟩:=List.getElem?_of_mem hk
  have v:i<es.toList.length:=by
    have:=(List.getElem?_eq_some_iff.1 hi).1;have e:=congrArg List.length h.keys;simp at e this ⊢;omega
  have y:=List.getElem?_eq_getElem v;have A:=h.vals _ (List.getElem_mem v)
  have m:es.toList[i].key=kv k:=by
    have:=congrArg (fun l=>l[i]?) h.keys;simp only[List.getElem?_map,y,hi,Option.map_some,Option.some.injEq]at this;exact this
  refine⟨i,es.toList[i],hi,by rw[← Array.getElem?_toList];exact y,m,A,?_⟩;have:=B.sf k es.toList q i _ h.keys h.nd hi y;rwa [A]at this
theorem SetE.no (m:KeyT P kt kv) {es:Array MapEntry} {q:List K} (h:SetE kv es q) {k:K} (hk:k ∉ q):dJ_ P kt (kv k) es.toList none:=m.nf k es.toList q h.keys hk
theorem SetE.push {es:Array MapEntry} {q:List K} (h:SetE kv es q) {k:K} (hk:k ∉ q) (c:Nat):SetE kv (es.push ⟨kv k,.bool true,c⟩) (q++[k]):=by
 refine⟨by simp[h.keys],fun x m=>?_,?_⟩
 ·rw[Array.toList_push,List.mem_append]at m
  rcases m with m|m
  ·exact h.vals x m
  simp at m;rw[m]
 rw[List.nodup_append];exact⟨h.nd,by simp,fun a y b v e=>by simp at v;subst v;subst e;exact hk y⟩
end
section ops
variable {P:Program} {N:Nf} {v0:Vw} {H0:Hp} {R:Exit→Act→World→Prop} {Kk:List Kt} {fr:Fr} {H:Hp} {Γ:List Fct}
variable {ops:Array Oper} {lo:List Oper} {d:Nat} {ty:TypeId} {ps:String} {af:Array Edge}
variable {K D:Type} [DecidableEq K] {kv:K→Value} {cells:D→List Value}
theorem bQ_ {t kt G:TypeId} {x y:Operand} {F:Nat} {l:List (K×D)} {adr:K→Option Addr×Nat} {k:K} (C:KeyT P kt kv) (q:∀ w,(underlying t).run P w=.ok (.map kt G) w) (L:∀ w,(zeroValue G).run P w=.ok (.slice none 0 0) w) (B:Fr.ev fr x=some (.map (some F))) (E:Fr.ev fr y=some (kv k))
    (hm:∀ v,v.sat H→ag_ Γ v→(mlF P kt kv cells F l adr).p v):Yld P N fr H Γ (.lookup t x y false) ty (.slice (adr k).1 (lat l k).length (adr k).2) :=
  fun a v h J Q _ _ _=>by
    obtain⟨_,es,c,O,I⟩:=hm v J Q;have A:=MapKept.run_getObj_map (P:=P) O;rcases (I k).2 with⟨m,M⟩|⟨i,m⟩
    · rw[M];simp[execOp,h.ev B,h.ev E,Instr.lookup,q,A,C.ok _ _ _,m _,L]
    · simp[execOp,h.ev B,h.ev E,Instr.lookup,q,A,C.ok _ _ _,m _]
theorem bJ_ {t kt F:TypeId} {x y:Operand} {E c:Nat} {es:Array MapEntry} {q:List K} {k:K} (h:KeyT P kt kv) (m:∀ w,(underlying t).run P w=.ok (.map kt F) w) (G:∀ w,(zeroValue F).run P w=.ok (.bool false) w) (B:Fr.ev fr x=some (.map (some E))) (C:Fr.ev fr y=some (kv k))
    (A:SetE kv es q) (hm:∀ v,v.sat H→ag_ Γ v→v.w.heap[E]? = some (.map es c)):Yld P N fr H Γ (.lookup t x y false) ty (.bool (decide (k∈q))):=by
  by_cases hk:k∈q
  · obtain⟨i,_,_,_,_,_,I⟩:=A.yes h hk
    rw[decide_eq_true hk];exact fs_ m B C hm (h.ok k) I
  · rw[decide_eq_false hk]
    exact eZ_ m G B C hm (h.ok k) (A.no h hk)
theorem uZ_ {t kt y:TypeId} {x:Operand} {h c:Nat} {es:Array MapEntry} (q:∀ w,(underlying t).run P w=.ok (.map kt y) w) (B:Fr.ev fr x=some (.map (some h))) (hm:∀ v,v.sat H→ag_ Γ v→v.w.heap[h]? = some (.map es c)) :
    Yld P N fr H Γ (.call ⟨.builtin .len,#[x],#[t]⟩) ty (.int .i64 (es.size:Int)) :=
  fun a v k m C _ _ _=>by
    have A:=MapKept.run_getObj_map (P:=P) (hm v m C);simp[execOp,resolve,invoke,builtin,Builtin.len_,k.ev B,q,A,goInt]
theorem hI_ {o:Op} {t kt T:TypeId} {x y z:Operand} {b c i:Nat} (n:Nat) {es:Array MapEntry} {e:MapEntry} {k:K} {u u':Value} (E:KeyT P kt kv) (I:o=.insert t x y z∨o=.mapUpdate t x y z) (J:∀ w,(underlying t).run P w=.ok (.map kt T) w)
    (M:Fr.ev fr x=some (.map (some b))) (O:Fr.ev fr y=some (kv k)) (W:Fr.ev fr z=some u) (hi:H[n]? = some (b,.map es c)) (U:dJ_ P kt (kv k) es.toList (some (i,u'))) (B:es[i]? = some e) (q:e.key=kv k)
    (m:Ops P R N v0 H0 ops lo Kk fr (H.set n (b,.map (es.modify i fun y=>{ y with key:=kv k,val:=u }) c)) Γ):Ops P R N v0 H0 ops (⟨none,o,ty,ps,af,none⟩::lo) Kk fr H Γ :=
  cD_ rfl fun a v h A V X=>by
    have C:=(A.own _ (List.mem_of_getElem? hi)).1;have S:=MapKept.run_getObj_map (P:=P) C;have L:=MapKept.run_setObj_map (P:=P) (.map (es.modify i fun y=>{ y with key:=kv k,val:=u }) c) C
    have B:(execOp a.eval ⟨none,o,ty,ps,af,none⟩).run P v.w=.ok .skip { v.w with heap:=v.w.heap.setIfInBounds b (.map (es.modify i fun y=>{ y with key:=kv k,val:=u }) c) }:=by
      rcases I with rfl|rfl<;>simp[execOp,h.ev M,h.ev O,h.ev W,Instr.mapUpdate,J,S,E.ok _ _ _,U _,L,Instr.keyThatStays,B,q,E.same]
    unfold Oper.wp;rw[B];have G:=MapKept.heap_set (o':=.map (es.modify i fun y=>{ y with key:=kv k,val:=u }) c) C;obtain⟨Q,F⟩:=ff_ (w':={ v.w with heap:=v.w.heap.setIfInBounds b (.map (es.modify i fun y=>{ y with key:=kv k,val:=u }) c) }) A hi rfl rfl rfl (Nat.le_refl _) zC_ G.1 (fun k hk=>G.2 k hk);exact m a _ h Q (V.trans F) (az_ (F.le A) X)
theorem iN_ {es:Array MapEntry} {i:Nat} {e:MapEntry} {key val:Value} (k:es[i]? = some e) (hk:e.key=key) (m:e.val=val):(es.modify i fun y=>{ y with key:=key,val:=val })=es:=by
 apply Array.ext_getElem?
 intro j;rw[Array.getElem?_modify]
 by_cases h:i=j
 ·subst h;rw[if_pos rfl,k];simp only[Option.map_some];rw[← hk,← m]
 rw[if_neg h]
theorem nF_ {o:Op} {t kt M:TypeId} {x y z:Operand} {b c:Nat} (n:Nat) {es:Array MapEntry} {q:List K} {k:K} (v:KeyT P kt kv) (C:o=.insert t x y z∨o=.mapUpdate t x y z) (E:∀ w,(underlying t).run P w=.ok (.map kt M) w)
    (G:Fr.ev fr x=some (.map (some b))) (I:Fr.ev fr y=some (kv k)) (F:Fr.ev fr z=some (.bool true)) (hi:H[n]? = some (b,.map es c)) (m:SetE kv es q)
    (h:∀ es' c',SetE kv es' (if k∈q then q else q++[k])→Ops P R N v0 H0 ops lo Kk fr (H.set n (b,.map es' c')) Γ):Ops P R N v0 H0 ops (⟨none,o,ty,ps,af,none⟩::lo) Kk fr H Γ:=by
  by_cases hk:k∈q
  · obtain⟨i,e,O,A,B,L,J⟩:=m.yes v hk
    refine hI_ n v C E G I F hi J A B ?_;rw[iN_ A B L];exact h es c (by rw[if_pos hk];exact m)
  · exact bi_ n C E G I F hi (v.ok k) (m.no v hk) (h _ _ (by rw[if_neg hk];exact m.push hk c))
theorem fE_ {t kt W:TypeId} {x y:Operand} {q:Nat} {e:TypeId} {sz:Nat} {l:List (K×D)} {k:K} {M F:Hp} (E:KeyT P kt kv) (hm:dl_ kv cells e sz l q M) (Q:∀ w,(underlying t).run P w=.ok (.map kt W) w) (hz:∀ w,(zeroValue W).run P w=.ok (.slice none 0 0) w)
    (S:Fr.ev fr x=some (.map (some q))) (T:Fr.ev fr y=some (kv k)) (hH:H.Perm (M++F)) (hN:Nat.blt d N.n=true)
    (hk:∀ es c i st sv C Hr,MOpn kv cells e sz l q k es c i st Hr→aB_ e sz sv (lat l k).length ((lat l k).flatMap cells) C→Ops P R N v0 H0 ops lo Kk ((d,.tuple #[sv,.int .i64 st])::fr) ((q,.map es c)::(C++(Hr++F))) Γ) :
    Ops P R N v0 H0 ops (⟨some d,.mapEntry t x y,ty,ps,af,none⟩::lo) Kk fr H Γ:=by
  obtain⟨es,c,h,A,i,st,sv,C,Hr,p1,p2,p3,p4⟩:=hm.entry E k;refine cD_ rfl fun a v B h2 h3 h4=>?_
  have Y:H.Perm ((q,.map es c)::(C++(Hr++F))):=hH.trans (by
    have:=p1.append_right F;simpa [List.append_assoc] using this)
  have m:=h2.perm Y;have G:=(m.own _ List.mem_cons_self).1;have V:=MapKept.run_getObj_map (P:=P) G
  have he:(execOp a.eval ⟨some d,.mapEntry t x y,ty,ps,af,none⟩).run P v.w=.ok (.value (.tuple #[sv,.int .i64 st])) { v.w with heap:=v.w.heap.setIfInBounds q (.map h A) }:=by
    rcases p4 with⟨L,rfl,rfl,rfl,rfl⟩|⟨j,z,L,Z,O,rfl,rfl,rfl⟩
    · have I:=MapKept.run_setObj_map (P:=P) (.map (es.push ⟨kv k,.slice none 0 0,c⟩) (c+1)) G
      simp[execOp,B.ev S,B.ev T,Instr.mapEntry,Q,V,E.ok _ _ _,L _,hz,I,goInt]
    · have I:=MapKept.run_setObj_map (P:=P) (.map h A) G
      simp[execOp,B.ev S,B.ev T,Instr.mapEntry,Q,V,E.ok _ _ _,L _,Instr.keyThatStays,Z,O,E.same,sr_ Z O,I,goInt]
  unfold Oper.wp;rw[he];have X:=MapKept.heap_set (o':=.map h A) G;obtain⟨U,J⟩:=ff_ (i:=0) (o':=.map h A) (w':={ v.w with heap:=v.w.heap.setIfInBounds q (.map h A) }) m rfl rfl rfl rfl (Nat.le_refl _) zC_ X.1 (fun k hk=>X.2 k hk);simp only[List.set_cons_zero]at U J;exact hk h A i st sv C Hr p3 p2 _ _ (B.put hN) U (h3.trans (J.permL Y.symm)) (az_ (J.le m) h4)
theorem dp_ {t:TypeId} {x y z:Operand} {m c i:Nat} {e:TypeId} {sz:Nat} {l:List (K×D)} {k:K} {dd:D} {es:Array MapEntry} {st:Int} {sv:Value} {B Hr F:Hp} (E:MOpn kv cells e sz l m k es c i st Hr) (Z:aB_ e sz sv (lat (l++[(k,dd)]) k).length ((lat (l++[(k,dd)]) k).flatMap cells) B)
    (O:Fr.ev fr x=some (.map (some m))) (Q:Fr.ev fr y=some (.int .i64 st)) (Y:Fr.ev fr z=some sv) (I:H.Perm ((m,.map es c)::(B++(Hr++F))))
    (hk:∀ H',dl_ kv cells e sz (l++[(k,dd)]) m H'→Ops P R N v0 H0 ops lo Kk fr (H'++F) Γ):Ops P R N v0 H0 ops (⟨none,.entryStore t x y z,ty,ps,af,none⟩::lo) Kk fr H Γ:=by
  obtain⟨H',X,q2⟩:=E.close dd sv B Z;refine cD_ rfl fun a v A V T h4=>?_;have h:=V.perm I;have q:=(h.own _ List.mem_cons_self).1;have S:=MapKept.run_getObj_map (P:=P) q;have M:=MapKept.run_setObj_map (P:=P) (.map (es.modify i fun y=>{ y with val:=sv }) c) q
  have W:(execOp a.eval ⟨none,.entryStore t x y z,ty,ps,af,none⟩).run P v.w=.ok .skip { v.w with heap:=v.w.heap.setIfInBounds m (.map (es.modify i fun y=>{ y with val:=sv }) c) }:=by
    have U:=E.find;simp[execOp,A.ev O,A.ev Q,A.ev Y,Instr.entryStore,S,M,asInt,asIntOf,U]
  unfold Oper.wp;rw[W];have L:=MapKept.heap_set (o':=.map (es.modify i fun y=>{ y with val:=sv }) c) q;obtain⟨G,C⟩:=ff_ (i:=0) (o':=.map (es.modify i fun y=>{ y with val:=sv }) c) (w':={ v.w with heap:=v.w.heap.setIfInBounds m (.map (es.modify i fun y=>{ y with val:=sv }) c) }) h rfl rfl rfl rfl (Nat.le_refl _) zC_ L.1 (fun k hk=>L.2 k hk);simp only[List.set_cons_zero]at G C
  have J:((m,Obj.map (es.modify i fun y=>{ y with val:=sv }) c)::(B++(Hr++F))).Perm (H'++F):=by
    have:=(q2.append_right F).symm;simpa [List.append_assoc] using this
  exact hk H' X _ _ A (G.perm J) (T.trans ((C.permL I.symm).subR fun b q=>((J.map Prod.fst).mem_iff).2 q)) (az_ (C.le h) h4)
def MOp (P:Program) (kt:TypeId) (kv:K→Value) (cells:D→List Value) (e:TypeId) (sz:Nat) (l:List (K×D)) (mb:Nat) (k:K) (es:Array MapEntry) (c:Nat) (sv:Value) (Hr:Hp):Prop :=
  (dJ_ P kt (kv k) es.toList none∧sv=.slice none 0 0∧∀ d sv' Hk',aB_ e sz sv' (lat (l++[(k,d)]) k).length ((lat (l++[(k,d)]) k).flatMap cells) Hk'→∃ H',dl_ kv cells e sz (l++[(k,d)]) mb H'∧H'.Perm ((mb,.map (es.push ⟨kv k,sv',c⟩) (c+1))::(Hk'++Hr))) ∨
  (∃ i x,dJ_ P kt (kv k) es.toList (some (i,sv))∧es[i]? = some x∧x.key=kv k∧x.val=sv∧∀ d sv' Hk',aB_ e sz sv' (lat (l++[(k,d)]) k).length ((lat (l++[(k,d)]) k).flatMap cells) Hk'→∃ H',dl_ kv cells e sz (l++[(k,d)]) mb H'∧H'.Perm ((mb,.map (es.modify i fun y=>{ y with key:=kv k,val:=sv' }) c)::(Hk'++Hr)))
theorem mI_ {x:Act→World→Prop} {kt:TypeId} {q:Nat} {e:TypeId} {sz:Nat} {l:List (K×D)} {v F:Hp} (C:KeyT P kt kv) (k:K) (hm:dl_ kv cells e sz l q v) (y:H.Perm (v++F))
    (h:∀ es c sv m Hr,aB_ e sz sv (lat l k).length ((lat l k).flatMap cells) m→MOp P kt kv cells e sz l q k es c sv Hr→Ok N v0 H0 x fr ((q,.map es c)::(m++(Hr++F))) Γ):Ok N v0 H0 x fr H Γ:=by
  obtain⟨es,c,sv,m,Hr,B,E,A⟩:=hm.open C k
  refine u_ (y.trans (by
    have:=B.append_right F;simpa [List.append_assoc] using this)) (h es c sv m Hr E A)
theorem eT_ {t kt F:TypeId} {x y:Operand} {m c:Nat} {e:TypeId} {sz:Nat} {l:List (K×D)} {k:K} {es:Array MapEntry} {sv:Value} {Hr:Hp} (C:KeyT P kt kv) (G:MOp P kt kv cells e sz l m k es c sv Hr) (A:∀ w,(underlying t).run P w=.ok (.map kt F) w) (I:∀ w,(zeroValue F).run P w=.ok (.slice none 0 0) w)
    (B:Fr.ev fr x=some (.map (some m))) (E:Fr.ev fr y=some (kv k)) (i:Nat) (hi:H[i]? = some (m,.map es c)):Yld P N fr H Γ (.lookup t x y false) ty sv:=by
  have hm:∀ v,v.sat H→ag_ Γ v→v.w.heap[m]? = some (.map es c):=fun v h _=>(h.own _ (List.mem_of_getElem? hi)).1
  rcases G with⟨q,rfl,_⟩|⟨i,z,q,_⟩
  · exact eZ_ A I B E hm (C.ok k) q
  · exact fs_ A B E hm (C.ok k) q
theorem hJ_ {o:Op} {t kt S:TypeId} {x y z:Operand} {v c:Nat} {e:TypeId} {sz:Nat} {l:List (K×D)} {k:K} {dd:D} {es:Array MapEntry} {sv sv':Value} {m Hr F:Hp} (J:KeyT P kt kv) (Q:MOp P kt kv cells e sz l v k es c sv Hr) (O:aB_ e sz sv' (lat (l++[(k,dd)]) k).length ((lat (l++[(k,dd)]) k).flatMap cells) m)
    (h:o=.insert t x y z∨o=.mapUpdate t x y z) (G:∀ w,(underlying t).run P w=.ok (.map kt S) w) (I:Fr.ev fr x=some (.map (some v))) (L:Fr.ev fr y=some (kv k)) (M:Fr.ev fr z=some sv') (U:H.Perm ((v,.map es c)::(m++(Hr++F))))
    (hk:∀ H',dl_ kv cells e sz (l++[(k,dd)]) v H'→Ops P R N v0 H0 ops lo Kk fr (H'++F) Γ):Ops P R N v0 H0 ops (⟨none,o,ty,ps,af,none⟩::lo) Kk fr H Γ:=by
  refine u_ U ?_;rcases Q with⟨A,_,B⟩|⟨i,q,A,T,V,_,B⟩
  · obtain⟨H',C,E⟩:=B dd sv' m O
    refine bi_ 0 h G I L M rfl (J.ok k) A ?_;simp only[List.set_cons_zero];exact u_ zaP_ (hk H' C)
  · obtain⟨H',C,E⟩:=B dd sv' m O
    refine hI_ 0 J h G I L M rfl A T V ?_;simp only[List.set_cons_zero];exact u_ zaP_ (hk H' C)
theorem ep_ {b:Nat×Obj} {O Q F:Hp} (h:H.Perm ((b::(O++Q))++F)):H.Perm (b::(O++(Q++F))):=by simpa [List.append_assoc] using h
theorem bq_ {b:Nat×Obj} {F:Hp} (h:H.Perm ([b]++F)):H.Perm (b::F):=h
theorem Y_ {b:Nat×Obj} {F k:Hp} (h:H.Perm ([b]++F)) (m:F.Perm k):H.Perm (b::k):=List.Perm.trans h (m.cons b)
theorem lb_ {fn:Func} {k:Ending→World→Prop} {c:Code} (h:Run P (bodyPost P fn k) N v0 H0 c [] fr H Γ):Run P (bodyPost P fn k) N v0 H0 (.scope c) [] fr H Γ :=
  fun a v m q x A=>wp_scope_straight (wp_mono (h a v m q x A) fun e a w y=>by cases e<;>exact y)
theorem ld_ {c:Nat} (h:Fin P R N v0 H0 Kk fr H Γ):Run P R N v0 H0 (.label c) Kk fr H Γ :=
  fun a v k m q x=>wp_label (h a v k m q x)
end ops
end Go.Sx
namespace Go.Vs
open Go Go.Sx
structure Rul where
  f:Str
  s:Str
  r:Str
  deriving DecidableEq
structure Itm where
  r:Str
  i:Nat
  j:Nat
  deriving DecidableEq
def addI {α:Type} [DecidableEq α] (y:α) (l:List α):List α:=if y∈l then l else l++[y]
theorem kU_ {α:Type} [DecidableEq α] {y z:α} {l:List α}:z∈addI y l↔z∈l∨z=y:=by
 unfold addI
 by_cases h:y∈l
 ·rw[if_pos h];exact⟨.inl,fun q=>q.elim id fun e=>e▸h⟩
 rw[if_neg h,List.mem_append,List.mem_singleton]
section
variable {R:List Rul} {U:List Str} {n:Nat}
def Pr1 (n:Nat) (x:Itm) (T0:List Itm) (L:List Rul) (T:List Itm):Prop:=∀ y∈L,∀ e,x.j≤e→e≤n→(⟨y.s,x.j,e⟩:Itm)∈T0→(⟨y.r,x.i,e⟩:Itm)∈T
def Pr2 (x:Itm) (T0:List Itm) (L:List Rul) (T:List Itm):Prop:=∀ y∈L,∀ b,b≤x.i→(⟨y.f,b,x.i⟩:Itm)∈T0→(⟨y.r,b,x.j⟩:Itm)∈T
theorem Pr1.mono {x:Itm} {d T k:List Itm} {L:List Rul} (h:Pr1 n x d L T) (m:∀ y∈T,y∈k):Pr1 n x d L k:=fun y q e v A B=>m _ (h y q e v A B)
theorem Pr2.mono {x:Itm} {d T e:List Itm} {L:List Rul} (h:Pr2 x d L T) (k:∀ y∈T,y∈e):Pr2 x d L e:=fun y m b q v=>k _ (h y m b q v)
end
end Go.Vs
namespace Go.Sx
open Go Go.Vs
def kZ_ (T:List Itm) (r:Str):List Value:=(List.range 4225).map fun k=>.bool (decide ((⟨r,k / 65,k%65⟩:Itm)∈T))
theorem nn_ (T:List Itm) (r:Str):(kZ_ T r).length=4225:=by simp[kZ_]
theorem pB_ (T:List Itm) (r:Str) {k:Nat} (hk:k<4225):(kZ_ T r)[k]? = some (.bool (decide ((⟨r,k / 65,k%65⟩:Itm)∈T))):=by
  unfold kZ_;rw[List.getElem?_map,List.getElem?_range hk];rfl
theorem vv_ {i j:Nat} (e:j≤64):(i*65+j) / 65=i∧(i*65+j)%65=j:=by omega
theorem vx_ (T:List Itm) (r:Str) {i j:Nat} (hi:i≤64) (h:j≤64):(kZ_ T r)[i*65+j]? = some (.bool (decide ((⟨r,i,j⟩:Itm)∈T))):=by
  obtain⟨k,e⟩:=vv_ (i:=i) h;rw[pB_ T r zr_,k,e]
theorem nm_ {T:List Itm} {r q:Str} {i j:Nat} (h:q≠r):kZ_ (addI ⟨r,i,j⟩ T) q=kZ_ T q:=by
  unfold kZ_
  apply List.map_congr_left
  intro k _
  congr 1
  apply decide_eq_decide.2
  rw[kU_];exact⟨fun q=>q.elim id fun e=>absurd (congrArg Itm.r e) h,.inl⟩
theorem vw_ (T:List Itm) (r:Str) {i j:Nat} (hi:i≤64) (h:j≤64):(kZ_ T r).set (i*65+j) (.bool true)=kZ_ (addI ⟨r,i,j⟩ T) r:=by
 apply List.ext_getElem?
 intro k;rw[List.getElem?_set,nn_];obtain⟨v,m⟩:=vv_ (i:=i) h
 by_cases hk:i*65+j=k
 ·subst hk
  rw[if_pos rfl,if_pos zr_,vx_ _ _ hi h,decide_eq_true (kU_.2 (.inr rfl))]
 rw[if_neg hk]
 by_cases hl:k<4225
 ·rw[pB_ _ _ hl,pB_ _ _ hl]
  congr 2
  apply decide_eq_decide.2
  rw[kU_];refine⟨.inl,fun q=>q.elim id fun e=>?_⟩;simp only[Itm.mk.injEq,true_and]at e;omega
 rw[List.getElem?_eq_none (by rw[nn_];omega),List.getElem?_eq_none (by rw[nn_];omega)]
def hd_ (ks:List (Str×Nat)) (k:Str):Option Nat:=(ks.find? fun p=>decide (p.1=k)).map (·.2)
def tptr (o:Option Nat):Value:=.pointer (o.map fun b=>⟨b,0,none⟩)
def pw_ (tt:TypeId) (T:List Itm) (p:Str×Nat):Nat×Obj:=(p.2,.cells (kZ_ T p.1).toArray tt (0,0))
structure TabE (ks:List (Str×Nat)) (T:List Itm) (es:Array MapEntry):Prop where
  keys:es.toList.map (·.key)=(ks.map (·.1)).map str
  vals:es.toList.map (·.val)=ks.map fun p=>tptr (some p.2)
  nd:(ks.map (·.1)).Nodup
  all:∀ x∈T,x.r∈ks.map (·.1)
def TabO (tt mb:Nat) (ks:List (Str×Nat)) (T:List Itm) (H:Hp):Prop:=∃ es c,H=(mb,.map es c)::ks.map (pw_ tt T)∧TabE ks T es
theorem kY_ {ks:List (Str×Nat)} {k:Str} {b:Nat} (h:hd_ ks k=some b):(k,b)∈ks:=by
  unfold hd_ at h;rw[Option.map_eq_some_iff]at h;obtain⟨p,e,rfl⟩:=h;have m:=List.find?_some e;have q:=List.mem_of_find?_eq_some e;simp only[decide_eq_true_eq]at m;subst m;exact q
theorem je_ {ks:List (Str×Nat)} {k:Str} (h:hd_ ks k=none):k ∉ ks.map (·.1):=by
  unfold hd_ at h;rw[Option.map_eq_none_iff,List.find?_eq_none]at h;intro hm;obtain⟨p,e,rfl⟩:=List.mem_map.1 hm;exact h p e zC_
theorem vm_ {ks:List (Str×Nat)} {k:Str} {b:Nat} (h:hd_ ks k=none):hd_ (ks++[(k,b)]) k=some b:=by
  unfold hd_ at h ⊢;rw[Option.map_eq_none_iff]at h;rw[List.find?_append,h];simp
section
variable {P:Program} {kt:TypeId} {tt mb:Nat} {ks:List (Str×Nat)} {T:List Itm} {es:Array MapEntry} {H:Hp}
theorem TabO.at (h:TabO tt mb ks T H) {k:Str} {b:Nat} (hk:hd_ ks k=some b):∃ Hr,H.Perm ((b,.cells (kZ_ T k).toArray tt (0,0))::Hr) ∧
    ∀ i j,i≤64→j≤64→∃ H',TabO tt mb ks (addI ⟨k,i,j⟩ T) H'∧((b,Obj.cells ((kZ_ T k).set (i*65+j) (.bool true)).toArray tt (0,0))::Hr).Perm H':=by
  obtain⟨es,c,rfl,hE⟩:=h;have hm:=kY_ hk;obtain⟨v,q,rfl⟩:=List.append_of_mem hm;refine⟨(mb,.map es c)::(v++q).map (pw_ tt T),?_,fun i j hi C=>?_⟩
  · rw[List.map_append,List.map_cons,List.map_append]
    exact (List.Perm.cons _ List.perm_middle).trans (.swap _ _ _)
  · refine⟨(mb,.map es c)::(v++(k,b)::q).map (pw_ tt (addI ⟨k,i,j⟩ T)),⟨es,c,rfl,hE.keys,hE.vals,hE.nd,fun x y=>?_⟩,?_⟩
    · rcases kU_.1 y with y|rfl
      · exact hE.all x y
      · simp
    · have m:=hE.nd
      rw[List.map_append,List.map_cons,List.nodup_append,List.nodup_cons]at m
      have E:v.map (pw_ tt (addI ⟨k,i,j⟩ T))=v.map (pw_ tt T):=List.map_congr_left fun p A=>by
        unfold pw_;rw[nm_ fun e=>m.2.2 p.1 (List.mem_map_of_mem A) k zC_ e]
      have B:q.map (pw_ tt (addI ⟨k,i,j⟩ T))=q.map (pw_ tt T):=List.map_congr_left fun p A=>by
        unfold pw_;rw[nm_ fun e=>m.2.1.1 (List.mem_map.2 ⟨p,A,e⟩)]
      rw[vw_ T k hi C,List.map_append,List.map_append,List.map_cons,E,B];exact ((List.Perm.cons _ List.perm_middle).trans (.swap _ _ _)).symm
end
section ops
variable {P:Program} {N:Nf} {v0:Vw} {H0:Hp} {R:Exit→Act→World→Prop} {K:List Kt} {fr:Fr} {H F:Hp} {Γ:List Fct}
variable {ops:Array Oper} {l:List Oper} {d:Nat} {ty:TypeId} {ps:String} {af:Array Edge}
variable {tt mb:Nat} {ks:List (Str×Nat)} {T:List Itm} {Hx:Hp}
end ops
end Go.Sx
namespace Go.Sx
open Go Go.Vs
structure IntE {K:Type} (kv:K→Value) (es:Array MapEntry) (ks:List K) (vs:List Int):Prop where
  keys:es.toList.map (·.key)=ks.map kv
  vals:es.toList.map (·.val)=vs.map fun n=>Value.int .i64 n
  nd:ks.Nodup
section
variable {P:Program} {K:Type} [DecidableEq K] {kv:K→Value} {kt:TypeId} {es:Array MapEntry} {ks:List K} {vs:List Int}
end
section ops
variable {P:Program} {N:Nf} {v0:Vw} {H0:Hp} {R:Exit→Act→World→Prop} {Kk:List Kt} {fr:Fr} {H:Hp} {Γ:List Fct}
variable {ops:Array Oper} {lo:List Oper} {d:Nat} {ty:TypeId} {ps:String} {af:Array Edge}
variable {K:Type} [DecidableEq K] {kv:K→Value}
end ops
end Go.Sx
namespace Go.Sx
open Go
section
variable {P:Program} {N:Nf} {v0:Vw} {H0:Hp} {R:Exit→Act→World→Prop} {K:List Kt} {fr:Fr} {H F:Hp} {Γ:List Fct} {ops:Array Oper} {l:List Oper} {d:Nat} {ty:TypeId} {ps:String} {af:Array Edge} {e:TypeId} {sz n:Nat} {sv:Value} {xs:List Value} {Hr:Hp}
theorem ra_ {x y:Operand} {t A:TypeId} {by':Nat} {k G:IntKind} (q:Elt P t e sz by') (C:P.underlying A=some (.int G)) (M:Fr.ev fr x=some (.slice none 0 0)) (Q:Fr.ev fr y=some (.int k (n:Int))) (O:0<n) (V:n*by'≤140737488355328) (h:n≤maxLen) (S:Nat.blt d N.n=true)
    (hk:∀ (y:Nat×Array Value) (b:Nat),(n≤y.1∧y.1≤maxLen∧y.2.size=y.1*sz)→Ops P R N v0 H0 ops l K ((d,.slice (some ⟨b,0,none⟩) n y.1)::fr) ((b,.cells y.2 e (0,0))::H) Γ) :
    Ops P R N v0 H0 ops (⟨some d,.call ⟨.builtin .append,#[x,y],#[t,A]⟩,ty,ps,af,none⟩::l) K fr H Γ :=
  nE_ (β:=Nat×Array Value) (x:=fun y b=>.slice (some ⟨b,0,none⟩) n y.1) (o:=fun y=>.cells y.2 e (0,0)) (fun y=>n≤y.1∧y.1≤maxLen∧y.2.size=y.1*sz) S
    (fun a v E U W=>by
      obtain⟨i,z,hi,J,es,I,T⟩:=q.info;subst es I;have L:=Lib.run_append_nil_zeros (P:=P) v.w t A ty e i z k G q.und C hi J n O q.pos (by simp only[maxLen]at h;omega) zr_;have B:=grownCap_ge v.w n 0 e;have m:=grownCap_le_maxLen v.w n 0 e h;refine⟨(grownCap v.w n 0 e,Builtin.zeroCells z.cells n++Builtin.zeroCells z.cells (grownCap v.w n 0 e - n)),v.w.drew.alloc (.cells (Builtin.zeroCells z.cells n++Builtin.zeroCells z.cells (grownCap v.w n 0 e - n)) e),⟨B,m,?_⟩,?_,rfl,rfl,rfl,rfl,by simp⟩
      · simp only[Array.size_append,size_zeroCells,T,← Nat.add_mul]
        congr 1
        omega
      · simp only[execOp,resolve,invoke,builtin,Sem.run_bind,Sem.run_pure,Result.andThen_ok,List.map_toArray,List.map_cons,List.map_nil,E.ev M,E.ev Q,L])
    hk
theorem qt_ {x:Operand} {t:TypeId} {ad:Option Addr} {len cap:Nat} (k:∀ w,(underlying t).run P w=.ok (.slice e) w) (m:Fr.ev fr x=some (.slice ad len cap)) :
    Yld P N fr H Γ (.call ⟨.builtin .cap,#[x],#[t]⟩) ty (.int .i64 (cap:Int)) :=
  fun a v h _ _ _ _ _=>by simp[execOp,resolve,invoke,builtin,Builtin.cap_,k,h.ev m,goInt]
theorem tT_ {b cap:Nat} {cur:Array Value} (h:cap≤maxLen) (k:cur.size=cap*sz):aB_ e sz (.slice (some ⟨b,0,none⟩) 0 cap) 0 [] [(b,.cells cur e (0,0))] :=
  ⟨by simp,.inr ⟨b,cap,cur,rfl,rfl,Nat.zero_le _,h,k,by simp⟩⟩
end
end Go.Sx
namespace Go.Sx
open Go
theorem wl_ {P:Program} {E:TypeId} {m:IntKind} (B:P.underlying E=some (.int m)):KeyT P E (fun n:Int=>.int m n) where
  ok:=fun k=>bo_ B
  nf:=fun k es ks h hk=>aW_ B (by
    have:∀ (ks:List Int) (es:List MapEntry) (i:Nat),es.map (·.key)=ks.map (fun n:Int=>Value.int m n)→k ∉ ks→Instr.findNow (.int m) (.int m k) es i=some none:=by
      intro ks
      induction ks with
      | nil => intro es i h _; have : es = [] := by simpa using h
               subst this;rfl
      | cons q ks ih =>
        intro es i h hk;cases es with
        | nil=>simp at h
        | cons e es =>
          simp only[List.map_cons,List.cons.injEq]at h;simp only[List.mem_cons,not_or]at hk
          have y:Instr.sameNow (.int m) (.int m k) e.key=some false:=by
            rw[h.1];simp[Instr.sameNow,hk.1]
          simp only[Instr.findNow,y];exact ih es (i+1) h.2 hk.2
    exact this ks es 0 h hk)
  sf:=fun k es ks i e h A hi v=>aW_ B (by
    have:∀ (ks:List Int) (es:List MapEntry) (j i:Nat),es.map (·.key)=ks.map (fun n:Int=>Value.int m n)→ks.Nodup→ks[i]? = some k→es[i]? = some e→Instr.findNow (.int m) (.int m k) es j=some (some (j+i,e.val)):=by
      intro ks
      induction ks with
      | nil=>intro es j i _ _ h;simp at h
      | cons q ks ih =>
        intro es j i h A hi v;cases es with
        | nil=>simp at h
        | cons x es =>
          simp only[List.map_cons,List.cons.injEq]at h;rw[List.nodup_cons]at A;cases i with
          | zero =>
            simp only[List.getElem?_cons_zero,Option.some.injEq]at hi v;subst hi;subst v
            have y:Instr.sameNow (.int m) (.int m q) x.key=some true:=by
              rw[h.1];simp[Instr.sameNow]
            simp only[Instr.findNow,y,Nat.add_zero]
          | succ i =>
            simp only[List.getElem?_cons_succ]at hi v;have C:k≠q:=fun e=>A.1 (e▸List.mem_of_getElem? hi)
            have y:Instr.sameNow (.int m) (.int m k) x.key=some false:=by
              rw[h.1];simp[Instr.sameNow,C]
            simp only[Instr.findNow,y];rw[ih es (j+1) i h.2 A.2 hi v,show j+1+i=j+(i+1) by omega]
    have:=this ks es 0 i h A hi v;rwa [Nat.zero_add]at this)
  same:=fun k=>eC_ 10000 k
end Go.Sx
namespace Go.Sx
open Go
section
variable {P:Program} {N:Nat} {v0:Vw} {H0:Hp} {R:Exit→Act→World→Prop} {Kk:List Kt} {fr:Fr} {H:Hp} {Γ:List Fct}
variable {ops:Array Oper} {lo:List Oper} {d:Nat} {ty:TypeId} {ps:String} {af:Array Edge}
variable {K:Type} [DecidableEq K] {kv:K→Value}
theorem oW_ {t e h:TypeId} {x:Operand} {b c:Nat} (n:Nat) {es:Array MapEntry} (q:P.underlying t=some (.map e h)) (A:Fr.ev fr x=some (.map (some b))) (hi:H[n]? = some (b,.map es c)) (B:Nat.blt d N=true)
    (hk:∀ r,Ops P R N v0 H0 ops lo Kk ((d,.pointer (some ⟨r,0,none⟩))::fr) ((r,.mapIter (some b) c #[] c)::H) Γ):Ops P R N v0 H0 ops (⟨some d,.range t x,ty,ps,af,none⟩::lo) Kk fr H Γ :=
  gP_ (x:=fun b=>.pointer (some ⟨b,0,none⟩)) B (fun a v k m _=>by
    have y:=(m.own _ (List.mem_of_getElem? hi)).1;simp[execOp,k.ev A,run_range_map v.w t e h b es c q y]) hk
theorem qW_ {L:Operand} {b r c h J:Nat} {es:Array MapEntry} {q:Array Nat} (n m:Nat) (G:Fr.ev fr L=some (.pointer (some ⟨r,0,none⟩))) (hr:H[n]? = some (r,.mapIter (some b) h q J)) (hb:H[m]? = some (b,.map es c)) (E:∀ x∈es.toList,x.born<h) (V:h≤J) (X:Nat.blt d N=true)
    (h0:(leftOf es q).size=0→Ops P R N v0 H0 ops lo Kk ((d,.tuple #[.bool false])::fr) H Γ)
    (hk:∀ e,e∈(leftOf es q).toList→Ops P R N v0 H0 ops lo Kk ((d,.tuple #[.bool true,e.key,e.val])::fr) (H.set n (r,.mapIter (some b) h (q.push e.born) c)) Γ):Ops P R N v0 H0 ops (⟨some d,.next L false,ty,ps,af,none⟩::lo) Kk fr H Γ :=
  cD_ rfl fun a v M I Y h4=>by
    have C:=(I.own _ (List.mem_of_getElem? hr)).1;have T:=(I.own _ (List.mem_of_getElem? hb)).1;unfold Oper.wp;rcases run_next_at (P:=P) v.w ty r b h J q es c C T E V with⟨e0,A⟩|⟨e,he,B,y,A⟩
    · have Q:(execOp a.eval ⟨some d,.next L false,ty,ps,af,none⟩).run P v.w=.ok (.value (.tuple #[.bool false])) v.w:=by simp[execOp,M.ev G,A]
      rw[Q];exact h0 e0 _ v (M.put X) I Y h4
    · have Q:(execOp a.eval ⟨some d,.next L false,ty,ps,af,none⟩).run P v.w=.ok (.value (.tuple #[.bool true,e.key,e.val])) (ChangeMaps.setBlock B r (.mapIter (some b) h (q.push e.born) c)):=by simp[execOp,M.ev G,A]
      rw[Q];have S:B.heap[r]? = some (.mapIter (some b) h q J):=by rcases y with rfl|rfl<;>exact C
      have O:r<B.heap.size:=(Array.getElem?_eq_some_iff.1 S).1;have W:B.heap=v.w.heap:=by rcases y with rfl|rfl<;>rfl
      have U:v.w.drawn≤B.drawn:=by
        rcases y with rfl|rfl
        · exact Nat.le_refl _
        · exact Nat.le_succ _
      obtain⟨g1,Z⟩:=ff_ (w':=ChangeMaps.setBlock B r (.mapIter (some b) h (q.push e.born) c)) I hr zaZ_ zaZ_ zaZ_ U (by simp[ChangeMaps.setBlock,W])
        (by simp only[ChangeMaps.setBlock];rw[Array.getElem?_setIfInBounds_self_of_lt O]) (fun k hk=>by simp only[ChangeMaps.setBlock];rw[Array.getElem?_setIfInBounds_ne (Ne.symm hk),W])
      exact hk e he _ ⟨v.im,_,v.sl⟩ (M.put X) g1 (Y.trans Z) (az_ (Z.le I) h4)
theorem oH_ {y:Operand} {b r c h:Nat} {es:Array MapEntry} {k:Array Nat} {e:MapEntry} (n m:Nat) (q:Fr.ev fr y=some (.pointer (some ⟨r,0,none⟩))) (E:H[n]? = some (r,.mapIter (some b) h (k.push e.born) c)) (C:H[m]? = some (b,.map es c)) (B:e∈es.toList) (hB:Born es c) :
    Yld P N fr H Γ (.entry y) ty (.tuple #[e.key,e.val]) :=
  fun a v A x _ _ _ _=>by
    have:=run_entry_at (P:=P) v.w r b h k es c e (x.own _ (List.mem_of_getElem? E)).1 (x.own _ (List.mem_of_getElem? C)).1 B hB.nd;simp[execOp,A.ev q,this]
structure ItS (kv:K→Value) (es:Array MapEntry) (seen:Array Nat) (done:List K):Prop where
  nd:done.Nodup
  mem:∀ e∈es.toList,seen.contains e.born=true↔∃ k∈done,e.key=kv k
  sub:∀ k∈done,∃ e∈es.toList,e.key=kv k
theorem ItS.nil {es:Array MapEntry}:ItS kv es #[] []:=⟨List.nodup_nil,fun e _=>by simp,fun k hk=>by simp at hk⟩
end
section
variable {P:Program} {N:Nat} {v0:Vw} {H0:Hp} {R:Exit→Act→World→Prop} {K:List Kt} {fr:Fr} {H F:Hp} {Γ:List Fct}
def xh_ {σ:Type} (v0:Vw) (H0:Hp) (Hj:σ→Hp) (ok:σ→Prop) (HL:Hp):Exit→Act→World→Prop
  | .normal,_,w=>∃ s' v,ok s'∧v.w=w∧v.sat (Hj s'++HL)∧v0.to H0 v (Hj s'++HL)
  | _,_,_=>False
theorem qo_ {σ ι:Type} {l D:Nat} {h:Loop} {q:Nat} {x:Value} {Hj:σ→Hp} {s:σ} {ok:σ→Prop} (L:ι→Fr) (E:ι→Hp)
    (hp:h.params=#[q]) (W:h.state=.ready) (hpe:h.pending=none) (ht:Fr.sat N fr ⟨h.tmps,[]⟩) (Q:Nat.blt q N=true)
    (m:∀ n v0 H0 HL,ja_ (Fence.wide.inRound l) n P (Mid N v0 H0 L (fun i=>E i++HL) (fun _=>Γ)) N [] v0 H0 h.assign [] ((q,x)::fr) (Hj s++HL) Γ)
    (y:∀ n v0 H0 HL i,ja_ (Fence.wide.inRound l) n P (xh_ v0 H0 Hj ok HL) N [] v0 H0 h.body [] (L i) (E i++HL) Γ) :
    jw_ P l x (Hj s++HLp l D h) Γ (fun _:{C:σ // ok C}=>.bool true) (fun C=>Hj C.1++HLp l D h) (fun _=>[]):=by
  intro v Z hΓ
  have k:∀ (X:Hp) r,(X++HLp l D r).Perm ((l,.loop r)::(X++[(D,.deferred (some []))])):=fun X r=>by
    unfold HLp;exact List.perm_middle
  have hl:v.w.heap[l]? = some (.loop h):=((Z.perm (k _ _)).own _ List.mem_cons_self).1;refine⟨h.fn,_,h.assign,h.body,run_yield hl (by simp[hp]),fun n=>roundIn_of_wpIn trivial ?_⟩;have S:(h.params.zip #[x]).foldl (fun tmps (t,a)=>tmps.setIfInBounds t a) h.tmps=h.tmps.setIfInBounds q x:=by simp[hp]
  rw[S];have G:Fr.sat N ((q,x)::fr) ⟨h.tmps.setIfInBounds q x,[]⟩:=ht.put Q;refine wpIn_mono (ha_.1 (m n v (Hj s++HLp l D h) (HLp l D h)) ⟨h.tmps.setIfInBounds q x,[]⟩ v G Z (Vw.to.refl _ _) hΓ) ?_;rintro e a1 w1 ⟨rfl,i,I,rfl,k1,k2,k3,k4⟩;have A:=k2.perm (k _ _);have Y:=(A.own _ List.mem_cons_self).1;obtain⟨m1,m2⟩:=fg_ (o':=.loop { h with state:=.busy }) A;refine⟨_,run_beginRound Y W,?_⟩;have m3:=m1.perm (k (E i) { h with state:=.busy }).symm
  have m4:v.to (Hj s++HLp l D h) ⟨I.im,I.w.putObj l (.loop { h with state:=.busy }),I.sl⟩ (E i++HLp l D { h with state:=.busy }) :=
    (k3.trans ((m2.permL (k _ _).symm).subR fun b V=>((k (E i) { h with state:=.busy }).map Prod.fst).mem_iff.1 V))
  have U:=az_ (m2.le A) k4;refine wpIn_mono (ha_.1 (y n v (Hj s++HLp l D h) (HLp l D { h with state:=.busy }) i) a1 ⟨I.im,_,I.sl⟩ k1 m3 m4 U) ?_;intro e2 a2 w2 B;cases e2 with
  | normal =>
    obtain⟨C,T,O,rfl,q1,q2⟩:=B;have J:=q1.perm (k _ _);have M:=(J.own _ List.mem_cons_self).1;obtain⟨z1,z2⟩:=fg_ (o':=.loop h) J;have er:({ h with state:=.ready,pending:=none }:Loop)=h:=by cases h;simp_all
    refine⟨_,_,run_endRound none M,⟨C,O⟩,⟨T.im,T.w.putObj l (.loop h),T.sl⟩,rfl,?_,z1.perm (k _ _).symm,trivial,q2.trans ((z2.permL (k _ _).symm).subR fun b V=>((k (Hj C) h).map Prod.fst).mem_iff.1 V)⟩;simp[er]
  | ret=>exact B.elim
  | exit id=>exact B.elim
  | goto t=>exact B.elim
  | panic c=>exact B.elim
  | outgrown=>exact B.elim
theorem se_ {σ:Type} {Hj:σ→Hp} {h G:Hp} {ok:σ→Prop} (e:σ) (x:ok e) (k:H.Perm (Hj e++h++G)):OkD N [] v0 H0 (xh_ v0 H0 Hj ok h .normal) fr H Γ :=
  dg_ (Γ':=[]) k (fun _ _ _=>trivial) fun a v y m q _=>⟨e,v,x,rfl,m,q⟩
theorem qF_ {σ α:Type} {g:Operand} {pm:Nat} {assign body:Code} {S:FuncId} {caps:List Value} {Hj:σ→Hp} {Hc:Hp} {Γi:List Fct} (Γx:List Fct) {xv:α→Value} {good:σ→α→Prop} {nx:α→σ→σ→Prop} {Rc:σ→Prop}
    (s0:σ) (hg:Fr.ev fr g=some (.func (.func S) #[] caps.toArray)) (hH:H.Perm (Hc++Hj s0)) (a0:∀ v,v.sat H→ag_ Γ v→ag_ Γi v)
    (B:∀ l D (k:Loop),k.params=#[pm]→k.state=.ready→k.pending=none→Fr.sat N fr ⟨k.tmps,[]⟩→k.assign=assign→k.body=body→∀ s x,good s x →
      jw_ P l (xv x) (Hj s++HLp l D k) Γx (fun _:{y:σ // nx x s y}=>.bool true) (fun y=>Hj y.1++HLp l D k) (fun _=>[]))
    (W:∀ l (Gj:σ→Hp),(∀ s x,good s x→jw_ P l (xv x) (Gj s) Γx (fun _:{y:σ // nx x s y}=>.bool true) (fun y=>Gj y.1) (fun _=>[])) →
      Tri P S (.func (.yield l) #[] #[]::caps).toArray (Hc++Gj s0) Γi (fun _:{y:σ // Rc y}=>.tuple #[]) (fun y=>Hc++Gj y.1) (fun _=>[]))
    (G:∀ y,Rc y→∀ D l r,sV_ Fence.wide 0 P R N (ox_ D) v0 H0 K fr (Hc++Hj y++HLp l D r) Γ) :
    Run P R N v0 H0 (.rangeFunc g #[pm] assign body) K fr H Γ:=by
  intro a v I J h3 h4;refine wpIn_wide (n:=0) |>.1 (wpIn_mono (Q:=ez_ Fence.wide 0 P R K) (wpIn_rangeFunc fun fn _=>?_) fun e a w hq=>bA_ K e a w hq)
  obtain⟨a1,a2⟩:=gf_ (w':=v.w.alloc (.deferred (some []))) (o:=.deferred (some [])) J rfl rfl rfl rfl (Nat.le_refl _);obtain⟨k,m⟩:∃ k:Loop,k={ state:=.ready,pending:=none,fn,tmps:=a.tmps,params:=#[pm],assign,body,defers:=v.w.heap.size }:=⟨_,rfl⟩;obtain⟨b1,b2⟩:=gf_ (w':=(v.w.alloc (.deferred (some []))).alloc (.loop k)) (o:=.loop k) a1 rfl rfl rfl rfl (Nat.le_refl _);have O:(v.w.alloc (Obj.deferred (some []))).heap.size=v.w.heap.size+1:=by simp
  have Z:(⟨v.im,(v.w.alloc (.deferred (some []))).alloc (.loop k),v.sl⟩:Vw).sat ((v.w.heap.size+1,.loop k)::(v.w.heap.size,.deferred (some []))::H):=O▸b1;have E:v.to H ⟨v.im,(v.w.alloc (.deferred (some []))).alloc (.loop k),v.sl⟩ ((v.w.heap.size+1,.loop k)::(v.w.heap.size,.deferred (some []))::H):=a2.trans (O▸b2)
  have A:((v.w.heap.size+1,Obj.loop k)::(v.w.heap.size,.deferred (some []))::H).Perm (Hc++(Hj s0++HLp (v.w.heap.size+1) v.w.heap.size k)):=by
    rw[← List.append_assoc];exact (List.perm_append_comm (l₁:=HLp (v.w.heap.size+1) v.w.heap.size k) (l₂:=H)).trans (hH.append_right _)
  have hT:=W (v.w.heap.size+1) (fun s=>Hj s++HLp (v.w.heap.size+1) v.w.heap.size k)
    (B _ _ k (by rw[m]) (by rw[m]) (by rw[m]) (by rw[m];exact⟨I.size,rfl,I.val⟩) (by rw[m]) (by rw[m]))
  have T:=az_ (E.le J) (a0 v J h4);have hΓ3:=az_ (E.le J) h4;have he:=I.ev hg;refine⟨v.w.heap.size+1,ox_ v.w.heap.size,(v.w.alloc (.deferred (some []))).alloc (.loop k),⟨.fn (.func S) caps.toArray,#[.func (.yield (v.w.heap.size+1)) #[] #[]]⟩,(v.w.alloc (.deferred (some []))).alloc (.loop k),S,(.func (.yield (v.w.heap.size+1)) #[] #[]::caps).toArray,_,?_,?_,fun _ _=>trivial,?_,fun h=>(by cases h),callsIn_wide.2 ((hT.run ⟨v.im,_,v.sl⟩ (Z.perm A) T).mono ?_)⟩
  · rw[m];exact run_enterLoop_outer _ _ _ _ _
  · simp only[resolve,rangeCall,List.map_toArray,List.map_cons,List.map_nil,he,Deferred.ofValue]
    rfl
  · have:=hT.callable (.func (.yield (v.w.heap.size+1)) #[] #[]::caps).toArray ((v.w.alloc (.deferred (some []))).alloc (.loop k))
    simpa [invoke] using this
  · rintro e w' ⟨⟨y,V⟩,v',rfl,rfl,g1,g2,g3⟩
    have M:=E.trans (g3.permL A.symm);have U:=az_ (M.le J) h4;have hsd:∀ L,SatD N L fr { a with defers:=L++a.defers }:=fun L=>⟨⟨I.size,rfl,I.val⟩,by show L++a.defers=L;rw[I.defers];simp⟩
    have C:∀ (X Y:Hp) r,(Y++(X++HLp (v.w.heap.size+1) v.w.heap.size r)).Perm ((v.w.heap.size+1,.loop r)::(Y++X++[(v.w.heap.size,.deferred (some []))])):=fun X Y r=>by
      unfold HLp;rw[← List.append_assoc];exact List.perm_middle
    have q:=g1.perm (C (Hj y) Hc k);have hl:=(q.own _ List.mem_cons_self).1;obtain⟨z1,z2⟩:=fg_ (o':=.loop { k with state:=.exhausted }) q
    have zp:((v.w.heap.size+1,Obj.loop { k with state:=.exhausted })::(Hc++Hj y++[(v.w.heap.size,.deferred (some []))])).Perm (Hc++Hj y++HLp (v.w.heap.size+1) v.w.heap.size { k with state:=.exhausted }):=by
      have:=(C (Hj y) Hc { k with state:=.exhausted }).symm;rw[← List.append_assoc]at this;exact this
    refine⟨k.pending,_,run_endLoop hl (by rw[m];simp),?_⟩;have hpn:k.pending=none:=by rw[m]
    split
    case h_2=>rename_i c hc;rw[hpn]at hc;cases hc
    exact G y V _ _ _ _ ⟨v'.im,_,v'.sl⟩ (hsd _) (z1.perm zp) (h3.trans (M.trans ((z2.permL (C _ _ _).symm).subR fun b hb=>(zp.map Prod.fst).mem_iff.2 hb))) (az_ (z2.le q) U)
theorem sc_ {σ α:Type} {g:Operand} {A:Nat} {assign body:Code} {y:FuncId} {caps:List Value} {Hj:σ→Hp} {Hc:Hp} {Γi:List Fct} {xv:α→Value} {good:σ→α→Prop} {nx:α→σ→σ→Prop} {Rc:σ→Prop}
    (k:σ) (C:Fr.ev fr g=some (.func (.func y) #[] caps.toArray)) (B:H.Perm (Hc++Hj k)) (m:∀ v,v.sat H→ag_ Γ v→ag_ Γi v)
    (e:∀ l D (rec:Loop),rec.params=#[A]→rec.state=.ready→rec.pending=none→Fr.sat N fr ⟨rec.tmps,[]⟩→rec.assign=assign→rec.body=body→∀ s x,good s x →
      jw_ P l (xv x) (Hj s++HLp l D rec) [] (fun _:{s':σ // nx x s s'}=>.bool true) (fun s'=>Hj s'.1++HLp l D rec) (fun _=>[]))
    (q:∀ l (Gj:σ→Hp),(∀ s x,good s x→jw_ P l (xv x) (Gj s) [] (fun _:{s':σ // nx x s s'}=>.bool true) (fun s'=>Gj s'.1) (fun _=>[])) →
      Tri P y (.func (.yield l) #[] #[]::caps).toArray (Hc++Gj k) Γi (fun _:{s':σ // Rc s'}=>.tuple #[]) (fun s'=>Hc++Gj s'.1) (fun _=>[]))
    (h:∀ s',Rc s'→∀ D l r,sV_ Fence.wide 0 P R N (ox_ D) v0 H0 K fr (Hc++Hj s'++HLp l D r) Γ) :
    Run P R N v0 H0 (.rangeFunc g #[A] assign body) K fr H Γ:=
  qF_ [] k C B m e q h
end
section
variable {Fc:Fence} {n:Nat} {P:Program} {N:Nat} {D:List Deferred} {v0:Vw} {H0:Hp} {R:Exit→Act→World→Prop} {K:List Kt} {fr:Fr} {H:Hp} {Γ:List Fct}
variable {ops:Array Oper} {l:List Oper} {d:Nat} {ty:TypeId} {ps:String} {af:Array Edge}
theorem us_ {t e:TypeId} {len sz:Nat} {parts:List (Nat×Operand)} {vs:List (Nat×Value)} {m:Value} {cs:List Value} (M:Opn Fc) (O:∀ w,(underlying t).run P w=.ok (.slice e) w) (Q:∀ w,(sizeOf e).run P w=.ok sz w) (T:∀ w,(zeroValue e).run P w=.ok m w)
    (C:m.cells.toList.length=sz) (V:Nat.blt 0 (len*sz)=true) (B:Nat.ble (len*sz) 16777216=true) (U:Fr.evp fr parts=some vs) (Y:mp_ (fun i=>some (i*sz,sz)) (jv_ m.cells.toList len) vs=some cs) (W:Nat.blt d N=true)
    (hk:∀ b,gb_ Fc n P R N D v0 H0 ops l K ((d,.slice (some ⟨b,0,none⟩) len len)::fr) ((b,.cells cs.toArray e (0,0))::H) Γ):gb_ Fc n P R N D v0 H0 ops (⟨some d,.buildSlice t len parts.toArray,ty,ps,af,none⟩::l) K fr H Γ :=
  eq_ rfl fun a v I J Z h4=>by
    refine⟨fun f _=>M.fn f,?_⟩;rw[semAt_eq rfl]
    have S:(execOp a.eval ⟨some d,.buildSlice t len parts.toArray,ty,ps,af,none⟩).run P v.w=.ok (.value (.slice (some ⟨v.w.heap.size,0,none⟩) len len)) (v.w.alloc (.cells cs.toArray e (0,0))):=by
      have y:=I.sat.evp U;have h:=iU_ _ _ _ _ Y;have k:0<len*sz:=by simpa [Nat.blt_eq] using V
      have E:0<sz:=Nat.pos_of_mul_pos_left k;have L:len*sz≤16777216:=Nat.le_of_ble_eq_true B;have A:=jK_ m.cells.toList zr_ len;rw[C]at A;simp only[Array.toArray_toList]at A;rw[← A]at h;have q:(parts.map fun (i,x)=>(i,a.eval x))=vs:=y;simp only[execOp,Instr.buildSlice,Sem.run_bind,O,Result.andThen_ok,Q,List.map_toArray,q];rw[if_neg zr_,if_neg zr_];simp only[Sem.run_bind,Sem.run_pure,T,Result.andThen_ok,h];rfl
    rw[S];obtain⟨X,G⟩:=gf_ (w':=v.w.alloc (.cells cs.toArray e (0,0))) (o:=.cells cs.toArray e (0,0)) J rfl rfl rfl rfl (Nat.le_refl _);exact hk v.w.heap.size _ ⟨v.im,_,v.sl⟩ (I.put W) X (Z.trans G) (az_ (G.le J) h4)
theorem gz_ {k:Act→World→Prop} {H':Hp} (e:H.Perm H') (h:OkD N D v0 H0 k fr H' Γ):OkD N D v0 H0 k fr H Γ :=
  fun a v m q y A=>h a v m (q.perm e) (y.subR fun b x=>(e.map Prod.fst).mem_iff.2 x) A
theorem ow_ {t e:TypeId} {x y:Operand} {b off sz m:Nat} {sv:Value} {B:List Value} {Hr:Hp} (k:Opn Fc) (i:Nat) {cur:Array Value} {T:TypeId} (h:aB_ e sz sv m B Hr) (q:∀ w,(sizeOf t).run P w=.ok 1 w)
    (v:Fr.ev fr x=some (.pointer (some ⟨b,off,none⟩))) (A:Fr.ev fr y=some sv) (hi:H[i]? = some (b,.cells cur T (0,0))) (C:Nat.ble (off+1) cur.size=true)
    (hk:gb_ Fc n P R N D v0 H0 ops l K fr (H.set i (b,.cells (cur.toList.take off++[sv]++cur.toList.drop (off+1)).toArray T (0,0))) Γ):gb_ Fc n P R N D v0 H0 ops (⟨none,.store t x y,ty,ps,af,none⟩::l) K fr H Γ :=
  gy_ k i q v A hi (by rw[(fQ_ h).1];rfl) C (by rw[(fQ_ h).1];simp[(fQ_ h).2]) (by rw[(fQ_ h).1];exact hk)
theorem rc_ {x y:Operand} {t e:TypeId} {sz by' m k c:Nat} {sv:Value} {G news:List Value} {Hr F:Hp} {ad:Addr} (hF:Opn Fc) (E:Elt P t e sz by') (q:aB_ e sz sv m G Hr)
    (Z:Fr.ev fr x=some sv) (hy:Fr.ev fr y=some (.slice (some ad) k c)) (J:H.Perm (Hr++F)) (hl:news.length=k*sz) (A:∀ v,v.sat H→ag_ Γ v→∀ j u,news[j]? = some u→v.w.cell? (ad.add j)=some u) (B:∀ u∈news,u.oneCell'=true)
    (C:m+k≤maxLen) (U:(m+k)*by'≤140737488355328) (hN:Nat.blt d N=true)
    (hk:∀ sv' h,aB_ e sz sv' (m+k) (G++news) h→gb_ Fc n P R N D v0 H0 ops l K ((d,sv')::fr) (h++F) Γ) :
    gb_ Fc n P R N D v0 H0 ops (⟨some d,.call ⟨.builtin .append,#[x,y],#[t,t]⟩,ty,ps,af,none⟩::l) K fr H Γ :=
  eq_ rfl fun a v L M h3 Y=>by
    refine⟨fun f _=>hF.fn f,?_⟩;rw[semAt_eq rfl];obtain⟨i,z,hi,V,es,T,ez⟩:=E.info;have g:=M.perm J;have X:=A v M Y;have O:=q.owns g;obtain⟨Q,w',W,q1,q2,_⟩:=run_append_own (P:=P) v.w 0 t ty e i z sz by' E.und hi V es T ez E.pos sv m G O ad k c news hl X B C U (Nat.zero_le _)
    obtain⟨a1,a2⟩:=kT_ v.w E.und hi V es O hl X B C (by rw[T];exact U) W;obtain⟨h,k1,k2,S⟩:=jn_ q g q1 q2 a1 a2;have e1:a.eval x=sv:=L.sat.ev Z;have e2:a.eval y=.slice (some ad) k c:=L.sat.ev hy
    have I:(execOp a.eval ⟨some d,.call ⟨.builtin .append,#[x,y],#[t,t]⟩,ty,ps,af,none⟩).run P v.w=.ok (.value Q) w':=by
      simp only[execOp,resolve,invoke,builtin,Sem.run_bind,Sem.run_pure,Result.andThen_ok,List.map_toArray,List.map_cons,List.map_nil,e1,e2,W]
    rw[I];exact hk Q h k1 _ ⟨v.im,w',v.sl⟩ (L.put hN) k2 (h3.trans (S.permL J.symm)) (az_ ((S.permL J.symm).le M) Y)
end
end Go.Sx
namespace Go.Vs
open Go Go.Sx
abbrev RSt:=Str×Str×Bool
def mE_ (l:List Str) (x:Str):List Str:=if x∈l then l else l++[x]
def ne_ (l:List Str):List Str:=l.foldl mE_ []
theorem rT_ (l:List Str) (x:Str):ne_ (l++[x])=mE_ (ne_ l) x:=by simp[ne_]
theorem xd_ {l:List Str} {x y:Str}:y∈mE_ l x↔y∈l∨y=x:=by
 unfold mE_
 split
 ·rename_i h
  exact⟨.inl,fun q=>q.elim id fun e=>e▸h⟩
 simp
theorem yW_ {l:List Str} {x:Str} (h:l.Nodup):(mE_ l x).Nodup:=by
 unfold mE_
 split
 ·exact h
 rename_i q
 rw[List.nodup_append];exact⟨h,by simp,fun a m b k e=>by simp at k;subst k;subst e;exact q m⟩
theorem nd_ (l:List Str):(ne_ l).Nodup∧∀ y,y∈ne_ l↔y∈l:=by
  unfold ne_
  have q:∀ (l e:List Str),e.Nodup→(l.foldl mE_ e).Nodup∧∀ y,y∈l.foldl mE_ e↔y∈e∨y∈l:=by
    intro l
    induction l with
    | nil=>intro e h;exact⟨h,fun y=>by simp⟩
    | cons x l ih =>
      intro e h;obtain⟨k,m⟩:=ih (mE_ e x) (yW_ h);refine⟨k,fun y=>?_⟩;rw[List.foldl_cons,m,xd_,List.mem_cons,or_assoc]
  obtain⟨k,m⟩:=q l [] List.nodup_nil;exact⟨k,fun y=>by rw[m];simp⟩
def ik (S:List RSt) (r:Str):List Str:=ne_ ((S.filter fun z=>decide (z.1=r)).map (·.2.1))
def flg (S:List RSt) (r s:Str):Bool:=S.any fun z=>decide (z.1=r)&&(decide (z.2.1=s)&&z.2.2)
theorem nZ_ {S:List RSt} {r s:Str}:s∈ik S r↔∃ c,(r,s,c)∈S:=by
 unfold ik;rw[(nd_ _).2,List.mem_map];constructor
 ·rintro ⟨⟨a,b,c⟩,h,rfl⟩
  rw[List.mem_filter,decide_eq_true_eq]at h;obtain⟨e,rfl⟩:=h;exact⟨c,e⟩
 rintro ⟨c,h⟩;exact⟨(r,s,c),by rw[List.mem_filter];exact⟨h,by simp⟩,rfl⟩
theorem zl_ (S:List RSt) (r:Str):(ik S r).Nodup:=(nd_ _).1
theorem pU_ (S:List RSt) (r s:Str) (c:Bool) (q:Str):ik (S++[(r,s,c)]) q=if r=q then mE_ (ik S q) s else ik S q:=by
 unfold ik;rw[List.filter_append,List.map_append]
 by_cases h:r=q
 ·rw[if_pos h]
  simp only[List.filter_cons,h,decide_true,if_true,List.filter_nil,List.map_cons,List.map_nil];exact rT_ _ _
 rw[if_neg h];simp[h]
theorem oc_ {S:List RSt} {r s:Str}:flg S r s=true↔(r,s,true)∈S:=by
 unfold flg;rw[List.any_eq_true];constructor
 ·rintro ⟨⟨a,b,c⟩,h,e⟩
  simp only[Bool.and_eq_true,decide_eq_true_eq]at e;obtain⟨rfl,rfl,rfl⟩:=e;exact h
 exact fun h=>⟨_,h,by simp⟩
theorem od_ (S:List RSt) (r s:Str) (c:Bool) (q t:Str):flg (S++[(r,s,c)]) q t=(flg S q t||(decide (r=q)&&(decide (s=t)&&c))):=by
  unfold flg;rw[List.any_append];simp
theorem flg_no {S:List RSt} {r s:Str} (h:s ∉ ik S r):flg S r s=false:=by
 cases e:flg S r s
 ·rfl
 exact absurd (nZ_.2 ⟨true,oc_.1 e⟩) h
end Go.Vs
namespace Go.Sx
open Go Go.Vs
structure BolE (es:Array MapEntry) (ks:List Str) (g:Str→Bool):Prop where
  keys:es.toList.map (·.key)=ks.map str
  vals:es.toList.map (·.val)=ks.map fun k=>Value.bool (g k)
  nd:ks.Nodup
section
variable {P:Program} {kt:TypeId} {es:Array MapEntry} {ks:List Str} {g:Str→Bool}
theorem BolE.nil {g:Str→Bool}:BolE #[] [] g:=⟨rfl,rfl,List.nodup_nil⟩
theorem BolE.no (e:KeyT P kt str) (h:BolE es ks g) {k:Str} (hk:k ∉ ks):dJ_ P kt (str k) es.toList none:=e.nf k es.toList ks h.keys hk
theorem BolE.yes (y:KeyT P kt str) (h:BolE es ks g) {k:Str} (hk:k∈ks):∃ i e,ks[i]? = some k∧es[i]? = some e∧e.key=str k∧e.val=.bool (g k)∧dJ_ P kt (str k) es.toList (some (i,.bool (g k))):=by
  obtain⟨i,hi⟩:=List.getElem?_of_mem hk
  have v:i<es.toList.length:=by
    have:=(List.getElem?_eq_some_iff.1 hi).1;have e:=congrArg List.length h.keys;simp only[List.length_map]at e;omega
  have q:=List.getElem?_eq_getElem v;have x:=congrArg (fun l=>l[i]?) h.vals;simp only[List.getElem?_map,q,Option.map_some,hi,Option.some.injEq]at x;have m:=congrArg (fun l=>l[i]?) h.keys;simp only[List.getElem?_map,q,Option.map_some,hi,Option.some.injEq]at m;refine⟨i,es.toList[i],hi,by rw[← Array.getElem?_toList];exact q,m,x,?_⟩;have:=y.sf k es.toList ks i _ h.keys h.nd hi q;rwa [x]at this
theorem BolE.push (h:BolE es ks g) {k:Str} (hk:k ∉ ks) (b:Bool) (c:Nat) {m:Str→Bool} (x:m k=b) (y:∀ q,q∈ks→m q=g q):BolE (es.push ⟨str k,.bool b,c⟩) (ks++[k]) m:=by
 refine⟨by simp[h.keys],?_,?_⟩
 ·rw[Array.toList_push,List.map_append,h.vals,List.map_append]
  simp only[List.map_cons,List.map_nil,x];rw[show List.map (fun q=>Value.bool (g q)) ks=List.map (fun q=>Value.bool (m q)) ks from List.map_congr_left fun q A=>by rw[y q A]]
 rw[List.nodup_append];exact⟨h.nd,by simp,fun a B b v e=>by simp at v;subst v;subst e;exact hk B⟩
theorem BolE.set (h:BolE es ks g) {k:Str} {i:Nat} (hi:ks[i]? = some k) (b:Bool) {I:Str→Bool} (O:I k=b) (Q:∀ q,q≠k→I q=g q):BolE (es.modify i fun y=>{ y with key:=str k,val:=.bool b }) ks I:=by
 have B:=congrArg List.length h.keys;simp only[List.length_map]at B;refine⟨?_,?_,h.nd⟩
 ·rw[← h.keys]
  apply List.ext_getElem?
  intro j;simp only[List.getElem?_map,Array.getElem?_toList,Array.getElem?_modify]
  by_cases m:i=j
  ·subst m
   rw[if_pos rfl];have hk:=congrArg (fun l=>l[i]?) h.keys;simp only[List.getElem?_map,hi,Option.map_some,Array.getElem?_toList]at hk;cases he:es[i]? with
   | none=>rfl
   | some e=>rw[he]at hk;simpa using hk.symm
  rw[if_neg m]
 apply List.ext_getElem?
 intro j;have L:=congrArg (fun l=>l[j]?) h.vals;simp only[List.getElem?_map,Array.getElem?_toList,Array.getElem?_modify]at L ⊢
 by_cases m:i=j
 ·subst m
  have G:i<es.size:=by
    have:=(List.getElem?_eq_some_iff.1 hi).1;rw[Array.length_toList]at B;omega
  rw[if_pos rfl,Array.getElem?_eq_getElem G,hi];simp[O]
 rw[if_neg m,L];cases hq:ks[j]? with
 | none=>rfl
 | some q =>
   have:q≠k:=fun e=>by
     subst e;have v:=(List.getElem?_eq_some_iff.1 hi).1;have x:=(List.getElem?_eq_some_iff.1 hq).1;have M:=(List.getElem?_eq_some_iff.1 hi).2;have J:=(List.getElem?_eq_some_iff.1 hq).2;have C:=h.nd;unfold List.Nodup at C;rw[List.pairwise_iff_getElem]at C;rcases Nat.lt_trichotomy i j with A|A|A
     · exact C i j v x A (M.trans J.symm)
     · exact m A
     · exact C j i x v A (J.trans M.symm)
   simp[Q q this]
end
def gD_ (E:Str→Array MapEntry×Nat) (p:Str×Nat):Nat×Obj:=(p.2,.map (E p.1).1 (E p.1).2)
def mw_ (o:Option Nat):Value:=.map o
structure MmE (ks:List (Str×Nat)) (S:List RSt) (es:Array MapEntry) (c:Nat) (E:Str→Array MapEntry×Nat):Prop where
  keys:es.toList.map (·.key)=(ks.map (·.1)).map str
  vals:es.toList.map (·.val)=ks.map fun p=>mw_ (some p.2)
  nd:(ks.map (·.1)).Nodup
  all:∀ z∈S,z.1∈ks.map (·.1)
  born:Born es c
  inn:∀ k∈ks.map (·.1),BolE (E k).1 (ik S k) (flg S k)∧Born (E k).1 (E k).2
def MmO (mb:Nat) (ks:List (Str×Nat)) (S:List RSt) (H:Hp):Prop:=∃ es c E,H=(mb,.map es c)::ks.map (gD_ E)∧MmE ks S es c E
theorem MmO.nil (mb c:Nat):MmO mb [] [] [(mb,.map #[] c)]:=⟨#[],c,fun _=>(#[],0),rfl,rfl,rfl,List.nodup_nil,by simp,Born.nil c,by simp⟩
section
variable {P:Program} {kt:TypeId} {mb:Nat} {ks:List (Str×Nat)} {S:List RSt} {es:Array MapEntry} {c:Nat} {E:Str→Array MapEntry×Nat} {H:Hp}
theorem MmE.no (e:KeyT P kt str) (h:MmE ks S es c E) {k:Str} (hk:hd_ ks k=none):dJ_ P kt (str k) es.toList none:=e.nf k es.toList _ h.keys (je_ hk)
theorem MmE.yes (m:KeyT P kt str) (h:MmE ks S es c E) {k:Str} {b:Nat} (hk:hd_ ks k=some b):∃ i,dJ_ P kt (str k) es.toList (some (i,mw_ (some b))):=by
  obtain⟨i,hi⟩:=List.getElem?_of_mem (kY_ hk);have e:=congrArg (fun l=>l[i]?) h.vals;simp only[List.getElem?_map,hi,Option.map_some]at e;cases hx:es.toList[i]? with
  | none=>rw[hx]at e;simp at e
  | some x =>
    rw[hx]at e;simp only[Option.map_some,Option.some.injEq]at e;refine⟨i,?_⟩;have:=m.sf k es.toList _ i x h.keys h.nd (by rw[List.getElem?_map,hi];rfl) hx;rwa [e]at this
theorem MmO.at (h:MmO mb ks S H) {k:Str} {b:Nat} (hk:hd_ ks k=some b):∃ es c Hr,H.Perm ((b,.map es c)::Hr)∧BolE es (ik S k) (flg S k)∧Born es c ∧
    ∀ s d m v,BolE m (ik (S++[(k,s,d)]) k) (flg (S++[(k,s,d)]) k)→Born m v→∃ H',MmO mb ks (S++[(k,s,d)]) H'∧((b,Obj.map m v)::Hr).Perm H':=by
  obtain⟨es,c,E,rfl,hE⟩:=h;have hm:=kY_ hk;have y:k∈ks.map (·.1):=List.mem_map_of_mem hm;obtain⟨B,C,rfl⟩:=List.append_of_mem hm;refine⟨(E k).1,(E k).2,(mb,.map es c)::(B++C).map (gD_ E),?_,(hE.inn k y).1,(hE.inn k y).2,fun s d m v hB G=>?_⟩
  · rw[List.map_append,List.map_cons,List.map_append]
    exact (List.Perm.cons _ List.perm_middle).trans (.swap _ _ _)
  · have x:=hE.nd
    rw[List.map_append,List.map_cons,List.nodup_append,List.nodup_cons]at x
    have M:B.map (gD_ fun q=>if q=k then (m,v) else E q)=B.map (gD_ E):=List.map_congr_left fun p I=>by
      unfold gD_;dsimp only;rw[if_neg fun e=>x.2.2 p.1 (List.mem_map_of_mem I) k zC_ e]
    have O:C.map (gD_ fun q=>if q=k then (m,v) else E q)=C.map (gD_ E):=List.map_congr_left fun p I=>by
      unfold gD_;dsimp only;rw[if_neg fun e=>x.2.1.1 (List.mem_map.2 ⟨p,I,e⟩)]
    refine⟨(mb,.map es c)::(B++(k,b)::C).map (gD_ fun q=>if q=k then (m,v) else E q),⟨es,c,_,rfl,hE.keys,hE.vals,hE.nd,fun z A=>?_,hE.born,fun q J=>?_⟩,?_⟩
    · rcases List.mem_append.1 A with A|A
      · exact hE.all z A
      · rw[List.mem_singleton]at A;subst A;exact y
    · by_cases e:q=k
      · subst e;rw[if_pos rfl];exact⟨hB,G⟩
      · rw[if_neg e,pU_,if_neg (Ne.symm e)]
        have:flg (S++[(k,s,d)]) q=flg S q:=funext fun t=>by rw[od_,decide_eq_false (Ne.symm e)];simp
        rw[this];exact hE.inn q J
    · have L:gD_ (fun q=>if q=k then (m,v) else E q) (k,b)=(b,.map m v):=by unfold gD_;dsimp only;rw[if_pos rfl]
      rw[List.map_append,List.map_append,List.map_cons,M,O,L];exact ((List.Perm.cons _ List.perm_middle).trans (.swap _ _ _)).symm
theorem MmE.push (h:MmE ks S es c E) {k:Str} (hk:hd_ ks k=none) (b y:Nat):MmE (ks++[(k,b)]) S (es.push ⟨str k,mw_ (some b),c⟩) (c+1) (fun q=>if q=k then (#[],y) else E q):=by
 have v:=je_ hk;refine⟨by simp[h.keys],by simp[h.vals],?_,fun x C=>by simp only[List.map_append,List.mem_append];exact .inl (h.all x C),h.born.push _ _,fun q m=>?_⟩
 ·rw[List.map_append,List.nodup_append]
  exact⟨h.nd,by simp,fun a G q m e=>by simp at m;subst m;subst e;exact v G⟩
 by_cases e:q=k
 ·subst e
  rw[if_pos rfl]
  have:ik S q=[]:=List.eq_nil_iff_forall_not_mem.2 fun s A=>by
    obtain⟨d,B⟩:=nZ_.1 A;exact v (h.all _ B)
  rw[this];exact⟨BolE.nil,Born.nil _⟩
 rw[if_neg e];refine h.inn q ?_;rw[List.map_append,List.mem_append]at m;rcases m with m|m
 ·exact m
 simp at m;exact absurd m e
end
section ops
variable {P:Program} {N:Nf} {v0:Vw} {H0:Hp} {R:Exit→Act→World→Prop} {K:List Kt} {fr:Fr} {H F:Hp} {Γ:List Fct}
variable {ops:Array Oper} {l:List Oper} {d:Nat} {ty:TypeId} {ps:String} {af:Array Edge}
variable {mb:Nat} {ks:List (Str×Nat)} {S:List RSt} {Hx:Hp}
theorem ft_ {t kt B:TypeId} {x y:Operand} {k:Str} (e:KeyT P kt str) (m:∀ w,(underlying t).run P w=.ok (.map kt B) w) (G:∀ w,(zeroValue B).run P w=.ok (.map none) w) (C:MmO mb ks S Hx) (q:Fr.ev fr x=some (.map (some mb))) (A:Fr.ev fr y=some (str k)) (I:H.Perm (Hx++F)) :
    Yld P N fr H Γ (.lookup t x y false) ty (mw_ (hd_ ks k)):=by
  obtain⟨es,c,E,rfl,hE⟩:=C;have hm:∀ v:Vw,v.sat H→ag_ Γ v→v.w.heap[mb]? = some (.map es c):=fun v h _=>(h.own (mb,.map es c) (I.mem_iff.2 zC_)).1
  cases hk:hd_ ks k with
  | none=>exact eZ_ m G q A hm (e.ok k) (hE.no e hk)
  | some b =>
    obtain⟨i,J⟩:=hE.yes e hk;exact fs_ m q A hm (e.ok k) J
theorem uY_ {t A kt e:TypeId} {x y:Operand} {o:Option Nat} (m:P.underlying t=some (.map kt e)) (B:Fr.ev fr x=some (mw_ o)) (k:Fr.ev fr y=some (.map none)):Yld P N fr H Γ (.binOp .eql t x y A) ty (.bool (decide (o=none))) :=
  fun a v h _ _ _ _ _=>by
    have q:decide (o=none)=o.isNone:=by cases o<;>simp
    rw[q];have:=run_eql_map_nil (P:=P) v.w t kt e o m;simp[execOp,h.ev B,h.ev k,eqGuard,mw_,this]
theorem jG_ {t kt G:TypeId} {x y:Operand} {k s:Str} {b:Nat} (e:KeyT P kt str) (A:∀ w,(underlying t).run P w=.ok (.map kt G) w) (L:∀ w,(zeroValue G).run P w=.ok (.bool false) w) (I:MmO mb ks S Hx) (hk:hd_ ks k=some b) (B:Fr.ev fr x=some (.map (some b))) (C:Fr.ev fr y=some (str s)) (M:H.Perm (Hx++F)) :
    Yld P N fr H Γ (.lookup t x y false) ty (.bool (flg S k s)):=by
  obtain⟨es,c,Hr,J,q,_,_⟩:=I.at hk;have hm:∀ v:Vw,v.sat H→ag_ Γ v→v.w.heap[b]? = some (.map es c):=fun v h _=>(h.own _ (M.mem_iff.2 (List.mem_append_left _ (J.mem_iff.2 List.mem_cons_self)))).1
  by_cases m:s∈ik S k
  · obtain⟨_,_,_,_,_,_,O⟩:=q.yes e m
    exact fs_ A B C hm (e.ok s) O
  · rw[flg_no m]
    exact eZ_ A L B C hm (e.ok s) (q.no e m)
theorem vV_ {o:Op} {t kt O:TypeId} {x y z:Operand} {k:Str} {b h:Nat} (B:KeyT P kt str) (G:o=.insert t x y z∨o=.mapUpdate t x y z) (I:∀ w,(underlying t).run P w=.ok (.map kt O) w) (C:MmO mb ks S Hx) (hk:hd_ ks k=none)
    (L:Fr.ev fr x=some (.map (some mb))) (M:Fr.ev fr y=some (str k)) (J:Fr.ev fr z=some (.map (some b))) (v:H.Perm ((b,.map #[] h)::(Hx++F)))
    (A:∀ H',MmO mb (ks++[(k,b)]) S H'→Ops P R N v0 H0 ops l K fr (H'++F) Γ):Ops P R N v0 H0 ops (⟨none,o,ty,ps,af,none⟩::l) K fr H Γ:=by
  obtain⟨es,c,E,rfl,hE⟩:=C
  have T:ks.map (gD_ fun q=>if q=k then (#[],h) else E q)=ks.map (gD_ E):=List.map_congr_left fun p v=>by
    unfold gD_;dsimp only;rw[if_neg fun e:p.1=k=>je_ hk (e▸List.mem_map_of_mem v)]
  have Q:gD_ (fun q=>if q=k then (#[],h) else E q) (k,b)=(b,.map #[] h):=by unfold gD_;dsimp only;rw[if_pos rfl]
  have m:H.Perm ((mb,.map es c)::((ks++[(k,b)]).map (gD_ fun q=>if q=k then (#[],h) else E q)++F)):=by
    refine v.trans ?_;rw[List.map_append,List.map_cons,List.map_nil,T,Q,List.cons_append];refine (List.Perm.swap _ _ _).trans (.cons _ ?_);rw[List.append_assoc];exact List.perm_middle.symm
  refine u_ m ?_;refine bi_ 0 G I L M J rfl (B.ok k) (hE.no B hk) ?_;simp only[List.set_cons_zero];exact A _ ⟨_,_,_,rfl,hE.push hk b h⟩
theorem qV_ {o:Op} {t kt Z:TypeId} {x y z:Operand} {k s:Str} {b:Nat} {e V:Bool} (v:KeyT P kt str) (I:o=.insert t x y z∨o=.mapUpdate t x y z) (J:∀ w,(underlying t).run P w=.ok (.map kt Z) w) (hT:MmO mb ks S Hx) (hk:hd_ ks k=some b) (he:V=(flg S k s||e))
    (L:Fr.ev fr x=some (.map (some b))) (M:Fr.ev fr y=some (str s)) (U:Fr.ev fr z=some (.bool V)) (hp:H.Perm (Hx++F))
    (m:∀ H',MmO mb ks (S++[(k,s,e)]) H'→Ops P R N v0 H0 ops l K fr (H'++F) Γ):Ops P R N v0 H0 ops (⟨none,o,ty,ps,af,none⟩::l) K fr H Γ:=by
  subst he;obtain⟨es,c,Hr,h1,A,O,W⟩:=hT.at hk;have Q:flg (S++[(k,s,e)]) k s=(flg S k s||e):=by rw[od_];simp
  have T:∀ q,q≠s→flg (S++[(k,s,e)]) k q=flg S k q:=fun q B=>by rw[od_,decide_eq_false (Ne.symm B)];simp
  refine u_ (hp.trans (h1.append_right F)) ?_
  by_cases h:s∈ik S k
  · obtain⟨i,en,Y,g2,g3,g4,X⟩:=A.yes v h
    obtain⟨H',C,G⟩:=W s e (es.modify i fun y=>{ y with key:=str s,val:=.bool (flg S k s||e) }) c (by rw[pU_,if_pos rfl,mE_,if_pos h];exact A.set Y _ Q T) (O.modify i _ fun _=>rfl);exact hI_ 0 v I J L M U rfl X g2 g3 (u_ (G.append_right F) (m H' C))
  · obtain⟨H',C,G⟩:=W s e (es.push ⟨str s,.bool (flg S k s||e),c⟩) (c+1) (by rw[pU_,if_pos rfl,mE_,if_neg h];exact A.push h (flg S k s||e) c Q fun q B=>T q (fun e=>h (e▸B))) (O.push _ _)
    exact bi_ 0 I J L M U rfl (v.ok s) (A.no v h) (u_ (G.append_right F) (m H' C))
end ops
end Go.Sx
namespace Go.Vs
open Go Go.Sx
def Ax.selfs (x:Ax):Nat:=x.roles.countP fun r=>decide (r=x.role)
def Ax.exm (x:Ax) (i:Nat):Bool:=decide (x.roles[i]? = some x.role)&&((decide (x.selfs=1)&&(decide (i=0)||decide (i+1=x.roles.length)))||(decide (x.selfs=2)&&decide (x.roles.length=2)))
def Ax.chs (x:Ax):Nat→List RSt
  | 0=>[]
  | i+1=>x.chs i++(match x.roles[i]? with|some r=>if x.exm i=true then [] else [(r,x.role,true)]|none=>[])
def Ax.steps (x:Ax):List RSt :=
  if x.kind=5 then (match x.roles[0]? with|some r=>if r=x.role then [] else [(r,x.role,false)]|none=>[])
  else if x.kind=6 then x.chs x.roles.length else []
def di_ (l:List Ax):List RSt:=l.flatMap Ax.steps
theorem dS_ {l:List Ax} {i:Nat} {x:Ax} (h:l[i]? = some x):di_ (l.take (i+1))=di_ (l.take i)++x.steps:=by
  unfold di_;rw[List.take_add_one,h,List.flatMap_append];simp
theorem Ax.steps_five {x:Ax} {r:Str} (hk:x.kind=5) (h:x.roles[0]? = some r) (d:r≠x.role):x.steps=[(r,x.role,false)]:=by unfold Ax.steps;rw[if_pos hk,h];dsimp only;rw[if_neg d]
theorem Ax.steps_same {x:Ax} {r:Str} (hk:x.kind=5) (h:x.roles[0]? = some r) (d:r=x.role):x.steps=[]:=by unfold Ax.steps;rw[if_pos hk,h];dsimp only;rw[if_pos d]
theorem Ax.steps_six {x:Ax} (hk:x.kind=6):x.steps=x.chs x.roles.length:=by unfold Ax.steps;rw[if_neg zr_,if_pos hk]
theorem Ax.steps_no {x:Ax} (e:x.kind≠5) (d:x.kind≠6):x.steps=[]:=by unfold Ax.steps;rw[if_neg e,if_neg d]
theorem Ax.chs_yes {x:Ax} {i:Nat} {r:Str} (h:x.roles[i]? = some r) (d:x.exm i=true):x.chs (i+1)=x.chs i:=by rw[Ax.chs,h];dsimp only;rw[if_pos d,List.append_nil]
theorem Ax.chs_no {x:Ax} {i:Nat} {r:Str} (h:x.roles[i]? = some r) (d:x.exm i=false):x.chs (i+1)=x.chs i++[(r,x.role,true)]:=by rw[Ax.chs,h];dsimp only;rw[if_neg (by rw[d];simp)]
def Frm (ks:List (Str×Nat)) (S:List RSt):Prop:=∀ k∈ks.map (·.1),∃ s c,(k,s,c)∈S
theorem Frm.nil {S:List RSt}:Frm [] S:=fun k hk=>by simp at hk
theorem Frm.more {ks:List (Str×Nat)} {S T:List RSt} (h:Frm ks S):Frm ks (S++T):=fun k hk=>by
  obtain⟨s,c,d⟩:=h k hk;exact⟨s,c,List.mem_append_left _ d⟩
theorem Frm.add {ks d:List (Str×Nat)} {S:List RSt} {r s:Str} {e:Bool} (h:Frm ks S) (q:∀ k∈d.map (·.1),k∈ks.map (·.1)∨k=r):Frm d (S++[(r,s,e)]):=fun k hk=>by
 rcases q k hk with v|rfl
 ·obtain⟨t,c,m⟩:=h k v
  exact⟨t,c,List.mem_append_left _ m⟩
 exact⟨s,e,by simp⟩
def sE (S:List RSt) (r s:Str) (c:Bool):Prop:=(r,s,c)∈S
def lv_ (S:List RSt):Prop:=∃ n,Clo (sE S) n
theorem Clo.sub {α:Type} {E F:α→α→Bool→Prop} {n:Nat} (h:∀ x y c,E x y c→F x y c):Clo E n→Clo F n:=fun⟨f,c,d,e,q,k⟩=>⟨f,c,d,e,fun m hm=>h _ _ _ (q m hm),k⟩
theorem lv_.sub {S T:List RSt} (h:∀ z∈S,z∈T):lv_ S→lv_ T:=fun⟨n,e⟩=>⟨n,e.sub fun x y c d=>h _ d⟩
theorem vZ_ {α:Type} {l:List α} (h:l.Nodup) {i j:Nat} {x:α} (hi:l[i]? = some x) (m:l[j]? = some x):i=j:=by
 have d:=(List.getElem?_eq_some_iff.1 hi).1;have e:=(List.getElem?_eq_some_iff.1 m).1;have k:=(List.getElem?_eq_some_iff.1 hi).2;have q:=(List.getElem?_eq_some_iff.1 m).2;unfold List.Nodup at h;rw[List.pairwise_iff_getElem]at h;rcases Nat.lt_trichotomy i j with g|g|g
 ·exact absurd (k.trans q.symm) (h i j d e g)
 ·exact g
 exact absurd (q.trans k.symm) (h j i e d g)
structure GrO (S:List RSt) (R:List Str) (G:List (List (Nat×Bool))):Prop where
  len:G.length=R.length
  nd:R.Nodup
  mem:∀ r,r∈R↔∃ s c,(r,s,c)∈S
  row:∀ (i:Nat) (r:Str) (l:List (Nat×Bool)),R[i]? = some r→G[i]? = some l→∀ (j:Nat) (c:Bool),(j,c)∈l↔∃ s,R[j]? = some s∧(∃ c',(r,s,c')∈S)∧c=flg S r s
theorem GrO.to {S:List RSt} {R:List Str} {G:List (List (Nat×Bool))} (h:GrO S R G):∀ (i:Nat) (l:List (Nat×Bool)),G[i]? = some l→∀ s∈l,s.1<G.length:=by
  intro i l hl s e;have d:=(List.getElem?_eq_some_iff.1 hl).1;rw[h.len]at d;obtain⟨t,k,_⟩:=(h.row i _ l (List.getElem?_eq_getElem d) hl s.1 s.2).1 e;rw[h.len];exact (List.getElem?_eq_some_iff.1 k).1
theorem GrO.circ {S:List RSt} {R:List Str} {G:List (List (Nat×Bool))} (h:GrO S R G):lv_ S↔∃ n,Clo (gE G) n:=by
 constructor
 ·rintro ⟨n,f,c,E,H,x,C,e,k⟩
  have O:∀ m,∃ j,m≤n→R[j]? = some (f m):=fun m=>by
    by_cases g:m≤n
    · by_cases P:m<n
      · obtain⟨j,I⟩:=List.getElem?_of_mem ((h.mem (f m)).2 ⟨_,_,x m P⟩)
        exact⟨j,fun _=>I⟩
      · obtain⟨j,I⟩:=List.getElem?_of_mem ((h.mem (f 0)).2 ⟨_,_,x 0 E⟩)
        exact⟨j,fun _=>by rw[show m=n by omega,H];exact I⟩
    · exact⟨0,fun q=>absurd q g⟩
  obtain⟨g,F⟩:=Classical.axiomOfChoice O;refine⟨n,g,fun m=>flg S (f m) (f (m+1)),E,?_,fun m hm=>?_,C,e,?_⟩
  ·have v:=F n (Nat.le_refl _)
   have K:=F 0 (Nat.zero_le _);rw[H]at v;exact vZ_ h.nd v K
  ·have v:=F m zr_
   have A:g m<G.length:=by rw[h.len];exact (List.getElem?_eq_some_iff.1 v).1
   exact⟨_,List.getElem?_eq_getElem A,(h.row (g m) (f m) _ v (List.getElem?_eq_getElem A) _ _).2 ⟨f (m+1),F (m+1) zr_,⟨_,x m hm⟩,rfl⟩⟩
  have:=x C e;rw[k]at this;exact oc_.2 this
 rintro ⟨n,g,c,E,H,x,C,e,k⟩
 have J:∀ m,m<n→∃ d,((R[g m]?).getD [],(R[g (m+1)]?).getD [],d)∈S∧(c m=true→d=true):=fun m hm=>by
   obtain⟨l,hl,M⟩:=x m hm;have B:g m<R.length:=by rw[← h.len];exact (List.getElem?_eq_some_iff.1 hl).1
   obtain⟨s,v,⟨N,K⟩,L⟩:=(h.row (g m) _ l (List.getElem?_eq_getElem B) hl _ _).1 M;rw[List.getElem?_eq_getElem B,v];simp only[Option.getD_some];cases hc:c m
   · exact⟨N,K,fun q=>by cases q⟩
   · rw[hc]at L
     exact⟨true,oc_.1 L.symm,fun _=>rfl⟩
 have y:∀ m,∃ d,m<n→((R[g m]?).getD [],(R[g (m+1)]?).getD [],d)∈S∧(c m=true→d=true):=fun m=>by
   by_cases g:m<n
   · obtain⟨d,y⟩:=J m g
     exact⟨d,fun _=>y⟩
   · exact⟨false,fun q=>absurd q g⟩
 obtain⟨d,y⟩:=Classical.axiomOfChoice y;exact⟨n,fun m=>(R[g m]?).getD [],d,E,by dsimp only;rw[H],fun m hm=>(y m hm).1,C,e,(y C e).2 k⟩
end Go.Vs
namespace Go.Sx
open Go
section
variable {P:Program} {N:Nat} {v0:Vw} {H0:Hp} {R:Exit→Act→World→Prop} {K:List Kt} {fr:Fr} {H F:Hp} {Γ:List Fct}
theorem cb_ {n:Nat}:∀ (K:List Kt) (e:Exit) (a:Act) (w:World),post P R K e a w→ez_ Fence.wide n P R K e a w
 | [],_,_,_,h=>h
 | .seq c::K,.normal,a,w,h=>wpIn_wide.2 (wp_mono h fun e a w d=>cb_ K e a w d)
 | .seq _::K,.exit _,a,w,h=>cb_ K _ a w h
 | .seq _::K,.goto _,a,w,h=>cb_ K _ a w h
 | .seq _::K,.ret,a,w,h=>cb_ K _ a w h
 | .seq _::K,.panic _,a,w,h=>cb_ K _ a w h
 | .seq _::K,.outgrown,a,w,h=>cb_ K _ a w h
 | .inv J::_,.normal,_,_,h=>h
 | .inv _::K,.exit _,a,w,h=>cb_ K _ a w h
 | .inv _::K,.goto _,a,w,h=>cb_ K _ a w h
 | .inv _::K,.ret,a,w,h=>cb_ K _ a w h
 | .inv _::K,.panic _,a,w,h=>cb_ K _ a w h
 | .inv _::K,.outgrown,a,w,h=>cb_ K _ a w h
 | .blk id::K,.exit id',a,w,h=>by
   simp only[ez_,post]at h ⊢
   split
   · rename_i e;rw[if_pos e]at h;exact cb_ K _ a w h
   · rename_i e;rw[if_neg e]at h;exact cb_ K _ a w h
 | .blk _::K,.normal,a,w,h=>cb_ K _ a w h
 | .blk _::K,.goto _,a,w,h=>cb_ K _ a w h
 | .blk _::K,.ret,a,w,h=>cb_ K _ a w h
 | .blk _::K,.panic _,a,w,h=>cb_ K _ a w h
 | .blk _::K,.outgrown,a,w,h=>cb_ K _ a w h
end
end Go.Sx
namespace Go.Sx
open Go
section
variable {P:Program} {N:Nf} {v0:Vw} {H0:Hp} {R:Exit→Act→World→Prop} {K:List Kt} {fr:Fr} {H F:Hp} {Γ:List Fct} {ops:Array Oper} {l:List Oper} {d:Nat} {ty:TypeId} {ps:String} {af:Array Edge} {e:TypeId} {sz n:Nat} {sv:Value} {xs:List Value} {Hr:Hp}
theorem wc_ (z:List Value) (h:0<z.length) (n:Nat):madeCells z.toArray (n*z.length)=(jv_ z n).toArray:=jK_ z h n
theorem qX_ {t:TypeId} {x y:Operand} {by':Nat} {z:Value} (I:P.underlying t=some (.slice e)) (hi:(P.info? e).map (fun i=>(i.zero,i.size,i.bytes))=some (some z,sz,by')) (k:z.cells.toList.length=sz) (J:0<sz) (C:Fr.ev fr x=some (.int .i64 (n:Int))) (E:Fr.ev fr y=some (.int .i64 (n:Int)))
    (L:by'*n≤281474976710656) (m:n≤maxLen) (G:Nat.blt d N.n=true)
    (hk:∀ sv Hr,aB_ e sz sv n (jv_ z.cells.toList n) Hr→Ops P R N v0 H0 ops l K ((d,sv)::fr) (Hr++H) Γ):Ops P R N v0 H0 ops (⟨some d,.makeSlice t x y,ty,ps,af,none⟩::l) K fr H Γ:=by
  refine gP_ (x:=fun b=>.slice (some ⟨b,0,none⟩) n n) (o:=.cells (jv_ z.cells.toList n).toArray e (0,0)) G (fun a v A _ _=>?_) (fun b=>hk _ [(b,.cells (jv_ z.cells.toList n).toArray e (0,0))] ⟨?_,.inr ⟨b,n,(jv_ z.cells.toList n).toArray,rfl,rfl,Nat.le_refl _,m,?_,?_⟩⟩)
  · cases h:P.info? e with
    | none=>rw[h]at hi;cases hi
    | some i =>
      rw[h]at hi;simp only[Option.map_some,Option.some.injEq,Prod.mk.injEq]at hi
      have q:(i.bytes:Int)*(n:Int)≤281474976710656:=by
        rw[hi.2.2];have h:((by'*n:Nat):Int)≤281474976710656:=by omega
        rwa [Int.natCast_mul]at h
      have B:=run_make (P:=P) v.w t e i z I h hi.1 .i64 .i64 (n:Int) (n:Int) zr_ (Int.le_refl _) q (by simp only[maxLen]at m;omega);have hm:=wc_ z.cells.toList zr_ n;rw[k,Array.toArray_toList]at hm;rw[hi.2.1,Int.toNat_natCast,hm]at B;simp only[execOp,A.ev C,A.ev E];simp[B]
  · rw[iu_,k]
  · simp only[List.size_toArray];rw[iu_,k]
  · rw[List.toList_toArray,List.take_of_length_le (by rw[iu_,k];exact Nat.le_refl _)]
theorem qm_ {α:Type} (f:α→List Value) (z:α):∀ n,jv_ (f z) n=(List.replicate n z).flatMap f
  | 0=>rfl
  | n+1=>by rw[jv_,List.replicate_succ,List.flatMap_cons,qm_ f z n]
end
end Go.Sx
namespace Go.Vs
open Go Go.Sx
def Ky.cells (k:Ky):List Value:=[.int .i64 k.kind,str k.role,str k.atom]
def Ky.val (k:Ky):Value:=.agg k.cells.toArray
def qD_ (s:jY_):List Value:=[str s.1,str s.2]
def ib_ (s:jY_):Value:=.agg (qD_ s).toArray
def Ky.eqb (p q:Ky):Bool:=(p.kind==q.kind)&&((p.role==q.role)&&((p.atom==q.atom)&&true))
theorem Ky.eqb_eq (p q:Ky):p.eqb q=decide (p=q):=by
  rw[Bool.eq_iff_iff];cases p;cases q;simp[Ky.eqb]
def ze_ (p q:jY_):Bool:=(p.1==q.1)&&((p.2==q.2)&&true)
theorem vu_ (p q:jY_):ze_ p q=decide (p=q):=by
  rw[Bool.eq_iff_iff];cases p;cases q;simp[ze_]
theorem Fc.cells_one (p:Fc):p.cells.all Value.oneCell'=true:=rfl
end Go.Vs
namespace Go.Sx
open Go Go.Vs
structure Emt (P:Program) (tF:TypeId) where
  stp:Fc→List Fc→List Fc
  kof:List Fc→List Fc
  St:List Fc→List Fc→Hp→Prop
  fn:FuncId
  caps:List Value
  ef:Fct
  kb:Nat
  fb:Nat
  grows:Grows stp kof
  emit:∀ f nw fm H,St nw fm H→Tri P fn (f.val::caps).toArray H [ef] (fun _:{H':Hp // St (stp f nw) fm H'}=>.tuple #[]) (fun y=>y.1) (fun _=>[])
  known:∀ {nw fm H},St nw fm H→∃ es c,(kb,Obj.map es c)∈H∧SetE Fc.val es (kof nw)
  firm:∀ {nw fm H},St nw fm H→∃ es c q,(fb,Obj.map es c)∈H∧SetE Fc.val es q∧∀ f,f∈q↔f∈fm
  setf:∀ {nw fm H} (f:Fc),St nw fm H→∃ es c q Hr,H.Perm ((fb,Obj.map es c)::Hr)∧SetE Fc.val es q∧(∀ f,f∈q↔f∈fm)∧∀ es' c',SetE Fc.val es' (if f∈q then q else q++[f])→∃ H',St nw (f::fm) H'∧H'.Perm ((fb,Obj.map es' c')::Hr)
section
variable {P:Program} {N:Nf} {v0:Vw} {H0:Hp} {R:Exit→Act→World→Prop} {K:List Kt} {fr:Fr} {H:Hp} {Γ:List Fct}
variable {ops:Array Oper} {l:List Oper} {d:Nat} {ty:TypeId} {ps:String} {af:Array Edge} {tF:TypeId} {E:Emt P tF} {nw fm:List Fc} {Hs F:Hp}
theorem nB_ {b:Nat} {o:Obj} {v:Vw} (e:H.Perm (Hs++F)) (hm:(b,o)∈Hs) (h:v.sat H):v.w.heap[b]? = some o:=(h.own _ (e.mem_iff.2 (List.mem_append_left _ hm))).1
theorem jc_ {t e:TypeId} {x y:Operand} {f:Fc} (hS:E.St nw fm Hs) (B:KeyT P tF Fc.val) (m:∀ w,(underlying t).run P w=.ok (.map tF e) w) (q:∀ w,(zeroValue e).run P w=.ok (.bool false) w) (A:Fr.ev fr x=some (.map (some E.kb))) (G:Fr.ev fr y=some f.val) (C:H.Perm (Hs++F)) :
    Yld P N fr H Γ (.lookup t x y false) ty (.bool (decide (f∈E.kof nw))):=by
  obtain⟨es,c,I,k⟩:=E.known hS;exact bJ_ B m q A G k fun v h _=>nB_ C I h
theorem qs_ {t k:TypeId} {x y:Operand} {f:Fc} (hS:E.St nw fm Hs) (I:KeyT P tF Fc.val) (B:∀ w,(underlying t).run P w=.ok (.map tF k) w) (C:∀ w,(zeroValue k).run P w=.ok (.bool false) w) (G:Fr.ev fr x=some (.map (some E.fb))) (L:Fr.ev fr y=some f.val) (J:H.Perm (Hs++F)) :
    Yld P N fr H Γ (.lookup t x y false) ty (.bool (decide (f∈fm))):=by
  obtain⟨es,c,q,M,m,A⟩:=E.firm hS;have:=bJ_ (P:=P) (N:=N) (H:=H) (Γ:=Γ) (ty:=ty) I B C G L m fun v h _=>nB_ J M h
  have e:decide (f∈q)=decide (f∈fm):=by rw[decide_eq_decide];exact A f
  rw[← e];exact this
theorem vU_ {o:Op} {t S:TypeId} {x y z:Operand} {f:Fc} (hS:E.St nw fm Hs) (L:KeyT P tF Fc.val) (m:o=.insert t x y z∨o=.mapUpdate t x y z) (v:∀ w,(underlying t).run P w=.ok (.map tF S) w)
    (G:Fr.ev fr x=some (.map (some E.fb))) (O:Fr.ev fr y=some f.val) (C:Fr.ev fr z=some (.bool true)) (M:H.Perm (Hs++F))
    (hk:∀ Hs',E.St nw (f::fm) Hs'→Ops P R N v0 H0 ops l K fr (Hs'++F) Γ):Ops P R N v0 H0 ops (⟨none,o,ty,ps,af,none⟩::l) K fr H Γ:=by
  obtain⟨es,c,q,Hr,J,Q,T,B⟩:=E.setf f hS;refine u_ (H':=(E.fb,.map es c)::(Hr++F)) (M.trans (by have:=J.append_right F;simpa using this)) ?_;refine nF_ 0 L m v G O C rfl Q fun e I h=>?_;obtain⟨H',A,k⟩:=B e I h;simp only[List.set_cons_zero];exact u_ (by have:=(k.append_right F).symm;simpa using this) (hk H' A)
end
structure EngB where
  g:Nat
  pb:Nat
  ab:Nat
  ub:Nat
  ob:Nat
  ib:Nat
  rb:Nat
  sb:Nat
  lad:Option Addr
  lcap:Nat
  lps:List Str
structure EngA where
  p:Ky→Option Addr×Nat
  a:Str→Option Addr×Nat
  u:Str→Option Addr×Nat
  o:jY_→Option Addr×Nat
  i:jY_→Option Addr×Nat
  r:jY_→Option Addr×Nat
  s:jY_→Option Addr×Nat
def EngB.cells (B:EngB) {P:Program} {tF:TypeId} (E:Emt P tF):List Value :=
  [.map (some B.pb),.slice B.lad B.lps.length B.lcap,.map (some E.kb),.func (.func E.fn) #[] E.caps.toArray,.map (some B.ab),.map (some B.ub),.map (some B.ob),.map (some B.ib),.map (some B.rb),.map (some B.sb),.map (some E.fb)]
structure IxH where
  a:Hp
  u:Hp
  o:Hp
  i:Hp
  r:Hp
  s:Hp
def IxO (tS tF:TypeId) (B:EngB) (x:Ix) (y:IxH):Prop :=
  dl_ str ap_ tS 1 x.above B.ab y.a∧dl_ str ap_ tS 1 x.under B.ub y.u∧dl_ ib_ ap_ tS 1 x.frm B.ob y.o∧dl_ ib_ ap_ tS 1 x.into B.ib y.i∧dl_ ib_ Fc.cells tF 6 x.ranges B.rb y.r∧dl_ ib_ Fc.cells tF 6 x.firms B.sb y.s
end Go.Sx
