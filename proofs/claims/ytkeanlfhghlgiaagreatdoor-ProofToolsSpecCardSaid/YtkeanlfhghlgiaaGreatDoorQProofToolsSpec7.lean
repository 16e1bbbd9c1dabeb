/-
  Part of the proof of the law ProofToolsSpec over this seat: the small logic, the data, the contracts of functions (no condition).
-/
import Derived.Test.YtkeanlfhghlgiaaGreatDoorQProofToolsSpec6
import Derived.Test.YtkeanlfhghlgiaaGreatDoorQProofToolsSpec3
import Derived.Test.YtkeanlfhghlgiaaGreatDoorQProofToolsSpec4
import Derived.Test.YtkeanlfhghlgiaaGreatDoorQProofToolsSpec2
set_option linter.unusedVariables false
set_option linter.unusedSimpArgs false
set_option linter.unusedSectionVars false
set_option maxHeartbeats 1000000
namespace Go.Vs
open Go Go.Sx
def bd_ (l:List Stp) (s:Stp):Nat:=(fcs l).idxOf s.fact
def fsL (l:List Stp):List Int:=l.map fun s=>(bd_ l s:Int)
def hF (l:List Stp) (q:Int):Int:=(fsL l).getD q.toNat 0
theorem gM_ (l:List Stp):(fsL l).length=l.length:=by simp[fsL]
theorem jH_ {l:List Stp} {i:Nat} {s:Stp} (h:l[i]? = some s):(fsL l)[i]? = some (bd_ l s:Int):=by simp[fsL,h]
theorem gL_ {l:List Stp} {i:Nat} {s:Stp} (h:l[i]? = some s):bd_ l s≤i:=by
 have h1:(fcs l)[i]? = some s.fact:=by simp[fcs,h]
 obtain⟨hi,he⟩:=List.getElem?_eq_some_iff.1 h1
 unfold bd_
 by_cases hc:(fcs l).idxOf s.fact≤i
 ·exact hc
 have:=List.not_of_lt_findIdx (p:=(·==s.fact)) (xs:=fcs l) (i:=i) (by unfold List.idxOf at hc;omega)
 simp[he]at this
theorem sk_ {l:List Stp} {s:Stp} (h:s∈l):(fcs l)[bd_ l s]? = some s.fact:=by
  have hm:s.fact∈fcs l:=List.mem_map_of_mem h
  have hlt:=List.idxOf_lt_length_iff.2 hm
  unfold bd_
  rw[List.getElem?_eq_getElem hlt,List.getElem_idxOf]
theorem hI_ {l:List Stp} {s:Stp} (h:s∈l):bd_ l s<l.length:=by
  rw[← iH_];exact List.idxOf_lt_length_iff.2 (List.mem_map_of_mem h)
theorem kD_ {l:List Stp} {q:Int} {s:Stp} (h:l[q.toNat]? = some s):hF l q=(bd_ l s:Int):=by
  unfold hF;rw[List.getD_eq_getElem?_getD,jH_ h];rfl
def fsI (l:List Stp) (i:Nat):List Int:=(fsL l).take i++List.replicate (l.length - i) 0
theorem sl_ (l:List Stp):fsI l 0=List.replicate l.length 0:=by simp[fsI]
theorem jI_ (l:List Stp) {i:Nat} (h:i≤l.length):(fsI l i).length=l.length:=by simp[fsI,gM_];omega
theorem tC_ (l:List Stp) {i:Nat} (h:l.length≤i):fsI l i=fsL l:=by
  unfold fsI;rw[List.take_of_length_le (by rw[gM_];exact h),show l.length - i=0 by omega];simp
theorem jJ_ {l:List Stp} {i j:Nat} (h:j<i) (hi:i≤l.length):(fsI l i)[j]? = (fsL l)[j]? := by
  unfold fsI
  rw[List.getElem?_append_left (by rw[List.length_take,gM_];omega),List.getElem?_take_of_lt h]
theorem tB_ {l:List Stp} {i:Nat} {s:Stp} (h:l[i]? = some s):(fsI l i).set i (bd_ l s:Int)=fsI l (i+1):=by
 have hi:=(List.getElem?_eq_some_iff.1 h).1
 apply List.ext_getElem?
 intro j
 rw[List.getElem?_set,jI_ l (by omega)]
 by_cases hj:i=j
 ·subst hj
  rw[if_pos rfl,if_pos hi,jJ_ (by omega) (by omega),jH_ h]
 rw[if_neg hj]
 by_cases h2:j<i
 ·rw[jJ_ h2 (by omega),jJ_ (by omega) (by omega)]
 unfold fsI
 rw[List.getElem?_append_right (by rw[List.length_take,gM_];omega),List.getElem?_append_right (by rw[List.length_take,gM_];omega),List.length_take,List.length_take,gM_,Nat.min_eq_left (by omega),Nat.min_eq_left (by omega),List.getElem?_replicate,List.getElem?_replicate]
 by_cases h3:j<l.length
 ·rw[if_pos (by omega),if_pos (by omega)]
 rw[if_neg (by omega),if_neg (by omega)]
structure KnI (l:List Stp) (i:Nat) (ks:List Fc) (vs:List Int):Prop where
  mem:∀ f,f∈ks↔f∈fcs (l.take i)
  val:∀ (q:Nat) k v,ks[q]? = some k→vs[q]? = some v→v=((fcs l).idxOf k:Int)
  len:ks.length≤i
theorem KnI.nil (l:List Stp):KnI l 0 [] []:=⟨by simp[fcs],by simp,by simp⟩
theorem lJ_ {l:List Stp} {i:Nat} {s:Stp} (h:l[i]? = some s) (hn:s.fact ∉ fcs (l.take i)):bd_ l s=i:=by
 have h1:=gL_ h
 by_cases he:bd_ l s=i
 ·exact he
 exfalso
 have hm:=List.mem_of_getElem? h
 have h2:=sk_ hm
 apply hn
 have:(fcs (l.take i))[bd_ l s]? = some s.fact:=by
   unfold fcs at h2 ⊢
   rw[List.map_take,List.getElem?_take_of_lt (by omega)];exact h2
 exact List.mem_of_getElem? this
theorem hQ_ {l:List Stp} {i:Nat} {s:Stp} (h:l[i]? = some s):fcs (l.take (i+1))=fcs (l.take i)++[s.fact]:=by
  rw[List.take_add_one,h,Option.toList_some,cA_];rfl
theorem KnI.new {l:List Stp} {i:Nat} {ks:List Fc} {vs:List Int} {s:Stp} (h:KnI l i ks vs) (hl:vs.length=ks.length) (hs:l[i]? = some s) (hn:s.fact ∉ ks):KnI l (i+1) (ks++[s.fact]) (vs++[(i:Int)])∧(i:Int)=(bd_ l s:Int):=by
 have hi:=lJ_ hs (fun q=>hn ((h.mem _).2 q))
 refine⟨⟨fun f=>?_,fun q k v hk hv=>?_,by have:=h.len;simp;omega⟩,by rw[hi]⟩
 ·rw[hQ_ hs,List.mem_append,List.mem_append,h.mem]
 by_cases hq:q<ks.length
 ·rw[List.getElem?_append_left hq]at hk
  rw[List.getElem?_append_left (by omega)]at hv
  exact h.val q k v hk hv
 have e:q=ks.length:=by have:=(List.getElem?_eq_some_iff.1 hk).1;simp at this;omega
 subst e
 rw[List.getElem?_append_right (by omega)]at hk
 rw[List.getElem?_append_right (by omega),hl]at hv
 simp at hk hv
 rw[← hv,← hk]
 show _=(bd_ l s:Int)
 rw[hi]
theorem KnI.old {l:List Stp} {i:Nat} {ks:List Fc} {vs:List Int} {s:Stp} {m:Int} (h:KnI l i ks vs) (hs:l[i]? = some s) (hn:s.fact∈ks) (hm:∃ q:Nat,ks[q]? = some s.fact∧vs[q]? = some m):KnI l (i+1) ks vs∧m=(bd_ l s:Int):=by
 obtain⟨q,h1,h2⟩:=hm
 refine⟨⟨fun f=>?_,h.val,by have:=h.len;omega⟩,h.val q _ _ h1 h2⟩
 rw[hQ_ hs,List.mem_append,h.mem]
 constructor
 ·exact .inl
 rintro (q|q)
 ·exact q
 rw[List.mem_singleton]at q;rw[q];exact (h.mem _).1 hn
structure TsI (l ts:List Stp) (i:Nat):Prop where
  len:ts.length=l.length
  done:∀ (j:Nat) s t,j<i→l[j]? = some s→ts[j]? = some t→t.rule=s.rule∧t.fact=s.fact∧t.piece=s.piece∧t.frm=s.frm.map (hF l)
  rest:∀ (j:Nat) t,i≤j→ts[j]? = some t→t.ad=none∧t.cap=0∧t.frm=[]
theorem TsI.zero (l:List Stp):TsI l (List.replicate l.length Stp.zero) 0:=by
 refine⟨by simp,fun j s t hj=>by omega,fun j t _ ht=>?_⟩
 rw[List.getElem?_replicate]at ht
 split at ht
 ·cases ht;exact⟨rfl,rfl,rfl⟩
 cases ht
theorem TsI.step {l ts:List Stp} {i:Nat} {s t:Stp} (h:TsI l ts i) (hs:l[i]? = some s) (ht:t.rule=s.rule∧t.fact=s.fact∧t.piece=s.piece∧t.frm=s.frm.map (hF l)):TsI l (ts.set i t) (i+1):=by
 have hi:=(List.getElem?_eq_some_iff.1 hs).1
 refine⟨by rw[List.length_set];exact h.len,fun j s' t' hj hs' ht'=>?_,fun j t' hj ht'=>?_⟩
 ·rw[List.getElem?_set]at ht'
  by_cases e:i=j
  ·subst e
   rw[if_pos rfl,if_pos (by rw[h.len];exact hi)]at ht'
   rw[hs]at hs';cases hs';cases ht';exact ht
  rw[if_neg e]at ht'
  exact h.done j s' t' (by omega) hs' ht'
 rw[List.getElem?_set,if_neg (by omega)]at ht'
 exact h.rest j t' (by omega) ht'
end Go.Vs
namespace Go.Vs
open Go Go.Sx
theorem rv_ {T:TypeId} {ts:List Stp} {HO HR:Hp} {i:Nat} {t s:Stp} (ho:jz_ T ts HO) (hi:ts[i]? = some t) (ht:t.ad=none∧t.cap=0∧t.frm=[]) (hR:oH_ T s HR):∃ H',jz_ T (ts.set i s) H'∧(HR++HO).Perm H':=by
 obtain⟨Hs,Hr,p1,p2,p3⟩:=ho.get hi
 obtain⟨H',q1,q2⟩:=p3 s HR hR
 have e:Hs=[]:=by
   rcases p2.2 with⟨_,_,h⟩|⟨g,cap,cur,h,_⟩
   · exact h
   · rw[ht.1]at h;simp at h
 subst e
 exact⟨H',q1,(List.Perm.append_left HR (by simpa using p1)).trans q2.symm⟩
theorem fsI_hF {l:List Stp} {i:Nat} {q:Int} (h:q.toNat<i) (hi:i≤l.length):(fsI l i)[q.toNat]? = some (hF l q):=by
  rw[jJ_ h hi]
  have:l[q.toNat]? = some l[q.toNat]:=List.getElem?_eq_getElem (by omega)
  rw[kD_ this,jH_ this]
end Go.Vs
namespace Go.Vs
open Go Go.Sx
inductive Nd (us:List Stp):Nat→Prop
  | last {n:Nat} (h:us.length=n+1):Nd us n
  | step {m n:Nat} {s:Stp} (hm:Nd us m) (hs:us[m]? = some s) (hq:(n:Int)∈s.frm):Nd us n
structure NdL (us:List Stp) (L:List Int):Prop where
  dec:L.Pairwise (·>·)
  nat:∀ x∈L,∃ n:Nat,x=n∧Nd us n
  all:∀ n:Nat,Nd us n→(n:Int)∈L
structure MkI (us:List Stp) (bs:List Bool) (k:Nat) (L:List Int):Prop where
  len:bs.length=us.length
  dec:L.Pairwise (·>·)
  nat:∀ x∈L,∃ n:Nat,x=n∧k≤n∧Nd us n
  all:∀ n:Nat,k≤n→Nd us n→(n:Int)∈L
  mrk:∀ j,j<k→(bs[j]? = some true↔us.length=j+1∨∃ m,k≤m∧Nd us m∧∃ s,us[m]? = some s∧(j:Int)∈s.frm)
section
variable {us:List Stp} {bs bs':List Bool} {n:Nat} {L:List Int} {s:Stp}
theorem MkI.nd (h:MkI us bs (n+1) L) (hord:∀ (i:Nat) s,us[i]? = some s→∀ q∈s.frm,0≤q∧q<(i:Int)):bs[n]? = some true↔Nd us n:=by
 rw[h.mrk n (by omega)]
 constructor
 ·rintro (h1|⟨m,_,h1,s,h2,h3⟩)
  ·exact .last h1
  exact .step h1 h2 h3
 rintro (h1|⟨h1,h2,h3⟩)
 ·exact .inl h1
 refine .inr ⟨_,?_,h1,_,h2,h3⟩
 have:=(hord _ _ h2 _ h3).2;omega
theorem MkI.miss (h:MkI us bs (n+1) L) (hord:∀ (i:Nat) s,us[i]? = some s→∀ q∈s.frm,0≤q∧q<(i:Int)) (hn:bs[n]? = some false):MkI us bs n L:=by
 have hnd:¬ Nd us n:=fun q=>by rw[← h.nd hord,hn]at q;cases q
 refine⟨h.len,h.dec,fun x hx=>?_,fun m hm hd=>?_,fun j hj=>?_⟩
 ·obtain⟨m,e,h1,h2⟩:=h.nat x hx;exact⟨m,e,by omega,h2⟩
 ·by_cases e:m=n
  ·subst e;exact absurd hd hnd
  exact h.all m (by omega) hd
 rw[h.mrk j (by omega)]
 refine or_congr_right ⟨fun⟨m,h1,h2⟩=>⟨m,by omega,h2⟩,fun⟨m,h1,h2⟩=>⟨m,?_,h2⟩⟩
 by_cases e:m=n
 ·subst e;exact absurd h2.1 hnd
 omega
theorem MkI.hit (h:MkI us bs (n+1) L) (hord:∀ (i:Nat) s,us[i]? = some s→∀ q∈s.frm,0≤q∧q<(i:Int)) (hn:bs[n]? = some true) (hs:us[n]? = some s) (hl:bs'.length=bs.length) (hb:∀ q:Nat,bs'[q]? = some true↔bs[q]? = some true∨(q:Int)∈s.frm):MkI us bs' n (L++[(n:Int)]):=by
 have hnd:Nd us n:=(h.nd hord).1 hn
 refine⟨hl.trans h.len,?_,fun x hx=>?_,fun m hm hd=>?_,fun j hj=>?_⟩
 ·rw[List.pairwise_append]
  refine⟨h.dec,by simp,fun x hx y hy=>?_⟩
  rw[List.mem_singleton]at hy;subst hy
  obtain⟨m,e,h1,_⟩:=h.nat x hx;omega
 ·rcases List.mem_append.1 hx with hx|hx
  ·obtain⟨m,e,h1,h2⟩:=h.nat x hx;exact⟨m,e,by omega,h2⟩
  rw[List.mem_singleton]at hx;exact⟨n,hx,Nat.le_refl _,hnd⟩
 ·by_cases e:m=n
  ·subst e;simp
  exact List.mem_append_left _ (h.all m (by omega) hd)
 rw[hb j,h.mrk j (by omega),or_assoc]
 refine or_congr_right ⟨?_,?_⟩
 ·rintro (⟨m,h1,h2⟩|h1)
  ·exact⟨m,by omega,h2⟩
  exact⟨n,Nat.le_refl _,hnd,s,hs,h1⟩
 rintro ⟨m,h1,h2,t,h3,h4⟩
 by_cases e:m=n
 ·subst e;rw[hs]at h3;cases h3;exact .inr h4
 exact .inl ⟨m,by omega,h2,t,h3,h4⟩
theorem lD_ (hord:∀ (i:Nat) s,us[i]? = some s→∀ q∈s.frm,0≤q∧q<(i:Int)) {n:Nat} (h:Nd us n):n<us.length:=by
  induction h with
  | last h=>omega
  | step hm hs hq ih=>have:=(hord _ _ hs _ hq).2;omega
theorem MkI.start (hord:∀ (i:Nat) s,us[i]? = some s→∀ q∈s.frm,0≤q∧q<(i:Int)) (hne:us≠[]):MkI us ((List.replicate us.length false).set (us.length - 1) true) us.length []:=by
 have hl:=List.length_pos_iff.2 hne
 refine⟨by simp,by simp,by simp,fun n hn hd=>?_,fun j hj=>?_⟩
 ·have:=lD_ hord hd;omega
 rw[List.getElem?_set]
 by_cases e:us.length - 1=j
 ·rw[if_pos e,if_pos (by simp;omega)]
  exact⟨fun _=>.inl (by omega),fun _=>rfl⟩
 rw[if_neg e,List.getElem?_replicate,if_pos hj]
 constructor
 ·intro q;cases q
 rintro (q|⟨m,h1,h2,_⟩)
 ·omega
 have:=lD_ hord h2;omega
theorem MkI.done (h:MkI us bs 0 L):NdL us L:=⟨h.dec,fun x hx=>by obtain⟨n,e,_,h1⟩:=h.nat x hx;exact⟨n,e,h1⟩,fun n hn=>h.all n (Nat.zero_le _) hn⟩
theorem MkI.llen (h:MkI us bs n L) (hord:∀ (i:Nat) s,us[i]? = some s→∀ q∈s.frm,0≤q∧q<(i:Int)):L.length≤us.length:=by
  have h1:L.Nodup:=h.dec.imp fun hab=>by omega
  have h2:∀ x∈L,x∈(List.range us.length).map Int.ofNat:=fun x hx=>by
    obtain⟨m,e,_,hd⟩:=h.nat x hx
    exact List.mem_map.2 ⟨m,List.mem_range.2 (lD_ hord hd),e.symm⟩
  have:=eT_ h1 h2
  simpa using this
theorem or_ {cs:List Bool} {fr:List Int} {j:Nat} {x:Int} (hb:∀ q:Nat,cs[q]? = some true↔bs[q]? = some true∨(q:Int)∈fr.take j) (hx:fr[j]? = some x) (h0:0≤x) (hlt:x.toNat<cs.length):∀ q:Nat,(cs.set x.toNat true)[q]? = some true↔bs[q]? = some true∨(q:Int)∈fr.take (j+1):=fun q=>by
 rw[List.take_add_one,hx,Option.toList_some,List.mem_append,List.mem_singleton,List.getElem?_set]
 by_cases e:x.toNat=q
 ·rw[if_pos e,if_pos hlt]
  exact⟨fun _=>.inr (.inr (by omega)),fun _=>rfl⟩
 rw[if_neg e,hb q]
 constructor
 ·rintro (h|h)
  ·exact .inl h
  exact .inr (.inl h)
 rintro (h|h|h)
 ·exact .inl h
 ·exact .inr h
 omega
end
def eC_ (b:Bool):List Value:=[.bool b]
theorem eL_ (b:Bool):(eC_ b).length=1:=rfl
structure RevI (L M:List Int) (k:Nat):Prop where
  len:M.length=L.length
  k2:2*k≤L.length+1
  get:∀ i:Nat,i<L.length→M[i]? = if i<k∨L.length≤i+k then L[L.length - 1 - i]? else L[i]?
theorem RevI.zero (L:List Int):RevI L L 0:=⟨rfl,by omega,fun i hi=>by rw[if_neg (by omega)]⟩
theorem RevI.step {L M:List Int} {k:Nat} {a b:Int} (h:RevI L M k) (hk:(k:Int)<(L.length:Int) - 1 - (k:Int)) (ha:M[L.length - 1 - k]? = some a) (hb:M[k]? = some b):RevI L ((M.set k a).set (L.length - 1 - k) b) (k+1):=by
 have hl:=h.len
 refine⟨by simp[hl],by omega,fun i hi=>?_⟩
 have ga:=h.get (L.length - 1 - k) (by omega)
 have gb:=h.get k (by omega)
 rw[if_neg (by omega)]at ga gb
 rw[List.getElem?_set,List.getElem?_set,List.length_set]
 by_cases e1:L.length - 1 - k=i
 ·rw[if_pos e1,if_pos (by omega),if_pos (by omega)]
  rw[← hb,gb];congr 1;omega
 rw[if_neg e1]
 by_cases e2:k=i
 ·rw[if_pos e2,if_pos (by omega),if_pos (by omega),← ha,ga,e2]
 rw[if_neg e2,h.get i hi]
 by_cases e3:i<k∨L.length≤i+k
 ·rw[if_pos e3,if_pos (by omega)]
 rw[if_neg e3,if_neg (by omega)]
theorem RevI.done {L M:List Int} {k:Nat} (h:RevI L M k) (hk:¬ (k:Int)<(L.length:Int) - 1 - (k:Int)):M=L.reverse:=by
 apply List.ext_getElem?
 intro i
 by_cases hi:i<L.length
 ·rw[h.get i hi,List.getElem?_reverse hi]
  by_cases e:i<k∨L.length≤i+k
  ·rw[if_pos e]
  rw[if_neg e];congr 1;omega
 rw[List.getElem?_eq_none (by rw[h.len];omega),List.getElem?_eq_none (by simp;omega)]
end Go.Vs
namespace Go.Vs
open Go Go.Sx
theorem TsI.ord {l ts:List Stp} (h:TsI l ts l.length) (hord:∀ (i:Nat) s,l[i]? = some s→∀ q∈s.frm,0≤q∧q<(i:Int)):∀ (i:Nat) t,ts[i]? = some t→∀ q∈t.frm,0≤q∧q<(i:Int):=fun i t ht q hq=>by
  have hi:i<l.length:=by rw[← h.len];exact (List.getElem?_eq_some_iff.1 ht).1
  have hs:l[i]? = some l[i]:=List.getElem?_eq_getElem hi
  rw[(h.done i _ t hi hs ht).2.2.2]at hq
  obtain⟨r,hr,rfl⟩:=List.mem_map.1 hq
  obtain⟨h0,h1⟩:=hord i _ hs r hr
  have hr2:l[r.toNat]? = some (l[r.toNat]'(by omega)):=List.getElem?_eq_getElem (by omega)
  rw[kD_ hr2]
  have:=gL_ hr2
  omega
theorem TsI.fl {l ts:List Stp} {n:Nat} (h:TsI l ts l.length) (hfl:∀ s∈l,s.frm.length≤n):∀ t∈ts,t.frm.length≤n:=fun t ht=>by
  obtain⟨i,hi⟩:=List.getElem?_of_mem ht
  have hil:i<l.length:=by rw[← h.len];exact (List.getElem?_eq_some_iff.1 hi).1
  have hs:l[i]? = some l[i]:=List.getElem?_eq_getElem hil
  rw[(h.done i _ t hil hs hi).2.2.2,List.length_map]
  exact hfl _ (List.getElem_mem hil)
end Go.Vs
namespace Go.Vs
open Go Go.Sx
def pix (O:List Int) (q:Int):Int:=(O.idxOf q:Int)
def eI_ (O fr:List Int) (j:Nat):List Int:=(fr.take j).map (pix O)++fr.drop j
theorem pY_ (O fr:List Int):eI_ O fr 0=fr:=by simp[eI_]
theorem gk_ (O fr:List Int) (j:Nat):(eI_ O fr j).length=fr.length:=by simp[eI_];omega
theorem rQ_ (O fr:List Int) {j:Nat} (h:fr.length≤j):eI_ O fr j=fr.map (pix O):=by
  unfold eI_;rw[List.take_of_length_le h,List.drop_of_length_le h,List.append_nil]
theorem rP_ {O fr:List Int} {j:Nat} {x:Int} (h:fr[j]? = some x):(eI_ O fr j)[j]? = some x:=by
  have hj:=(List.getElem?_eq_some_iff.1 h).1
  unfold eI_
  rw[List.getElem?_append_right (by simp;omega)]
  simp only[List.length_map,List.length_take,Nat.min_eq_left (Nat.le_of_lt hj),Nat.sub_self,List.getElem?_drop,Nat.add_zero];exact h
theorem rO_ {O fr:List Int} {j:Nat} {x:Int} (h:fr[j]? = some x):(eI_ O fr j).set j (pix O x)=eI_ O fr (j+1):=by
 have hj:=(List.getElem?_eq_some_iff.1 h).1
 apply List.ext_getElem?
 intro i
 rw[List.getElem?_set,gk_]
 by_cases e:j=i
 ·subst e
  rw[if_pos rfl,if_pos hj]
  unfold eI_
  rw[List.getElem?_append_left (by simp;omega),List.getElem?_map,List.getElem?_take_of_lt (by omega),h];rfl
 rw[if_neg e]
 unfold eI_
 by_cases h2:i<j
 ·rw[List.getElem?_append_left (by simp;omega),List.getElem?_append_left (by simp;omega),List.getElem?_map,List.getElem?_map,List.getElem?_take_of_lt h2,List.getElem?_take_of_lt (by omega)]
 rw[List.getElem?_append_right (by simp;omega),List.getElem?_append_right (by simp;omega),List.getElem?_drop,List.getElem?_drop]
 congr 1
 simp only[List.length_map,List.length_take];omega
structure PlI (ts:List Stp) (O:List Int) (k:Nat) (pl:List Int) (tk Y:List Stp):Prop where
  pln:pl.length=ts.length
  plc:∀ (j:Nat) q,j<k→O[j]? = some q→pl[q.toNat]? = some (j:Int)
  tl:tk.length=ts.length
  tkk:∀ (i:Nat) t t',ts[i]? = some t→tk[i]? = some t'→t'.rule=t.rule∧t'.fact=t.fact∧t'.piece=t.piece∧t'.ad=t.ad∧t'.cap=t.cap∧t'.frm=if (i:Int)∈O.take k then t.frm.map (pix O) else t.frm
  yl:Y.length=k
  yy:∀ (j:Nat) q,j<k→O[j]? = some q→Y[j]? = tk[q.toNat]?
theorem PlI.zero (ts:List Stp) (O:List Int):PlI ts O 0 (List.replicate ts.length 0) ts []:=by
  refine⟨by simp,fun j q hj=>by omega,rfl,fun i t t' h h'=>?_,rfl,fun j q hj=>by omega⟩
  rw[h]at h';cases h';simp
section
variable {ts tk Y:List Stp} {O pl:List Int} {k n:Nat} {t:Stp}
theorem ie_ {O:List Int} (h:O.Pairwise (·<·)):O.Nodup:=h.imp fun hab=>by omega
theorem sf_ {O:List Int} (h:O.Pairwise (·<·)) {k:Nat} {x:Int} (hk:O[k]? = some x):x ∉ O.take k:=fun hm=>by
  obtain⟨j,hj⟩:=List.getElem?_of_mem hm
  have hjk:=(List.getElem?_eq_some_iff.1 hj).1
  simp at hjk
  rw[List.getElem?_take_of_lt (by omega)]at hj
  have:=(List.getElem?_inj (List.getElem?_eq_some_iff.1 hj).1 (ie_ h)).1 (hj.trans hk.symm)
  omega
theorem PlI.at (h:PlI ts O k pl tk Y) (hO:O.Pairwise (·<·)) (hk:O[k]? = some (n:Int)) (ht:ts[n]? = some t):tk[n]? = some t:=by
  have hn:n<tk.length:=by rw[h.tl];exact (List.getElem?_eq_some_iff.1 ht).1
  have h1:tk[n]? = some tk[n]:=List.getElem?_eq_getElem hn
  obtain⟨e1,e2,e3,e4,e5,e6⟩:=h.tkk n t _ ht h1
  rw[if_neg (sf_ hO hk)]at e6
  rw[h1]
  generalize tk[n]=u at *
  cases u;cases t;simp_all
theorem PlI.place (h:PlI ts O k pl tk Y) (hO:O.Pairwise (·<·)) (hk:O[k]? = some (n:Int)) (hnl:n<ts.length) {m:Int} (hm:m∈O) (h0:0≤m) (hmn:m<n):(pl.set n (k:Int))[m.toNat]? = some (pix O m):=by
 rw[List.getElem?_set_ne (by omega)]
 have hi:=List.idxOf_lt_length_iff.2 hm
 have hg:O[O.idxOf m]? = some m:=by rw[List.getElem?_eq_getElem hi,List.getElem_idxOf]
 refine h.plc _ m ?_ hg
 by_cases hc:O.idxOf m<k
 ·exact hc
 exfalso
 have hkl:=(List.getElem?_eq_some_iff.1 hk).1
 by_cases e:O.idxOf m=k
 ·rw[e,hk]at hg;cases hg;omega
 have:=List.pairwise_iff_getElem.1 hO k (O.idxOf m) hkl hi (by omega)
 rw[List.getElem?_eq_getElem hkl]at hk
 rw[List.getElem?_eq_getElem hi]at hg
 simp only[Option.some.injEq]at hk hg
 omega
theorem PlI.step (h:PlI ts O k pl tk Y) (hO:O.Pairwise (·<·)) (hO0:∀ x∈O,0≤x) (hk:O[k]? = some (n:Int)) (ht:ts[n]? = some t):PlI ts O (k+1) (pl.set n (k:Int)) (tk.set n ⟨t.rule,t.fact,t.piece,t.ad,t.cap,t.frm.map (pix O)⟩) (Y++[⟨t.rule,t.fact,t.piece,t.ad,t.cap,t.frm.map (pix O)⟩]):=by
 have hnl:=(List.getElem?_eq_some_iff.1 ht).1
 have hkl:=(List.getElem?_eq_some_iff.1 hk).1
 have hot:O.take (k+1)=O.take k++[(n:Int)]:=by rw[List.take_add_one,hk];rfl
 have hne:∀ (j:Nat) q,j<k→O[j]? = some q→q≠(n:Int):=fun j q hj hq e=>by
   subst e
   have:=(List.getElem?_inj (List.getElem?_eq_some_iff.1 hq).1 (ie_ hO)).1 (hq.trans hk.symm)
   omega
 refine⟨by rw[List.length_set];exact h.pln,fun j q hj hq=>?_,by rw[List.length_set];exact h.tl,fun i u u' hu hu'=>?_,by simp[h.yl],fun j q hj hq=>?_⟩
 ·by_cases e:j=k
  ·subst e;rw[hk]at hq;cases hq
   simp only[Int.toNat_natCast]
   rw[List.getElem?_set_self (by rw[h.pln];exact hnl)]
  have hqn:=hne j q (by omega) hq
  have hq0:=hO0 q (List.mem_of_getElem? hq)
  have h1:=h.plc j q (by omega) hq
  by_cases h0:q.toNat=n
  ·rw[h0,List.getElem?_set_self (by rw[h.pln];exact hnl)]
   exfalso
   have hlt:=List.pairwise_iff_getElem.1 hO j k (List.getElem?_eq_some_iff.1 hq).1 hkl (by omega)
   rw[List.getElem?_eq_getElem hkl]at hk
   rw[List.getElem?_eq_getElem (List.getElem?_eq_some_iff.1 hq).1]at hq
   simp only[Option.some.injEq]at hk hq
   rw[hk,hq]at hlt
   omega
  rw[List.getElem?_set_ne (by omega)];exact h1
 ·rw[hot]
  by_cases e:n=i
  ·subst e
   rw[List.getElem?_set_self (by rw[h.tl];exact hnl)]at hu'
   rw[ht]at hu;cases hu;cases hu'
   exact⟨rfl,rfl,rfl,rfl,rfl,by rw[if_pos (by simp)]⟩
  rw[List.getElem?_set_ne e]at hu'
  obtain⟨e1,e2,e3,e4,e5,e6⟩:=h.tkk i u u' hu hu'
  refine⟨e1,e2,e3,e4,e5,?_⟩
  rw[e6]
  have:(i:Int)∈O.take k++[(n:Int)]↔(i:Int)∈O.take k:=by
    rw[List.mem_append,List.mem_singleton];exact or_iff_left (by omega)
  simp only[this]
 by_cases e:j=k
 ·subst e;rw[hk]at hq;cases hq
  simp only[Int.toNat_natCast]
  rw[List.getElem?_append_right (by rw[h.yl];exact Nat.le_refl _),h.yl,Nat.sub_self,List.getElem?_set_self (by rw[h.tl];exact hnl)];rfl
 rw[List.getElem?_append_left (by rw[h.yl];omega),h.yy j q (by omega) hq]
 have hqn:=hne j q (by omega) hq
 have hq0:=hO0 q (List.mem_of_getElem? hq)
 have hlt:=List.pairwise_iff_getElem.1 hO j k (List.getElem?_eq_some_iff.1 hq).1 hkl (by omega)
 have hq2:=hq
 have hk2:=hk
 rw[List.getElem?_eq_getElem hkl]at hk2
 rw[List.getElem?_eq_getElem (List.getElem?_eq_some_iff.1 hq).1]at hq2
 simp only[Option.some.injEq]at hk2 hq2
 rw[hk2,hq2]at hlt
 by_cases h0:q.toNat=n
 ·exfalso;omega
 rw[List.getElem?_set_ne (by omega)]
end
end Go.Vs
namespace Go.Vs
open Go Go.Sx
theorem PlI.sub {ts tk Y:List Stp} {O pl:List Int} {k:Nat} (h:PlI ts O k pl tk Y) (hk:k≤O.length):∀ y∈Y,y∈tk:=fun y hy=>by
  obtain⟨j,hj⟩:=List.getElem?_of_mem hy
  have hjk:j<k:=by rw[← h.yl];exact (List.getElem?_eq_some_iff.1 hj).1
  have hq:O[j]? = some (O[j]'(by omega)):=List.getElem?_eq_getElem (by omega)
  have:=h.yy j _ hjk hq
  rw[hj]at this
  exact List.mem_of_getElem? this.symm
inductive NdS (l:List Stp):Nat→Prop
  | last {s:Stp} (h:l[l.length - 1]? = some s):NdS l (bd_ l s)
  | step {m:Nat} {s t:Stp} {q:Int} (hm:NdS l m) (hs:l[m]? = some s) (hq:q∈s.frm) (ht:l[q.toNat]? = some t):NdS l (bd_ l t)
structure TrimR (l Y:List Stp) (O:List Int):Prop where
  inc:O.Pairwise (·<·)
  nat:∀ x∈O,∃ n:Nat,x=n∧NdS l n
  all:∀ n,NdS l n→(n:Int)∈O
  len:Y.length=O.length
  step:∀ (j n:Nat) s y,O[j]? = some (n:Int)→l[n]? = some s→Y[j]? = some y→y.rule=s.rule∧y.fact=s.fact∧y.piece=s.piece∧y.frm=s.frm.map fun q=>pix O (hF l q)
def gS_ (l Y:List Stp):Prop:=∃ O,TrimR l Y O
theorem ib_ {l:List Stp} {n:Nat} (h:NdS l n):n<l.length:=by
  cases h with
  | last h=>exact hI_ (List.mem_of_getElem? h)
  | step hm hs hq ht=>exact hI_ (List.mem_of_getElem? ht)
theorem kr_ {l:List Stp} {xl:Stp} (hord:∀ (i:Nat) s,l[i]? = some s→∀ q∈s.frm,0≤q∧q<(i:Int)) (hx:l[l.length - 1]? = some xl) {n:Nat} (h:NdS l n):n≤bd_ l xl:=by
  induction h with
  | last h=>rw[hx]at h;cases h;exact Nat.le_refl _
  | step hm hs hq ht ih =>
    have h1:=hord _ _ hs _ hq
    have h2:=gL_ ht
    omega
theorem rL_ {l ts:List Stp} {xl:Stp} (h:TsI l ts l.length) (hord:∀ (i:Nat) s,l[i]? = some s→∀ q∈s.frm,0≤q∧q<(i:Int)) (hx:l[l.length - 1]? = some xl) (n:Nat):Nd (ts.take (bd_ l xl+1)) n↔NdS l n:=by
 have hla:=hI_ (List.mem_of_getElem? hx)
 have hul:(ts.take (bd_ l xl+1)).length=bd_ l xl+1:=by rw[List.length_take,h.len];omega
 have hget:∀ (m:Nat) s,m≤bd_ l xl→l[m]? = some s→∃ t,(ts.take (bd_ l xl+1))[m]? = some t∧t.frm=s.frm.map (hF l):=fun m s hm hs=>by
   have hml:=(List.getElem?_eq_some_iff.1 hs).1
   have ht:ts[m]? = some (ts[m]'(by rw[h.len];exact hml)):=List.getElem?_eq_getElem _
   exact⟨_,by rw[List.getElem?_take_of_lt (by omega)];exact ht,(h.done m s _ hml hs ht).2.2.2⟩
 constructor
 ·intro hn
  induction hn with
  | last hl=>rw[hul]at hl;have e:bd_ l xl=_:=Nat.succ.inj hl;rw[← e];exact .last hx
  | @step m n t hm ht hq ih =>
    have hml:m<l.length:=ib_ ih
    have hs:l[m]? = some l[m]:=List.getElem?_eq_getElem hml
    obtain⟨t',h1,h2⟩:=hget m _ (kr_ hord hx ih) hs
    rw[ht]at h1;cases h1
    rw[h2]at hq
    obtain⟨r,hr,e⟩:=List.mem_map.1 hq
    have hb:=hord m _ hs r hr
    have hr2:l[r.toNat]? = some (l[r.toNat]'(by omega)):=List.getElem?_eq_getElem (by omega)
    rw[kD_ hr2]at e
    have e':bd_ l _=n:=Int.ofNat.inj e
    rw[← e'];exact .step ih hs hr hr2
 intro hn
 induction hn with
 | last hl=>rw[hx]at hl;cases hl;exact .last hul
 | @step m s u q hm hs hq hu ih =>
   obtain⟨t,h1,h2⟩:=hget m s (kr_ hord hx hm) hs
   refine .step ih h1 ?_
   rw[h2]
   exact List.mem_map.2 ⟨q,hq,kD_ hu⟩
theorem PlI.done {l ts tk Y:List Stp} {O pl:List Int} {xl:Stp} (h:PlI ts O O.length pl tk Y) (ht:TsI l ts l.length) (hord:∀ (i:Nat) s,l[i]? = some s→∀ q∈s.frm,0≤q∧q<(i:Int)) (hx:l[l.length - 1]? = some xl) (hOi:O.Pairwise (·<·)) (hOn:∀ x∈O,∃ n:Nat,x=n∧Nd (ts.take (bd_ l xl+1)) n) (hOa:∀ n,Nd (ts.take (bd_ l xl+1)) n→(n:Int)∈O):TrimR l Y O:=by
 refine⟨hOi,fun x hx'=>?_,fun n hn=>hOa n ((rL_ ht hord hx n).2 hn),h.yl,fun j n s y hj hs hy=>?_⟩
 ·obtain⟨n,e,h1⟩:=hOn x hx';exact⟨n,e,(rL_ ht hord hx n).1 h1⟩
 have hjl:=(List.getElem?_eq_some_iff.1 hj).1
 have hnl:=(List.getElem?_eq_some_iff.1 hs).1
 have h1:=h.yy j _ hjl hj
 simp only[Int.toNat_natCast]at h1
 rw[hy]at h1
 have htn:ts[n]? = some (ts[n]'(by rw[ht.len];exact hnl)):=List.getElem?_eq_getElem _
 obtain⟨e1,e2,e3,e4⟩:=ht.done n s _ hnl hs htn
 obtain⟨g1,g2,g3,_,_,g6⟩:=h.tkk n _ _ htn h1.symm
 refine⟨g1.trans e1,g2.trans e2,g3.trans e3,?_⟩
 rw[g6,List.take_length,if_pos (List.mem_of_getElem? hj),e4,List.map_map];rfl
end Go.Vs
namespace Go.Vs
open Go Go.Sx
def Ky.cells (k:Ky):List Value:=[.int .i64 k.kind,str k.role,str k.atom]
theorem Ky.cells_len (k:Ky):k.cells.length=3:=rfl
def Ky.val (k:Ky):Value:=.agg k.cells.toArray
def it_ (s:eO_):List Value:=[str s.1,str s.2]
def aU_ (s:eO_):Value:=.agg (it_ s).toArray
def Ky.eqb (p q:Ky):Bool:=(p.kind==q.kind)&&((p.role==q.role)&&((p.atom==q.atom)&&true))
theorem Ky.eqb_eq (p q:Ky):p.eqb q=decide (p=q):=by
  rw[Bool.eq_iff_iff];cases p;cases q;simp[Ky.eqb]
def uk_ (p q:eO_):Bool:=(p.1==q.1)&&((p.2==q.2)&&true)
theorem mS_ (p q:eO_):uk_ p q=decide (p=q):=by
  rw[Bool.eq_iff_iff];cases p;cases q;simp[uk_]
theorem Fc.cells_one (p:Fc):p.cells.all Value.oneCell'=true:=rfl
end Go.Vs
namespace Go.Sx
open Go Go.Vs
structure Emt (P:Program) (tF:TypeId) where
  stp:Fc→List Fc→List Fc
  kof:List Fc→List Fc
  St:List Fc→List Fc→Hp→Prop
  fn:FuncId
  caps:List Value
  ef:Fct
  kb:Nat
  fb:Nat
  grows:Grows stp kof
  emit:∀ f nw fm H,St nw fm H→Tri P fn (f.val::caps).toArray H [ef] (fun _:{H':Hp // St (stp f nw) fm H'}=>.tuple #[]) (fun y=>y.1) (fun _=>[])
  known:∀ {nw fm H},St nw fm H→∃ es c,(kb,Obj.map es c)∈H∧SetE Fc.val es (kof nw)
  firm:∀ {nw fm H},St nw fm H→∃ es c q,(fb,Obj.map es c)∈H∧SetE Fc.val es q∧∀ f,f∈q↔f∈fm
  setf:∀ {nw fm H} (f:Fc),St nw fm H→∃ es c q Hr,H.Perm ((fb,Obj.map es c)::Hr)∧SetE Fc.val es q∧(∀ f,f∈q↔f∈fm)∧∀ es' c',SetE Fc.val es' (if f∈q then q else q++[f])→∃ H',St nw (f::fm) H'∧H'.Perm ((fb,Obj.map es' c')::Hr)
section
variable {P:Program} {N:Nf} {v0:Vw} {H0:Hp} {R:Exit→Act→World→Prop} {K:List Kt} {fr:Fr} {H:Hp} {Γ:List Fct}
variable {ops:Array Oper} {l:List Oper} {d:Nat} {ty:TypeId} {ps:String} {af:Array Edge} {tF:TypeId} {E:Emt P tF} {nw fm:List Fc} {Hs F:Hp}
theorem ki_ {b:Nat} {o:Obj} {v:Vw} (hp:H.Perm (Hs++F)) (hm:(b,o)∈Hs) (h:v.sat H):v.w.heap[b]? = some o:=(h.own _ (hp.mem_iff.2 (List.mem_append_left _ hm))).1
theorem hx_ {t et:TypeId} {x y:Operand} {f:Fc} (hS:E.St nw fm Hs) (hK:KeyT P tF Fc.val) (hu:∀ w,(underlying t).run P w=.ok (.map tF et) w) (hz:∀ w,(zeroValue et).run P w=.ok (.bool false) w) (hx:Fr.ev fr x=some (.map (some E.kb))) (hy:Fr.ev fr y=some f.val) (hp:H.Perm (Hs++F)) :
    Yld P N fr H Γ (.lookup t x y false) ty (.bool (decide (f∈E.kof nw))):=by
  obtain⟨es,c,g1,g2⟩:=E.known hS
  exact fG_ hK hu hz hx hy g2 fun v h _=>ki_ hp g1 h
theorem mJ_ {t et:TypeId} {x y:Operand} {f:Fc} (hS:E.St nw fm Hs) (hK:KeyT P tF Fc.val) (hu:∀ w,(underlying t).run P w=.ok (.map tF et) w) (hz:∀ w,(zeroValue et).run P w=.ok (.bool false) w) (hx:Fr.ev fr x=some (.map (some E.fb))) (hy:Fr.ev fr y=some f.val) (hp:H.Perm (Hs++F)) :
    Yld P N fr H Γ (.lookup t x y false) ty (.bool (decide (f∈fm))):=by
  obtain⟨es,c,q,g1,g2,g3⟩:=E.firm hS
  have:=fG_ (P:=P) (N:=N) (H:=H) (Γ:=Γ) (ty:=ty) hK hu hz hx hy g2 fun v h _=>ki_ hp g1 h
  have e:decide (f∈q)=decide (f∈fm):=by rw[decide_eq_decide];exact g3 f
  rw[← e];exact this
theorem rz_ {o:Op} {t et:TypeId} {x y z:Operand} {f:Fc} (hS:E.St nw fm Hs) (hK:KeyT P tF Fc.val) (ho:o=.insert t x y z∨o=.mapUpdate t x y z) (hu:∀ w,(underlying t).run P w=.ok (.map tF et) w)
    (hx:Fr.ev fr x=some (.map (some E.fb))) (hy:Fr.ev fr y=some f.val) (hz:Fr.ev fr z=some (.bool true)) (hp:H.Perm (Hs++F))
    (hk:∀ Hs',E.St nw (f::fm) Hs'→Ops P R N v0 H0 ops l K fr (Hs'++F) Γ):Ops P R N v0 H0 ops (⟨none,o,ty,ps,af,none⟩::l) K fr H Γ:=by
  obtain⟨es,c,q,Hr,p1,p2,p3,p4⟩:=E.setf f hS
  refine u_ (H':=(E.fb,.map es c)::(Hr++F)) (hp.trans (by have:=p1.append_right F;simpa using this)) ?_
  refine kl_ 0 hK ho hu hx hy hz rfl p2 fun es' c' hs'=>?_
  obtain⟨H',q1,q2⟩:=p4 es' c' hs'
  simp only[List.set_cons_zero]
  exact u_ (by have:=(q2.append_right F).symm;simpa using this) (hk H' q1)
end
structure EngB where
  g:Nat
  pb:Nat
  ab:Nat
  ub:Nat
  ob:Nat
  ib:Nat
  rb:Nat
  sb:Nat
  lad:Option Addr
  lcap:Nat
  lps:List Str
structure EngA where
  p:Ky→Option Addr×Nat
  a:Str→Option Addr×Nat
  u:Str→Option Addr×Nat
  o:eO_→Option Addr×Nat
  i:eO_→Option Addr×Nat
  r:eO_→Option Addr×Nat
  s:eO_→Option Addr×Nat
def EngB.cells (B:EngB) {P:Program} {tF:TypeId} (E:Emt P tF):List Value :=
  [.map (some B.pb),.slice B.lad B.lps.length B.lcap,.map (some E.kb),.func (.func E.fn) #[] E.caps.toArray,.map (some B.ab),.map (some B.ub),.map (some B.ob),.map (some B.ib),.map (some B.rb),.map (some B.sb),.map (some E.fb)]
structure IxH where
  a:Hp
  u:Hp
  o:Hp
  i:Hp
  r:Hp
  s:Hp
def IxO (tS tF:TypeId) (B:EngB) (x:Ix) (y:IxH):Prop :=
  aS_ str aV_ tS 1 x.above B.ab y.a∧aS_ str aV_ tS 1 x.under B.ub y.u∧aS_ aU_ aV_ tS 1 x.frm B.ob y.o∧aS_ aU_ aV_ tS 1 x.into B.ib y.i∧aS_ aU_ Fc.cells tF 6 x.ranges B.rb y.r∧aS_ aU_ Fc.cells tF 6 x.firms B.sb y.s
end Go.Sx
namespace Go.Proofs.YtkeanlfhghlgiaaGreatDoor
open Go Go.Sx Go.Proofs
attribute [local irreducible] Code.wp wpList wpAnyH
open Go.Vs
theorem eqKy (p q:Ky) (w:World):(Op.equalIn 10000 145 (Ky.val p) (Ky.val q)).run Tryz.prog w=.ok (decide (p=q)) w:=by
  have h:=run_equalIn_struct (P:=Tryz.prog) w 9999 145 (Ky.cells p).toArray (Ky.cells q).toArray (by simp only[Program.fieldsOf,Tryz.underlying145]) Tryz.stoodInHeld145
  refine h.trans ?_
  rw[← Ky.eqb_eq]
  simp only[Program.fieldsOf,Tryz.underlying145]
  exact bF_ rfl O_ rfl rfl (eqI bw_ w) (bF_ rfl U_ rfl rfl (eqS aF_ w) (bF_ rfl U_ rfl rfl (eqS aF_ w) (hJ_ w)))
theorem eqSpot (p q:eO_) (w:World):(Op.equalIn 10000 128 (aU_ p) (aU_ q)).run Tryz.prog w=.ok (decide (p=q)) w:=by
  have h:=run_equalIn_struct (P:=Tryz.prog) w 9999 128 (it_ p).toArray (it_ q).toArray (by simp only[Program.fieldsOf,Tryz.underlying128]) Tryz.stoodInHeld128
  refine h.trans ?_
  rw[← mS_]
  simp only[Program.fieldsOf,Tryz.underlying128]
  exact bF_ rfl U_ rfl rfl (eqS aF_ w) (bF_ rfl U_ rfl rfl (eqS aF_ w) (hJ_ w))
theorem okKy (p:Ky):hv_ Tryz.prog 145 (Ky.val p):=fun e w=>by
 have hi:∀ (n:Int) (w:World),(Instr.checkKey e (9998+1) 3 (.int .i64 n)).run Tryz.prog w=.ok () w:=fun n w=>MapKept.run_checkKey (d:=.int .i64) bw_ (by simp[MapKept.IsKey]) e 9998
 have hs:∀ (n:Str) (w:World),(Instr.checkKey e (9998+1) 9 (str n)).run Tryz.prog w=.ok () w:=fun n w=>MapKept.run_checkKey (d:=.string) aF_ (by simp[MapKept.IsKey,str]) e 9998
 refine ckF (n:=9999) Tryz.underlying145 fun f hf=>?_
 simp only[List.mem_cons,List.not_mem_nil,or_false]at hf
 rcases hf with rfl|rfl|rfl
 ·exact⟨rfl,O_,_,rfl,hi _⟩
 ·exact⟨rfl,U_,_,rfl,hs _⟩
 exact⟨rfl,U_,_,rfl,hs _⟩
theorem okSpot (p:eO_):hv_ Tryz.prog 128 (aU_ p):=fun e w=>by
 have hi:∀ (n:Int) (w:World),(Instr.checkKey e (9998+1) 3 (.int .i64 n)).run Tryz.prog w=.ok () w:=fun n w=>MapKept.run_checkKey (d:=.int .i64) bw_ (by simp[MapKept.IsKey]) e 9998
 have hs:∀ (n:Str) (w:World),(Instr.checkKey e (9998+1) 9 (str n)).run Tryz.prog w=.ok () w:=fun n w=>MapKept.run_checkKey (d:=.string) aF_ (by simp[MapKept.IsKey,str]) e 9998
 refine ckF (n:=9999) Tryz.underlying128 fun f hf=>?_
 simp only[List.mem_cons,List.not_mem_nil,or_false]at hf
 rcases hf with rfl|rfl
 ·exact⟨rfl,U_,_,rfl,hs _⟩
 exact⟨rfl,U_,_,rfl,hs _⟩
theorem okFc (p:Fc):hv_ Tryz.prog 24 p.val:=fun e w=>by
 have hi:∀ (n:Int) (w:World),(Instr.checkKey e (9998+1) 3 (.int .i64 n)).run Tryz.prog w=.ok () w:=fun n w=>MapKept.run_checkKey (d:=.int .i64) bw_ (by simp[MapKept.IsKey]) e 9998
 have hs:∀ (n:Str) (w:World),(Instr.checkKey e (9998+1) 9 (str n)).run Tryz.prog w=.ok () w:=fun n w=>MapKept.run_checkKey (d:=.string) aF_ (by simp[MapKept.IsKey,str]) e 9998
 refine ckF (n:=9999) ll_ fun f hf=>?_
 simp only[List.mem_cons,List.not_mem_nil,or_false]at hf
 rcases hf with rfl|rfl|rfl|rfl|rfl|rfl
 ·exact⟨rfl,O_,_,rfl,hi _⟩
 ·exact⟨rfl,U_,_,rfl,hs _⟩
 ·exact⟨rfl,U_,_,rfl,hs _⟩
 ·exact⟨rfl,U_,_,rfl,hs _⟩
 ·exact⟨rfl,O_,_,rfl,hi _⟩
 exact⟨rfl,O_,_,rfl,hi _⟩
theorem gU_:KeyT Tryz.prog 145 Ky.val:=er_ (K:=Ky) Tryz.underlying145 okKy (fun p q w=>eqKy p q w) fun k=>ge_ (l:=Ky.cells k) fun v hv=>by
 simp only[Ky.cells,List.mem_cons,List.not_mem_nil,or_false]at hv
 rcases hv with rfl|rfl|rfl
 ·exact ex_ _ _
 ·exact cw_ _ _
 exact cw_ _ _
theorem cK_:KeyT Tryz.prog 128 aU_:=er_ (K:=eO_) Tryz.underlying128 okSpot (fun p q w=>eqSpot p q w) fun k=>ge_ (l:=it_ k) fun v hv=>by
 simp only[it_,List.mem_cons,List.not_mem_nil,or_false]at hv
 rcases hv with rfl|rfl
 ·exact cw_ _ _
 exact cw_ _ _
theorem fe_:KeyT Tryz.prog 24 Fc.val:=er_ (K:=Fc) ll_ okFc (fun p q w=>eqFc p q w) fun k=>ge_ (l:=Fc.cells k) fun v hv=>by
 simp only[Fc.cells,List.mem_cons,List.not_mem_nil,or_false]at hv
 rcases hv with rfl|rfl|rfl|rfl|rfl|rfl
 ·exact ex_ _ _
 ·exact cw_ _ _
 ·exact cw_ _ _
 ·exact cw_ _ _
 ·exact ex_ _ _
 exact ex_ _ _
theorem mm_:KeyT Tryz.prog 52 Pc.val:=er_ (K:=Pc) lj_ keyPc (fun p q w=>eqPc p q w) fun k=>ge_ (l:=Pc.cells k) fun v hv=>by
 simp only[Pc.cells,List.mem_cons,List.not_mem_nil,or_false]at hv
 rcases hv with rfl|rfl|rfl|rfl|rfl|rfl|rfl|rfl|rfl|rfl
 ·exact ex_ _ _
 ·exact cw_ _ _
 ·exact cw_ _ _
 ·exact cw_ _ _
 ·exact cw_ _ _
 ·exact cw_ _ _
 ·exact cw_ _ _
 ·exact ex_ _ _
 ·exact ex_ _ _
 exact ex_ _ _
theorem dV_:KeyT Tryz.prog 9 str:=rW_ aF_
theorem mA_:Elt Tryz.prog 37 24 6 72:=lQ_ Tryz.underlying37 (z:=.agg #[.int .i64 0,str [],str [],str [],.int .i64 0,.int .i64 0]) (by kernel_rfl) rfl (by decide)
theorem elt_pc:Elt Tryz.prog 22 52 10 128:=lQ_ Tryz.underlying22 (z:=.agg #[.int .i64 0,str [],str [],str [],str [],str [],str [],.int .i64 0,.int .i64 0,.int .i64 0]) (by kernel_rfl) rfl (by decide)
theorem df_:Elt Tryz.prog 36 9 1 16:=lQ_ lk_ (z:=.string ⟨#[]⟩) (by kernel_rfl) rfl (by decide)
theorem ew_:jb_ Tryz.prog 145 [(0,1),(1,1),(2,1)] [.int .i64 0,str [],str []]:=⟨_,Tryz.zeroValue145,Tryz.runUnderlying145,fun w=>by simp[o_,M_]⟩
theorem fg_:jb_ Tryz.prog 128 [(0,1),(1,1)] [str [],str []]:=⟨_,cu_,Tryz.runUnderlying128,fun w=>by simp[M_]⟩
theorem strt80:jb_ Tryz.prog 80 [(0,1),(1,1),(2,1),(3,1),(4,1),(5,1),(6,1),(7,1),(8,1),(9,1),(10,1)] [.map none,.slice none 0 0,.map none,.nilFunc,.map none,.map none,.map none,.map none,.map none,.map none,.map none]:=⟨_,Tryz.zeroValue80,cF_,fun w=>by simp[ul_,Tryz.sizeOf73,Tryz.sizeOf74,eX_,Tryz.sizeOf76,Tryz.sizeOf77,Tryz.sizeOf78]⟩
theorem cE_ (s:Str):(aV_ s).all Value.oneCell'=true:=rfl
theorem bp_ (s:Int):(N_ s).all Value.oneCell'=true:=rfl
def gF (B:EngB) (E:Emt Tryz.prog 24):Fct:=eu_ B.g (.cells (B.cells E).toArray 80 (0,0))
def pF (B:EngB) (pm:List (Ky×Pc)) (A:EngA):Fct:=mlF Tryz.prog 145 Ky.val Pc.cells B.pb pm A.p
def aF (B:EngB) (x:Ix) (A:EngA):Fct:=mlF Tryz.prog 9 str aV_ B.ab x.above A.a
def uF (B:EngB) (x:Ix) (A:EngA):Fct:=mlF Tryz.prog 9 str aV_ B.ub x.under A.u
def oF (B:EngB) (x:Ix) (A:EngA):Fct:=mlF Tryz.prog 128 aU_ aV_ B.ob x.frm A.o
def iF (B:EngB) (x:Ix) (A:EngA):Fct:=mlF Tryz.prog 128 aU_ aV_ B.ib x.into A.i
def rF (B:EngB) (x:Ix) (A:EngA):Fct:=mlF Tryz.prog 128 aU_ Fc.cells B.rb x.ranges A.r
def sF (B:EngB) (x:Ix) (A:EngA):Fct:=mlF Tryz.prog 128 aU_ Fc.cells B.sb x.firms A.s
end Go.Proofs.YtkeanlfhghlgiaaGreatDoor
namespace Go.Proofs.YtkeanlfhghlgiaaGreatDoor
open Go Go.Sx Go.Proofs
attribute [local irreducible] Code.wp wpList wpAnyH
open Go.Vs
theorem dm_ {α β:Type} {g:α→β} {l:List α} {i:Nat} {x:α} (h:l[i]? = some x):List.map g (List.take (i+1) l)=List.map g (List.take i l)++[g x]:=by
  rw[List.take_add_one,h,Option.toList_some,List.map_append];rfl
theorem fu_ (a b:Str):Fn0 Tryz.prog 49 #[str a,str b] (Fc.val (C_ a b)):=by
  refine w_ Tryz.func49 rfl rfl Tryz.ntmps49 rfl fun v0=>?_
  refine Zz 2 ?_
  refine J_ aa_ rfl fun b1=>Zz 6 ?_
  refine i_ (H_ dH_ rfl rfl) rfl (z_ 0 B_ rfl rfl rfl rfl rfl rfl (Zz 3 ?_))
  exact fy_ () (fun aa v h1 h2=>dk_ (us:=Fc.cells (C_ a b)) 0 Tryz.results49 aX_ B_ rfl rfl rfl aa v h1 h2) m_ zt
theorem ku_ (a r b:Str):Fn0 Tryz.prog 88 #[str a,str r,str b] (Fc.val (I_ a r b)):=by
  refine w_ Tryz.func88 rfl rfl Tryz.ntmps88 rfl fun v0=>?_
  refine Zz 2 ?_
  refine J_ aa_ rfl fun b1=>Zz 7 ?_
  refine i_ (H_ dH_ rfl rfl) rfl (z_ 0 B_ rfl rfl rfl rfl rfl rfl (Zz 3 ?_))
  exact fy_ () (fun aa v h1 h2=>dk_ (us:=Fc.cells (I_ a r b)) 0 Tryz.results88 aX_ B_ rfl rfl rfl aa v h1 h2) m_ zt
theorem ka_ (a r:Str) (lo hi:Int):Fn0 Tryz.prog 50 #[str a,str r,.int .i64 lo,.int .i64 hi] (Fc.val (T_ a r lo hi)):=by
  refine w_ Tryz.func50 rfl rfl Tryz.ntmps50 rfl fun v0=>?_
  refine Zz 2 ?_
  refine J_ aa_ rfl fun b1=>Zz 8 ?_
  refine i_ (H_ dH_ rfl rfl) rfl (z_ 0 B_ rfl rfl rfl rfl rfl rfl (Zz 3 ?_))
  exact fy_ () (fun aa v h1 h2=>dk_ (us:=Fc.cells (T_ a r lo hi)) 0 Tryz.results50 aX_ B_ rfl rfl rfl aa v h1 h2) m_ zt
theorem qo_ (B:EngB) (E:Emt Tryz.prog 24) (A:EngA) (pm:List (Ky×Pc)) (x:Ix) (f:Fc) (nw fm:List Fc) (Hs:Hp) (hS:E.St nw fm Hs) (hpl:∀ k,(lat pm k).length≤1000000000) (hxl:∀ k,(lat x.above k).length≤1000000000∧(lat x.under k).length≤1000000000) (hyl:∀ k,(lat x.frm k).length≤1000000000∧(lat x.into k).length≤1000000000∧(lat x.ranges k).length≤1000000000∧(lat x.firms k).length≤1000000000):Tri Tryz.prog 89 #[zp_ B.g 0,Fc.val f] Hs [gF B E,pF B pm A,aF B x A,uF B x A,oF B x A,iF B x A,rF B x A,sF B x A,E.ef] (fun _:{H':Hp // E.St (emits E.stp (gu_ pm f) nw) fm H'}=>.tuple #[]) (fun y=>y.1) (fun _=>[]):=by
 refine w_ Tryz.func89 rfl rfl Tryz.ntmps89 rfl fun v0=>?_
 refine Zz 2 ?_
 refine as_ rfl rfl fun b1=>Zz 4 ?_
 refine s_ 0 [0,1,2,3,4,5,6,7,8,9] zk zs (Zz 6 ?_)
 refine R_ rfl (H_ ew_ rfl rfl) rfl (R_ rfl (aR_ (k:=(Ky.mk 1 [] f.b)) (adr:=A.p) gU_ bY_ cB_ rfl rfl zf) rfl (Zz 6 ?_))
 refine Q_ (ι:={y:Nat×Hp // y.1≤List.length (lat pm (Ky.mk 1 [] f.b))∧E.St (emits E.stp (List.map (fun y=>C_ f.a y.c) (List.take y.1 (lat pm (Ky.mk 1 [] f.b)))) nw) fm y.2}) (fun y=>[(0,zp_ B.g 0),(3,zp_ b1 0),(13,.slice (Prod.fst (A.p (Ky.mk 1 [] f.b))) (List.length (lat pm (Ky.mk 1 [] f.b))) (Prod.snd (A.p (Ky.mk 1 [] f.b)))),(14,.int .i64 (List.length (lat pm (Ky.mk 1 [] f.b)):Int)),(15,.int .i64 (y.1.1:Int))]) (fun y=>((b1,.cells #[.int .i64 f.kind,str f.a,str f.b,str f.r,.int .i64 f.lo,.int .i64 f.hi] 24 (0,0))::y.1.2)) (fun y=>[gF B E,pF B pm A,aF B x A,uF B x A,oF B x A,iF B x A,rF B x A,sF B x A,E.ef]) (fun y=>List.length (lat pm (Ky.mk 1 [] f.b)) - y.1.1) ⟨((0:Nat),Hs),by simp,by exact hS⟩ zl zp zh ?_
 rintro ⟨⟨i,Hs_i⟩,hi_i,hS_i⟩
 dsimp only at hi_i hS_i ⊢
 have hb_i:=hpl (Ky.mk 1 [] f.b)
 refine Zi 2 (fun hr1=>?_) fun hr1=>?_
 ·refine Zz 6 ?_
  exact end0 Tryz.results89 ⟨Hs_i,by unfold gu_;rw[List.take_of_length_le (by omega)]at hS_i;exact hS_i⟩ rfl F_ zt
 obtain⟨hlx1,x1,hx1,hmx1⟩:=zge (show i<List.length (lat pm (Ky.mk 1 [] f.b)) by omega)
 refine Zz 10 ?_
 refine i_ (X_ ad_ Y_ rfl rfl (fun v _ h=>G_ (n:=10) Pc.cells_len (by decide) (by exact (aw_ h.2.1 (Ky.mk 1 [] f.b))) hx1) (by omega) (by first|omega|(simp;done))) rfl ?_
 refine i_ (bi_ (ad:=(Prod.fst (A.p (Ky.mk 1 [] f.b)))) (us:=Pc.cells x1) eb_ Y_ rfl (fun v _ h=>by exact (aw_ h.2.1 (Ky.mk 1 [] f.b))) (Pc.cells_len _) (t_ Pc.cells_len hx1)) rfl (J_ aN_ rfl fun b2=>z_ 0 Y_ rfl rfl rfl rfl rfl rfl (Zz 2 ?_))
 refine ae_ ((b2,.cells #[.int .i64 x1.kind,str x1.a,str x1.b,str x1.c,str x1.r,str x1.s,str x1.t,.int .i64 x1.lo,.int .i64 x1.hi,.int .i64 x1.frm] 52 (0,0))::((b1,.cells #[.int .i64 f.kind,str f.a,str f.b,str f.r,.int .i64 f.lo,.int .i64 f.hi] 24 (0,0))::[])) zk ?_
 refine s_ 2 [0,1,2,3,4,5,6,7] zk zs (Zz 9 ?_)
 refine j_ 8 rfl zk (n_ (fu_ f.a x1.c) rfl m_ zt rfl fun _=>Zz 3 ?_)
 refine j_ 9 rfl zk (au_ (first:=[]) (cap:=E.caps) (E.emit (C_ f.a x1.c) (emits E.stp (List.map (fun y=>C_ f.a y.c) (List.take i (lat pm (Ky.mk 1 [] f.b)))) nw) fm Hs_i hS_i) rfl rfl (c_ F_) zf rfl fun⟨Hs1,hS1⟩=>?_)
 dsimp only
 refine Zz 10 ?_
 exact y_ ⟨(i+1,Hs1),hlx1,(by rw[dm_ hx1,aC_];exact hS1)⟩ (by dsimp only;omega) zl zp zh
theorem some_c (B:EngB) (E:Emt Tryz.prog 24) (A:EngA) (pm:List (Ky×Pc)) (x:Ix) (f:Fc) (nw fm:List Fc) (Hs:Hp) (hS:E.St nw fm Hs) (hpl:∀ k,(lat pm k).length≤1000000000) (hxl:∀ k,(lat x.above k).length≤1000000000∧(lat x.under k).length≤1000000000) (hyl:∀ k,(lat x.frm k).length≤1000000000∧(lat x.into k).length≤1000000000∧(lat x.ranges k).length≤1000000000∧(lat x.firms k).length≤1000000000):Tri Tryz.prog 91 #[zp_ B.g 0,Fc.val f] Hs [gF B E,pF B pm A,aF B x A,uF B x A,oF B x A,iF B x A,rF B x A,sF B x A,E.ef] (fun _:{H':Hp // E.St (emits E.stp (ls_ pm f) nw) fm H'}=>.tuple #[]) (fun y=>y.1) (fun _=>[]):=by
 refine w_ Tryz.func91 rfl rfl Tryz.ntmps91 rfl fun v0=>?_
 refine Zz 2 ?_
 refine as_ rfl rfl fun b1=>Zz 4 ?_
 refine s_ 0 [0,1,2,3,4,5,6,7,8,9] zk zs (Zz 6 ?_)
 refine R_ rfl (H_ ew_ rfl rfl) rfl (R_ rfl (aR_ (k:=(Ky.mk 3 [] f.b)) (adr:=A.p) gU_ bY_ cB_ rfl rfl zf) rfl (Zz 6 ?_))
 refine Q_ (ι:={y:Nat×Hp // y.1≤List.length (lat pm (Ky.mk 3 [] f.b))∧E.St (emits E.stp (List.map (fun y=>I_ f.a y.r y.c) (List.take y.1 (lat pm (Ky.mk 3 [] f.b)))) nw) fm y.2}) (fun y=>[(0,zp_ B.g 0),(3,zp_ b1 0),(13,.slice (Prod.fst (A.p (Ky.mk 3 [] f.b))) (List.length (lat pm (Ky.mk 3 [] f.b))) (Prod.snd (A.p (Ky.mk 3 [] f.b)))),(14,.int .i64 (List.length (lat pm (Ky.mk 3 [] f.b)):Int)),(15,.int .i64 (y.1.1:Int))]) (fun y=>((b1,.cells #[.int .i64 f.kind,str f.a,str f.b,str f.r,.int .i64 f.lo,.int .i64 f.hi] 24 (0,0))::y.1.2)) (fun y=>[gF B E,pF B pm A,aF B x A,uF B x A,oF B x A,iF B x A,rF B x A,sF B x A,E.ef]) (fun y=>List.length (lat pm (Ky.mk 3 [] f.b)) - y.1.1) ⟨((0:Nat),Hs),by simp,by exact hS⟩ zl zp zh ?_
 rintro ⟨⟨i,Hs_i⟩,hi_i,hS_i⟩
 dsimp only at hi_i hS_i ⊢
 have hb_i:=hpl (Ky.mk 3 [] f.b)
 refine Zi 2 (fun hr1=>?_) fun hr1=>?_
 ·refine Zz 6 ?_
  exact end0 Tryz.results91 ⟨Hs_i,by unfold ls_;rw[List.take_of_length_le (by omega)]at hS_i;exact hS_i⟩ rfl F_ zt
 obtain⟨hlx1,x1,hx1,hmx1⟩:=zge (show i<List.length (lat pm (Ky.mk 3 [] f.b)) by omega)
 refine Zz 10 ?_
 refine i_ (X_ ad_ Y_ rfl rfl (fun v _ h=>G_ (n:=10) Pc.cells_len (by decide) (by exact (aw_ h.2.1 (Ky.mk 3 [] f.b))) hx1) (by omega) (by first|omega|(simp;done))) rfl ?_
 refine i_ (bi_ (ad:=(Prod.fst (A.p (Ky.mk 3 [] f.b)))) (us:=Pc.cells x1) eb_ Y_ rfl (fun v _ h=>by exact (aw_ h.2.1 (Ky.mk 3 [] f.b))) (Pc.cells_len _) (t_ Pc.cells_len hx1)) rfl (J_ aN_ rfl fun b2=>z_ 0 Y_ rfl rfl rfl rfl rfl rfl (Zz 2 ?_))
 refine ae_ ((b2,.cells #[.int .i64 x1.kind,str x1.a,str x1.b,str x1.c,str x1.r,str x1.s,str x1.t,.int .i64 x1.lo,.int .i64 x1.hi,.int .i64 x1.frm] 52 (0,0))::((b1,.cells #[.int .i64 f.kind,str f.a,str f.b,str f.r,.int .i64 f.lo,.int .i64 f.hi] 24 (0,0))::[])) zk ?_
 refine s_ 2 [0,1,2,3,4,5,6,7,8,9] zk zs (Zz 11 ?_)
 refine j_ 10 rfl zk (n_ (ku_ f.a x1.r x1.c) rfl m_ zt rfl fun _=>Zz 3 ?_)
 refine j_ 11 rfl zk (au_ (first:=[]) (cap:=E.caps) (E.emit (I_ f.a x1.r x1.c) (emits E.stp (List.map (fun y=>I_ f.a y.r y.c) (List.take i (lat pm (Ky.mk 3 [] f.b)))) nw) fm Hs_i hS_i) rfl rfl (c_ F_) zf rfl fun⟨Hs1,hS1⟩=>?_)
 dsimp only
 refine Zz 10 ?_
 exact y_ ⟨(i+1,Hs1),hlx1,(by rw[dm_ hx1,aC_];exact hS1)⟩ (by dsimp only;omega) zl zp zh
theorem qh_ (B:EngB) (E:Emt Tryz.prog 24) (A:EngA) (pm:List (Ky×Pc)) (x:Ix) (f:Fc) (nw fm:List Fc) (Hs:Hp) (hS:E.St nw fm Hs) (hpl:∀ k,(lat pm k).length≤1000000000) (hxl:∀ k,(lat x.above k).length≤1000000000∧(lat x.under k).length≤1000000000) (hyl:∀ k,(lat x.frm k).length≤1000000000∧(lat x.into k).length≤1000000000∧(lat x.ranges k).length≤1000000000∧(lat x.firms k).length≤1000000000):Tri Tryz.prog 95 #[zp_ B.g 0,Fc.val f] Hs [gF B E,pF B pm A,aF B x A,uF B x A,oF B x A,iF B x A,rF B x A,sF B x A,E.ef] (fun _:{H':Hp // E.St (emits E.stp (go_ pm f) nw) fm H'}=>.tuple #[]) (fun y=>y.1) (fun _=>[]):=by
 refine w_ Tryz.func95 rfl rfl Tryz.ntmps95 rfl fun v0=>?_
 refine Zz 2 ?_
 refine as_ rfl rfl fun b1=>Zz 4 ?_
 refine s_ 0 [0,1,2,3,4,5,6,7,8,9] zk zs (Zz 6 ?_)
 refine R_ rfl (H_ ew_ rfl rfl) rfl (R_ rfl (aR_ (k:=(Ky.mk 5 f.r [])) (adr:=A.p) gU_ bY_ cB_ rfl rfl zf) rfl (Zz 6 ?_))
 refine Q_ (ι:={y:Nat×Hp // y.1≤List.length (lat pm (Ky.mk 5 f.r []))∧E.St (emits E.stp (List.map (fun y=>I_ f.a y.t f.b) (List.take y.1 (lat pm (Ky.mk 5 f.r [])))) nw) fm y.2}) (fun y=>[(0,zp_ B.g 0),(3,zp_ b1 0),(13,.slice (Prod.fst (A.p (Ky.mk 5 f.r []))) (List.length (lat pm (Ky.mk 5 f.r []))) (Prod.snd (A.p (Ky.mk 5 f.r [])))),(14,.int .i64 (List.length (lat pm (Ky.mk 5 f.r [])):Int)),(15,.int .i64 (y.1.1:Int))]) (fun y=>((b1,.cells #[.int .i64 f.kind,str f.a,str f.b,str f.r,.int .i64 f.lo,.int .i64 f.hi] 24 (0,0))::y.1.2)) (fun y=>[gF B E,pF B pm A,aF B x A,uF B x A,oF B x A,iF B x A,rF B x A,sF B x A,E.ef]) (fun y=>List.length (lat pm (Ky.mk 5 f.r [])) - y.1.1) ⟨((0:Nat),Hs),by simp,by exact hS⟩ zl zp zh ?_
 rintro ⟨⟨i,Hs_i⟩,hi_i,hS_i⟩
 dsimp only at hi_i hS_i ⊢
 have hb_i:=hpl (Ky.mk 5 f.r [])
 refine Zi 2 (fun hr1=>?_) fun hr1=>?_
 ·refine Zz 6 ?_
  exact end0 Tryz.results95 ⟨Hs_i,by unfold go_;rw[List.take_of_length_le (by omega)]at hS_i;exact hS_i⟩ rfl F_ zt
 obtain⟨hlx1,x1,hx1,hmx1⟩:=zge (show i<List.length (lat pm (Ky.mk 5 f.r [])) by omega)
 refine Zz 10 ?_
 refine i_ (X_ ad_ Y_ rfl rfl (fun v _ h=>G_ (n:=10) Pc.cells_len (by decide) (by exact (aw_ h.2.1 (Ky.mk 5 f.r []))) hx1) (by omega) (by first|omega|(simp;done))) rfl ?_
 refine i_ (bi_ (ad:=(Prod.fst (A.p (Ky.mk 5 f.r [])))) (us:=Pc.cells x1) eb_ Y_ rfl (fun v _ h=>by exact (aw_ h.2.1 (Ky.mk 5 f.r []))) (Pc.cells_len _) (t_ Pc.cells_len hx1)) rfl (J_ aN_ rfl fun b2=>z_ 0 Y_ rfl rfl rfl rfl rfl rfl (Zz 2 ?_))
 refine ae_ ((b2,.cells #[.int .i64 x1.kind,str x1.a,str x1.b,str x1.c,str x1.r,str x1.s,str x1.t,.int .i64 x1.lo,.int .i64 x1.hi,.int .i64 x1.frm] 52 (0,0))::((b1,.cells #[.int .i64 f.kind,str f.a,str f.b,str f.r,.int .i64 f.lo,.int .i64 f.hi] 24 (0,0))::[])) zk ?_
 refine s_ 2 [0,1,2,3,4,5,6,7,8,9] zk zs (Zz 11 ?_)
 refine j_ 10 rfl zk (n_ (ku_ f.a x1.t f.b) rfl m_ zt rfl fun _=>Zz 3 ?_)
 refine j_ 11 rfl zk (au_ (first:=[]) (cap:=E.caps) (E.emit (I_ f.a x1.t f.b) (emits E.stp (List.map (fun y=>I_ f.a y.t f.b) (List.take i (lat pm (Ky.mk 5 f.r [])))) nw) fm Hs_i hS_i) rfl rfl (c_ F_) zf rfl fun⟨Hs1,hS1⟩=>?_)
 dsimp only
 refine Zz 10 ?_
 exact y_ ⟨(i+1,Hs1),hlx1,(by rw[dm_ hx1,aC_];exact hS1)⟩ (by dsimp only;omega) zl zp zh
theorem gr_ {α β:Type} {g:α→List β} {l:List α} {i:Nat} {x:α} (h:l[i]? = some x):List.flatMap g (List.take (i+1) l)=List.flatMap g (List.take i l)++g x:=by
  rw[List.take_add_one,h,Option.toList_some,List.flatMap_append];simp
theorem ja_ {stp:Fc→List Fc→List Fc} {kof:List Fc→List Fc} {f:Fc} {l:List Pc} {i:Nat} {x:Pc} {s:List Fc} (h:l[i]? = some x):ed_ stp kof f (List.take (i+1) l) s=if C_ f.a x.a∈kof (ed_ stp kof f (List.take i l) s)∧C_ f.a x.b∈kof (ed_ stp kof f (List.take i l) s) then stp (C_ f.a x.c) (ed_ stp kof f (List.take i l) s) else ed_ stp kof f (List.take i l) s:=by
  unfold ed_
  rw[List.take_add_one,h,Option.toList_some,List.foldl_append];rfl
theorem jT_ {stp:Fc→List Fc→List Fc} {kof:List Fc→List Fc} {f:Fc} {l:List Pc} {i:Nat} {x:Pc} {s:List Fc×List Fc} (h:l[i]? = some x):ci_ stp kof f (List.take (i+1) l) s=(stp (T_ f.a x.r x.lo x.hi) (ci_ stp kof f (List.take i l) s).1,if T_ f.a x.r x.lo x.hi∈kof (ci_ stp kof f (List.take i l) s).1 then (ci_ stp kof f (List.take i l) s).2 else T_ f.a x.r x.lo x.hi::(ci_ stp kof f (List.take i l) s).2):=by
  unfold ci_
  rw[List.take_add_one,h,Option.toList_some,List.foldl_append];rfl
theorem both_c (B:EngB) (E:Emt Tryz.prog 24) (A:EngA) (pm:List (Ky×Pc)) (x:Ix) (f:Fc) (nw fm:List Fc) (Hs:Hp) (hS:E.St nw fm Hs) (hpl:∀ k,(lat pm k).length≤1000000000) (hxl:∀ k,(lat x.above k).length≤1000000000∧(lat x.under k).length≤1000000000) (hyl:∀ k,(lat x.frm k).length≤1000000000∧(lat x.into k).length≤1000000000∧(lat x.ranges k).length≤1000000000∧(lat x.firms k).length≤1000000000):Tri Tryz.prog 90 #[zp_ B.g 0,Fc.val f] Hs [gF B E,pF B pm A,aF B x A,uF B x A,oF B x A,iF B x A,rF B x A,sF B x A,E.ef] (fun _:{H':Hp // E.St (ed_ E.stp E.kof f (lat pm (Ky.mk 2 [] f.b)) nw) fm H'}=>.tuple #[]) (fun y=>y.1) (fun _=>[]):=by
 refine w_ Tryz.func90 rfl rfl Tryz.ntmps90 rfl fun v0=>?_
 refine Zz 2 ?_
 refine as_ rfl rfl fun b1=>Zz 4 ?_
 refine s_ 0 [0,1,2,3,4,5,6,7,8,9] zk zs (Zz 6 ?_)
 refine R_ rfl (H_ ew_ rfl rfl) rfl (R_ rfl (aR_ (k:=(Ky.mk 2 [] f.b)) (adr:=A.p) gU_ bY_ cB_ rfl rfl zf) rfl (Zz 6 ?_))
 refine Q_ (ι:={y:Nat×Hp // y.1≤List.length (lat pm (Ky.mk 2 [] f.b))∧E.St (ed_ E.stp E.kof f (List.take y.1 (lat pm (Ky.mk 2 [] f.b))) nw) fm y.2}) (fun y=>[(0,zp_ B.g 0),(3,zp_ b1 0),(13,.slice (Prod.fst (A.p (Ky.mk 2 [] f.b))) (List.length (lat pm (Ky.mk 2 [] f.b))) (Prod.snd (A.p (Ky.mk 2 [] f.b)))),(14,.int .i64 (List.length (lat pm (Ky.mk 2 [] f.b)):Int)),(15,.int .i64 (y.1.1:Int))]) (fun y=>((b1,.cells #[.int .i64 f.kind,str f.a,str f.b,str f.r,.int .i64 f.lo,.int .i64 f.hi] 24 (0,0))::y.1.2)) (fun y=>[gF B E,pF B pm A,aF B x A,uF B x A,oF B x A,iF B x A,rF B x A,sF B x A,E.ef]) (fun y=>List.length (lat pm (Ky.mk 2 [] f.b)) - y.1.1) ⟨((0:Nat),Hs),by simp,by exact hS⟩ zl zp zh ?_
 rintro ⟨⟨i,Hs_i⟩,hi_i,hS_i⟩
 dsimp only at hi_i hS_i ⊢
 have hb_i:=hpl (Ky.mk 2 [] f.b)
 refine Zi 2 (fun hr1=>?_) fun hr1=>?_
 ·refine Zz 6 ?_
  exact end0 Tryz.results90 ⟨Hs_i,by rw[List.take_of_length_le (by omega)]at hS_i;exact hS_i⟩ rfl F_ zt
 obtain⟨hlx1,x1,hx1,hmx1⟩:=zge (show i<List.length (lat pm (Ky.mk 2 [] f.b)) by omega)
 refine Zz 10 ?_
 refine i_ (X_ ad_ Y_ rfl rfl (fun v _ h=>G_ (n:=10) Pc.cells_len (by decide) (by exact (aw_ h.2.1 (Ky.mk 2 [] f.b))) hx1) (by omega) (by first|omega|(simp;done))) rfl ?_
 refine i_ (bi_ (ad:=(Prod.fst (A.p (Ky.mk 2 [] f.b)))) (us:=Pc.cells x1) eb_ Y_ rfl (fun v _ h=>by exact (aw_ h.2.1 (Ky.mk 2 [] f.b))) (Pc.cells_len _) (t_ Pc.cells_len hx1)) rfl (J_ aN_ rfl fun b2=>z_ 0 Y_ rfl rfl rfl rfl rfl rfl (Zz 4 ?_))
 refine s_ 14 [0,1,2,3,4,5,6,7] zk zs (Zz 9 ?_)
 refine j_ 8 rfl zk (n_ (fu_ f.a x1.a) rfl m_ zt rfl fun _=>Zz 3 ?_)
 refine s_ 11 [9,10] zk zs (cI_ rfl (hx_ (f:=(C_ f.a x1.a)) hS_i fe_ aL_ eP_ rfl rfl (c_ F_)) rfl fun r2 hr2=>Zz 2 ?_)
 cases r2
 ·replace hr2:=zdf hr2
  refine s_ 0 [11,12,13,14,15,16,17,18,19,20,21] zk zs (Zz 22 ?_)
  exact y_ ⟨(i+1,Hs_i),hlx1,(by rw[ja_ hx1];first|(rw[if_pos ⟨by assumption,by assumption⟩];exact hS_i)|(rw[if_neg (fun q=>absurd q.1 (by assumption))];exact hS_i)|(rw[if_neg (fun q=>absurd q.2 (by assumption))];exact hS_i))⟩ (by dsimp only;omega) zl (g_ (c_ d_) F_) zh
 replace hr2:=zdt hr2
 refine s_ 3 [11,12,13,14,15,16,17,18] zk zs (Zz 9 ?_)
 refine j_ 19 rfl zk (aJ_ rfl rfl (n_ (fu_ f.a x1.b) rfl m_ zt rfl fun _=>Zz 3 ?_))
 refine s_ 0 [20,21] zk zs (bK_ rfl rfl rfl (hx_ (f:=(C_ f.a x1.b)) hS_i fe_ aL_ eP_ rfl rfl (c_ F_)) rfl fun r3 hr3=>Zz 4 ?_)
 cases r3
 ·replace hr3:=zdf hr3
  refine Zz 8 ?_
  exact y_ ⟨(i+1,Hs_i),hlx1,(by rw[ja_ hx1];first|(rw[if_pos ⟨by assumption,by assumption⟩];exact hS_i)|(rw[if_neg (fun q=>absurd q.1 (by assumption))];exact hS_i)|(rw[if_neg (fun q=>absurd q.2 (by assumption))];exact hS_i))⟩ (by dsimp only;omega) zl (g_ (c_ d_) F_) zh
 replace hr3:=zdt hr3
 refine cO_ rfl ?_
 refine ae_ ((b2,.cells #[.int .i64 x1.kind,str x1.a,str x1.b,str x1.c,str x1.r,str x1.s,str x1.t,.int .i64 x1.lo,.int .i64 x1.hi,.int .i64 x1.frm] 52 (0,0))::((b1,.cells #[.int .i64 f.kind,str f.a,str f.b,str f.r,.int .i64 f.lo,.int .i64 f.hi] 24 (0,0))::[])) zk ?_
 refine s_ 2 [0,1,2,3,4,5,6,7] zk zs (Zz 9 ?_)
 refine j_ 8 rfl zk (n_ (fu_ f.a x1.c) rfl m_ zt rfl fun _=>Zz 3 ?_)
 refine j_ 9 rfl zk (au_ (first:=[]) (cap:=E.caps) (E.emit (C_ f.a x1.c) (ed_ E.stp E.kof f (List.take i (lat pm (Ky.mk 2 [] f.b))) nw) fm Hs_i hS_i) rfl rfl (c_ F_) zf rfl fun⟨Hs1,hS1⟩=>?_)
 dsimp only
 refine Zz 10 ?_
 exact y_ ⟨(i+1,Hs1),hlx1,(by rw[ja_ hx1];first|(rw[if_pos ⟨by assumption,by assumption⟩];exact hS1)|(rw[if_neg (fun q=>absurd q.1 (by assumption))];exact hS1)|(rw[if_neg (fun q=>absurd q.2 (by assumption))];exact hS1))⟩ (by dsimp only;omega) zl zp zh
theorem sQ_ (B:EngB) (E:Emt Tryz.prog 24) (A:EngA) (pm:List (Ky×Pc)) (x:Ix) (f:Fc) (nw fm:List Fc) (Hs:Hp) (hS:E.St nw fm Hs) (hpl:∀ k,(lat pm k).length≤1000000000) (hxl:∀ k,(lat x.above k).length≤1000000000∧(lat x.under k).length≤1000000000) (hyl:∀ k,(lat x.frm k).length≤1000000000∧(lat x.into k).length≤1000000000∧(lat x.ranges k).length≤1000000000∧(lat x.firms k).length≤1000000000):Tri Tryz.prog 94 #[zp_ B.g 0,Fc.val f] Hs [gF B E,pF B pm A,aF B x A,uF B x A,oF B x A,iF B x A,rF B x A,sF B x A,E.ef] (fun _:{H':Hp // E.St (Prod.fst (ci_ E.stp E.kof f (lat pm (Ky.mk 8 [] f.b)) (nw,fm))) (Prod.snd (ci_ E.stp E.kof f (lat pm (Ky.mk 8 [] f.b)) (nw,fm))) H'}=>.tuple #[]) (fun y=>y.1) (fun _=>[]):=by
 refine w_ Tryz.func94 rfl rfl Tryz.ntmps94 rfl fun v0=>?_
 refine Zz 2 ?_
 refine as_ rfl rfl fun b1=>Zz 4 ?_
 refine s_ 0 [0,1,2,3,4,5,6,7,8,9] zk zs (Zz 6 ?_)
 refine R_ rfl (H_ ew_ rfl rfl) rfl (R_ rfl (aR_ (k:=(Ky.mk 8 [] f.b)) (adr:=A.p) gU_ bY_ cB_ rfl rfl zf) rfl (Zz 6 ?_))
 refine Q_ (ι:={y:Nat×Hp // y.1≤List.length (lat pm (Ky.mk 8 [] f.b))∧E.St (Prod.fst (ci_ E.stp E.kof f (List.take y.1 (lat pm (Ky.mk 8 [] f.b))) (nw,fm))) (Prod.snd (ci_ E.stp E.kof f (List.take y.1 (lat pm (Ky.mk 8 [] f.b))) (nw,fm))) y.2}) (fun y=>[(0,zp_ B.g 0),(3,zp_ b1 0),(14,.slice (Prod.fst (A.p (Ky.mk 8 [] f.b))) (List.length (lat pm (Ky.mk 8 [] f.b))) (Prod.snd (A.p (Ky.mk 8 [] f.b)))),(15,.int .i64 (List.length (lat pm (Ky.mk 8 [] f.b)):Int)),(16,.int .i64 (y.1.1:Int))]) (fun y=>((b1,.cells #[.int .i64 f.kind,str f.a,str f.b,str f.r,.int .i64 f.lo,.int .i64 f.hi] 24 (0,0))::y.1.2)) (fun y=>[gF B E,pF B pm A,aF B x A,uF B x A,oF B x A,iF B x A,rF B x A,sF B x A,E.ef]) (fun y=>List.length (lat pm (Ky.mk 8 [] f.b)) - y.1.1) ⟨((0:Nat),Hs),by simp,by exact hS⟩ zl zp zh ?_
 rintro ⟨⟨i,Hs_i⟩,hi_i,hS_i⟩
 dsimp only at hi_i hS_i ⊢
 have hb_i:=hpl (Ky.mk 8 [] f.b)
 refine Zi 2 (fun hr1=>?_) fun hr1=>?_
 ·refine Zz 6 ?_
  exact end0 Tryz.results94 ⟨Hs_i,by rw[List.take_of_length_le (by omega)]at hS_i;exact hS_i⟩ rfl F_ zt
 obtain⟨hlx1,x1,hx1,hmx1⟩:=zge (show i<List.length (lat pm (Ky.mk 8 [] f.b)) by omega)
 refine Zz 10 ?_
 refine i_ (X_ ad_ Y_ rfl rfl (fun v _ h=>G_ (n:=10) Pc.cells_len (by decide) (by exact (aw_ h.2.1 (Ky.mk 8 [] f.b))) hx1) (by omega) (by first|omega|(simp;done))) rfl ?_
 refine i_ (bi_ (ad:=(Prod.fst (A.p (Ky.mk 8 [] f.b)))) (us:=Pc.cells x1) eb_ Y_ rfl (fun v _ h=>by exact (aw_ h.2.1 (Ky.mk 8 [] f.b))) (Pc.cells_len _) (t_ Pc.cells_len hx1)) rfl (J_ aN_ rfl fun b2=>z_ 0 Y_ rfl rfl rfl rfl rfl rfl (Zz 12 ?_))
 refine n_ (ka_ f.a x1.r x1.lo x1.hi) rfl m_ zt rfl fun _=>J_ aa_ rfl fun b3=>z_ 0 B_ rfl rfl rfl rfl rfl rfl (Zz 5 ?_)
 refine s_ 0 [0,1,2,3,4,5,6] zk zs (Zz 5 ?_)
 refine cI_ rfl (hx_ (f:=(T_ f.a x1.r x1.lo x1.hi)) hS_i fe_ aL_ eP_ rfl rfl (c_ (c_ F_))) rfl fun r2 hr2=>R_ rfl (bt_ rfl) rfl (Zz 3 ?_)
 cases r2
 ·replace hr2:=zdf hr2
  refine cO_ rfl ?_
  refine ae_ ((b3,.cells #[.int .i64 (Fc.kind (T_ f.a x1.r x1.lo x1.hi)),str (Fc.a (T_ f.a x1.r x1.lo x1.hi)),str (Fc.b (T_ f.a x1.r x1.lo x1.hi)),str (Fc.r (T_ f.a x1.r x1.lo x1.hi)),.int .i64 (Fc.lo (T_ f.a x1.r x1.lo x1.hi)),.int .i64 (Fc.hi (T_ f.a x1.r x1.lo x1.hi))] 24 (0,0))::((b2,.cells #[.int .i64 x1.kind,str x1.a,str x1.b,str x1.c,str x1.r,str x1.s,str x1.t,.int .i64 x1.lo,.int .i64 x1.hi,.int .i64 x1.frm] 52 (0,0))::((b1,.cells #[.int .i64 f.kind,str f.a,str f.b,str f.r,.int .i64 f.lo,.int .i64 f.hi] 24 (0,0))::[]))) zk ?_
  refine s_ 1 [0,1,2,3,4] zk zs (Zz 6 ?_)
  refine j_ 5 rfl zk (rz_ (f:=(T_ f.a x1.r x1.lo x1.hi)) hS_i fe_ (.inr rfl) aL_ rfl rfl rfl (c_ (c_ F_)) fun Hs1 hS1=>Zz 5 ?_)
  refine ae_ ((b3,.cells #[.int .i64 (Fc.kind (T_ f.a x1.r x1.lo x1.hi)),str (Fc.a (T_ f.a x1.r x1.lo x1.hi)),str (Fc.b (T_ f.a x1.r x1.lo x1.hi)),str (Fc.r (T_ f.a x1.r x1.lo x1.hi)),.int .i64 (Fc.lo (T_ f.a x1.r x1.lo x1.hi)),.int .i64 (Fc.hi (T_ f.a x1.r x1.lo x1.hi))] 24 (0,0))::((b2,.cells #[.int .i64 x1.kind,str x1.a,str x1.b,str x1.c,str x1.r,str x1.s,str x1.t,.int .i64 x1.lo,.int .i64 x1.hi,.int .i64 x1.frm] 52 (0,0))::((b1,.cells #[.int .i64 f.kind,str f.a,str f.b,str f.r,.int .i64 f.lo,.int .i64 f.hi] 24 (0,0))::[]))) zk ?_
  refine s_ 1 [0,1,2,3,4] zk zs (Zz 6 ?_)
  refine j_ 5 rfl zk (au_ (first:=[]) (cap:=E.caps) (E.emit (T_ f.a x1.r x1.lo x1.hi) (Prod.fst (ci_ E.stp E.kof f (List.take i (lat pm (Ky.mk 8 [] f.b))) (nw,fm))) ((T_ f.a x1.r x1.lo x1.hi)::(Prod.snd (ci_ E.stp E.kof f (List.take i (lat pm (Ky.mk 8 [] f.b))) (nw,fm)))) Hs1 hS1) rfl rfl l_ zf rfl fun⟨Hs2,hS2⟩=>?_)
  dsimp only
  refine Zz 10 ?_
  exact y_ ⟨(i+1,Hs2),hlx1,(by rw[jT_ hx1];dsimp only;first|(rw[if_pos (by assumption)];exact hS2)|(rw[if_neg (by assumption)];exact hS2))⟩ (by dsimp only;omega) zl zp zh
 replace hr2:=zdt hr2
 refine Zz 3 ?_
 refine ae_ ((b3,.cells #[.int .i64 (Fc.kind (T_ f.a x1.r x1.lo x1.hi)),str (Fc.a (T_ f.a x1.r x1.lo x1.hi)),str (Fc.b (T_ f.a x1.r x1.lo x1.hi)),str (Fc.r (T_ f.a x1.r x1.lo x1.hi)),.int .i64 (Fc.lo (T_ f.a x1.r x1.lo x1.hi)),.int .i64 (Fc.hi (T_ f.a x1.r x1.lo x1.hi))] 24 (0,0))::((b2,.cells #[.int .i64 x1.kind,str x1.a,str x1.b,str x1.c,str x1.r,str x1.s,str x1.t,.int .i64 x1.lo,.int .i64 x1.hi,.int .i64 x1.frm] 52 (0,0))::((b1,.cells #[.int .i64 f.kind,str f.a,str f.b,str f.r,.int .i64 f.lo,.int .i64 f.hi] 24 (0,0))::[]))) zk ?_
 refine s_ 1 [0,1,2,3,4] zk zs (Zz 6 ?_)
 refine j_ 5 rfl zk (au_ (first:=[]) (cap:=E.caps) (E.emit (T_ f.a x1.r x1.lo x1.hi) (Prod.fst (ci_ E.stp E.kof f (List.take i (lat pm (Ky.mk 8 [] f.b))) (nw,fm))) (Prod.snd (ci_ E.stp E.kof f (List.take i (lat pm (Ky.mk 8 [] f.b))) (nw,fm))) Hs_i hS_i) rfl rfl (c_ (c_ F_)) zf rfl fun⟨Hs3,hS3⟩=>?_)
 dsimp only
 refine Zz 10 ?_
 exact y_ ⟨(i+1,Hs3),hlx1,(by rw[jT_ hx1];dsimp only;first|(rw[if_pos (by assumption)];exact hS3)|(rw[if_neg (by assumption)];exact hS3))⟩ (by dsimp only;omega) zl zp zh
theorem oA_ (B:EngB) (E:Emt Tryz.prog 24) (A:EngA) (pm:List (Ky×Pc)) (x:Ix) (f:Fc) (nw fm:List Fc) (Hs:Hp) (hS:E.St nw fm Hs) (hpl:∀ k,(lat pm k).length≤1000000000) (hxl:∀ k,(lat x.above k).length≤1000000000∧(lat x.under k).length≤1000000000) (hyl:∀ k,(lat x.frm k).length≤1000000000∧(lat x.into k).length≤1000000000∧(lat x.ranges k).length≤1000000000∧(lat x.firms k).length≤1000000000):Tri Tryz.prog 92 #[zp_ B.g 0,Fc.val f] Hs [gF B E,pF B pm A,aF B x A,uF B x A,oF B x A,iF B x A,rF B x A,sF B x A,E.ef] (fun _:{H':Hp // E.St (emits E.stp (fr_ pm x f) nw) fm H'}=>.tuple #[]) (fun y=>y.1) (fun _=>[]):=by
 refine w_ Tryz.func92 rfl rfl Tryz.ntmps92 rfl fun v0=>?_
 refine Zz 2 ?_
 refine as_ rfl rfl fun b1=>Zz 4 ?_
 refine s_ 0 [0,1,2,3,4,5,6,7,8,9] zk zs (Zz 6 ?_)
 refine R_ rfl (H_ ew_ rfl rfl) rfl (R_ rfl (aR_ (k:=(Ky.mk 4 [] f.b)) (adr:=A.p) gU_ bY_ cB_ rfl rfl zf) rfl (Zz 6 ?_))
 refine Q_ (ι:={y:Nat×Hp // y.1≤List.length (lat pm (Ky.mk 4 [] f.b))∧E.St (emits E.stp (List.flatMap (fun y=>List.map (fun a=>C_ a y.c) (lat x.into (Fc.a f,Pc.r y))) (List.take y.1 (lat pm (Ky.mk 4 [] f.b)))) nw) fm y.2}) (fun y=>[(0,zp_ B.g 0),(3,zp_ b1 0),(15,.slice (Prod.fst (A.p (Ky.mk 4 [] f.b))) (List.length (lat pm (Ky.mk 4 [] f.b))) (Prod.snd (A.p (Ky.mk 4 [] f.b)))),(16,.int .i64 (List.length (lat pm (Ky.mk 4 [] f.b)):Int)),(17,.int .i64 (y.1.1:Int))]) (fun y=>((b1,.cells #[.int .i64 f.kind,str f.a,str f.b,str f.r,.int .i64 f.lo,.int .i64 f.hi] 24 (0,0))::y.1.2)) (fun y=>[gF B E,pF B pm A,aF B x A,uF B x A,oF B x A,iF B x A,rF B x A,sF B x A,E.ef]) (fun y=>List.length (lat pm (Ky.mk 4 [] f.b)) - y.1.1) ⟨((0:Nat),Hs),by simp,by exact hS⟩ zl zp zh ?_
 rintro ⟨⟨i,Hs_i⟩,hi_i,hS_i⟩
 dsimp only at hi_i hS_i ⊢
 have hb_i:=hpl (Ky.mk 4 [] f.b)
 refine Zi 2 (fun hr1=>?_) fun hr1=>?_
 ·refine Zz 6 ?_
  exact end0 Tryz.results92 ⟨Hs_i,by unfold fr_;rw[List.take_of_length_le (by omega)]at hS_i;exact hS_i⟩ rfl F_ zt
 obtain⟨hlx1,x1,hx1,hmx1⟩:=zge (show i<List.length (lat pm (Ky.mk 4 [] f.b)) by omega)
 refine Zz 10 ?_
 refine i_ (X_ ad_ Y_ rfl rfl (fun v _ h=>G_ (n:=10) Pc.cells_len (by decide) (by exact (aw_ h.2.1 (Ky.mk 4 [] f.b))) hx1) (by omega) (by first|omega|(simp;done))) rfl ?_
 refine i_ (bi_ (ad:=(Prod.fst (A.p (Ky.mk 4 [] f.b)))) (us:=Pc.cells x1) eb_ Y_ rfl (fun v _ h=>by exact (aw_ h.2.1 (Ky.mk 4 [] f.b))) (Pc.cells_len _) (t_ Pc.cells_len hx1)) rfl (J_ aN_ rfl fun b2=>z_ 0 Y_ rfl rfl rfl rfl rfl rfl (Zz 4 ?_))
 refine s_ 0 [0,1,2,3,4,5,6,7,8,9,10,11] zk zs (Zz 8 ?_)
 refine R_ rfl (H_ fg_ rfl rfl) rfl (R_ rfl (aR_ (k:=(f.a,x1.r)) (adr:=A.i) cK_ bX_ bo_ rfl rfl zf) rfl (Zz 6 ?_))
 refine Q_ (ι:={y:Nat×Hp // y.1≤List.length (lat x.into (f.a,x1.r))∧E.St (emits E.stp (List.map (fun a=>C_ a x1.c) (List.take y.1 (lat x.into (f.a,x1.r)))) (emits E.stp (List.flatMap (fun y=>List.map (fun a=>C_ a y.c) (lat x.into (Fc.a f,Pc.r y))) (List.take i (lat pm (Ky.mk 4 [] f.b)))) nw)) fm y.2}) (fun y=>[(0,zp_ B.g 0),(3,zp_ b1 0),(15,.slice (Prod.fst (A.p (Ky.mk 4 [] f.b))) (List.length (lat pm (Ky.mk 4 [] f.b))) (Prod.snd (A.p (Ky.mk 4 [] f.b)))),(16,.int .i64 (List.length (lat pm (Ky.mk 4 [] f.b)):Int)),(17,.int .i64 (i:Int)),(5,zp_ b2 0),(30,.slice (Prod.fst (A.i (f.a,x1.r))) (List.length (lat x.into (f.a,x1.r))) (Prod.snd (A.i (f.a,x1.r)))),(31,.int .i64 (List.length (lat x.into (f.a,x1.r)):Int)),(32,.int .i64 (y.1.1:Int))]) (fun y=>((b2,.cells #[.int .i64 x1.kind,str x1.a,str x1.b,str x1.c,str x1.r,str x1.s,str x1.t,.int .i64 x1.lo,.int .i64 x1.hi,.int .i64 x1.frm] 52 (0,0))::((b1,.cells #[.int .i64 f.kind,str f.a,str f.b,str f.r,.int .i64 f.lo,.int .i64 f.hi] 24 (0,0))::y.1.2))) (fun y=>[gF B E,pF B pm A,aF B x A,uF B x A,oF B x A,iF B x A,rF B x A,sF B x A,E.ef]) (fun y=>List.length (lat x.into (f.a,x1.r)) - y.1.1) ⟨((0:Nat),Hs_i),by simp,by exact hS_i⟩ zl zp zh ?_
 rintro ⟨⟨j,Hs_j⟩,hi_j,hS_j⟩
 dsimp only at hi_j hS_j ⊢
 have hb_j:=(hyl (f.a,x1.r)).2.1
 refine Zi 2 (fun hr2=>?_) fun hr2=>?_
 ·refine Zz 11 ?_
  exact y_ ⟨(i+1,Hs_j),hlx1,(by rw[gr_ hx1,aC_];have e9:List.take j (lat x.into (Fc.a f,Pc.r x1))=(lat x.into (Fc.a f,Pc.r x1)):=List.take_of_length_le (by omega);rw[e9]at hS_j;exact hS_j)⟩ (by dsimp only;omega) zl (g_ (c_ d_) F_) zh
 obtain⟨hlx2,x2,hx2,hmx2⟩:=zge (show j<List.length (lat x.into (f.a,x1.r)) by omega)
 refine Zz 10 ?_
 refine i_ (X_ E_ M_ rfl rfl (fun v _ h=>G_ (n:=1) aD_ (by decide) (by exact (aw_ h.2.2.2.2.2.1 (f.a,x1.r))) hx2) (by omega) (by first|omega|(simp;done))) rfl ?_
 refine i_ (at_ (ad:=(Prod.fst (A.i (f.a,x1.r)))) U_ rfl (fun v _ h=>by exact (aw_ h.2.2.2.2.2.1 (f.a,x1.r))) (t_ aD_ hx2 0 _ rfl)) rfl (Zz 3 ?_)
 refine ae_ ((b2,.cells #[.int .i64 x1.kind,str x1.a,str x1.b,str x1.c,str x1.r,str x1.s,str x1.t,.int .i64 x1.lo,.int .i64 x1.hi,.int .i64 x1.frm] 52 (0,0))::((b1,.cells #[.int .i64 f.kind,str f.a,str f.b,str f.r,.int .i64 f.lo,.int .i64 f.hi] 24 (0,0))::[])) zk ?_
 refine s_ 2 [0,1,2,3,4,5,6] zk zs (Zz 8 ?_)
 refine j_ 7 rfl zk (n_ (fu_ x2 x1.c) rfl m_ zt rfl fun _=>Zz 3 ?_)
 refine j_ 8 rfl zk (au_ (first:=[]) (cap:=E.caps) (E.emit (C_ x2 x1.c) (emits E.stp (List.map (fun a=>C_ a x1.c) (List.take j (lat x.into (f.a,x1.r)))) (emits E.stp (List.flatMap (fun y=>List.map (fun a=>C_ a y.c) (lat x.into (Fc.a f,Pc.r y))) (List.take i (lat pm (Ky.mk 4 [] f.b)))) nw)) fm Hs_j hS_j) rfl rfl zp zf rfl fun⟨Hs1,hS1⟩=>?_)
 dsimp only
 refine Zz 10 ?_
 exact y_ ⟨(j+1,Hs1),hlx2,(by rw[dm_ hx2,aC_];exact hS1)⟩ (by dsimp only;omega) zl zp zh
theorem oz_ (B:EngB) (E:Emt Tryz.prog 24) (A:EngA) (pm:List (Ky×Pc)) (x:Ix) (f:Fc) (nw fm:List Fc) (Hs:Hp) (hS:E.St nw fm Hs) (hpl:∀ k,(lat pm k).length≤1000000000) (hxl:∀ k,(lat x.above k).length≤1000000000∧(lat x.under k).length≤1000000000) (hyl:∀ k,(lat x.frm k).length≤1000000000∧(lat x.into k).length≤1000000000∧(lat x.ranges k).length≤1000000000∧(lat x.firms k).length≤1000000000):Tri Tryz.prog 97 #[zp_ B.g 0,Fc.val f] Hs [gF B E,pF B pm A,aF B x A,uF B x A,oF B x A,iF B x A,rF B x A,sF B x A,E.ef] (fun _:{H':Hp // E.St (emits E.stp (fq_ pm x f) nw) fm H'}=>.tuple #[]) (fun y=>y.1) (fun _=>[]):=by
 refine w_ Tryz.func97 rfl rfl Tryz.ntmps97 rfl fun v0=>?_
 refine Zz 2 ?_
 refine as_ rfl rfl fun b1=>Zz 4 ?_
 refine s_ 0 [0,1,2,3,4,5,6,7,8] zk zs (Zz 6 ?_)
 refine R_ rfl (aR_ (k:=f.b) (adr:=A.a) dV_ cj_ bo_ rfl rfl zf) rfl (Zz 6 ?_)
 refine Q_ (ι:={y:Nat×Hp // y.1≤List.length (lat x.above f.b)∧E.St (emits E.stp (List.flatMap (fun y=>List.map (fun a=>C_ f.a a.c) (lat pm (Ky.mk 4 f.r y))) (List.take y.1 (lat x.above f.b))) nw) fm y.2}) (fun y=>[(0,zp_ B.g 0),(3,zp_ b1 0),(14,.slice (Prod.fst (A.a f.b)) (List.length (lat x.above f.b)) (Prod.snd (A.a f.b))),(15,.int .i64 (List.length (lat x.above f.b):Int)),(16,.int .i64 (y.1.1:Int))]) (fun y=>((b1,.cells #[.int .i64 f.kind,str f.a,str f.b,str f.r,.int .i64 f.lo,.int .i64 f.hi] 24 (0,0))::y.1.2)) (fun y=>[gF B E,pF B pm A,aF B x A,uF B x A,oF B x A,iF B x A,rF B x A,sF B x A,E.ef]) (fun y=>List.length (lat x.above f.b) - y.1.1) ⟨((0:Nat),Hs),by simp,by exact hS⟩ zl zp zh ?_
 rintro ⟨⟨i,Hs_i⟩,hi_i,hS_i⟩
 dsimp only at hi_i hS_i ⊢
 have hb_i:=(hxl f.b).1
 refine Zi 2 (fun hr1=>?_) fun hr1=>?_
 ·refine Zz 6 ?_
  exact end0 Tryz.results97 ⟨Hs_i,by unfold fq_;rw[List.take_of_length_le (by omega)]at hS_i;exact hS_i⟩ rfl F_ zt
 obtain⟨hlx1,x1,hx1,hmx1⟩:=zge (show i<List.length (lat x.above f.b) by omega)
 refine Zz 10 ?_
 refine i_ (X_ E_ M_ rfl rfl (fun v _ h=>G_ (n:=1) aD_ (by decide) (by exact (aw_ h.2.2.1 f.b)) hx1) (by omega) (by first|omega|(simp;done))) rfl ?_
 refine i_ (at_ (ad:=(Prod.fst (A.a f.b))) U_ rfl (fun v _ h=>by exact (aw_ h.2.2.1 f.b)) (t_ aD_ hx1 0 _ rfl)) rfl (Zz 5 ?_)
 refine s_ 0 [0,1,2,3,4,5,6,7,8,9,10] zk zs (Zz 7 ?_)
 refine R_ rfl (H_ ew_ rfl rfl) rfl (R_ rfl (aR_ (k:=(Ky.mk 4 f.r x1)) (adr:=A.p) gU_ bY_ cB_ rfl rfl zf) rfl (Zz 6 ?_))
 refine Q_ (ι:={y:Nat×Hp // y.1≤List.length (lat pm (Ky.mk 4 f.r x1))∧E.St (emits E.stp (List.map (fun a=>C_ f.a a.c) (List.take y.1 (lat pm (Ky.mk 4 f.r x1)))) (emits E.stp (List.flatMap (fun y=>List.map (fun a=>C_ f.a a.c) (lat pm (Ky.mk 4 f.r y))) (List.take i (lat x.above f.b))) nw)) fm y.2}) (fun y=>[(0,zp_ B.g 0),(3,zp_ b1 0),(14,.slice (Prod.fst (A.a f.b)) (List.length (lat x.above f.b)) (Prod.snd (A.a f.b))),(15,.int .i64 (List.length (lat x.above f.b):Int)),(16,.int .i64 (i:Int)),(28,.slice (Prod.fst (A.p (Ky.mk 4 f.r x1))) (List.length (lat pm (Ky.mk 4 f.r x1))) (Prod.snd (A.p (Ky.mk 4 f.r x1)))),(29,.int .i64 (List.length (lat pm (Ky.mk 4 f.r x1)):Int)),(30,.int .i64 (y.1.1:Int))]) (fun y=>((b1,.cells #[.int .i64 f.kind,str f.a,str f.b,str f.r,.int .i64 f.lo,.int .i64 f.hi] 24 (0,0))::y.1.2)) (fun y=>[gF B E,pF B pm A,aF B x A,uF B x A,oF B x A,iF B x A,rF B x A,sF B x A,E.ef]) (fun y=>List.length (lat pm (Ky.mk 4 f.r x1)) - y.1.1) ⟨((0:Nat),Hs_i),by simp,by exact hS_i⟩ zl zp zh ?_
 rintro ⟨⟨j,Hs_j⟩,hi_j,hS_j⟩
 dsimp only at hi_j hS_j ⊢
 have hb_j:=hpl (Ky.mk 4 f.r x1)
 refine Zi 2 (fun hr2=>?_) fun hr2=>?_
 ·refine Zz 11 ?_
  exact y_ ⟨(i+1,Hs_j),hlx1,(by rw[gr_ hx1,aC_];have e9:List.take j (lat pm (Ky.mk 4 f.r x1))=(lat pm (Ky.mk 4 f.r x1)):=List.take_of_length_le (by omega);rw[e9]at hS_j;exact hS_j)⟩ (by dsimp only;omega) zl (g_ d_ ay_) zh
 obtain⟨hlx2,x2,hx2,hmx2⟩:=zge (show j<List.length (lat pm (Ky.mk 4 f.r x1)) by omega)
 refine Zz 10 ?_
 refine i_ (X_ ad_ Y_ rfl rfl (fun v _ h=>G_ (n:=10) Pc.cells_len (by decide) (by exact (aw_ h.2.1 (Ky.mk 4 f.r x1))) hx2) (by omega) (by first|omega|(simp;done))) rfl ?_
 refine i_ (bi_ (ad:=(Prod.fst (A.p (Ky.mk 4 f.r x1)))) (us:=Pc.cells x2) eb_ Y_ rfl (fun v _ h=>by exact (aw_ h.2.1 (Ky.mk 4 f.r x1))) (Pc.cells_len _) (t_ Pc.cells_len hx2)) rfl (J_ aN_ rfl fun b2=>z_ 0 Y_ rfl rfl rfl rfl rfl rfl (Zz 2 ?_))
 refine ae_ ((b2,.cells #[.int .i64 x2.kind,str x2.a,str x2.b,str x2.c,str x2.r,str x2.s,str x2.t,.int .i64 x2.lo,.int .i64 x2.hi,.int .i64 x2.frm] 52 (0,0))::((b1,.cells #[.int .i64 f.kind,str f.a,str f.b,str f.r,.int .i64 f.lo,.int .i64 f.hi] 24 (0,0))::[])) zk ?_
 refine s_ 2 [0,1,2,3,4,5,6,7] zk zs (Zz 9 ?_)
 refine j_ 8 rfl zk (n_ (fu_ f.a x2.c) rfl m_ zt rfl fun _=>Zz 3 ?_)
 refine j_ 9 rfl zk (au_ (first:=[]) (cap:=E.caps) (E.emit (C_ f.a x2.c) (emits E.stp (List.map (fun a=>C_ f.a a.c) (List.take j (lat pm (Ky.mk 4 f.r x1)))) (emits E.stp (List.flatMap (fun y=>List.map (fun a=>C_ f.a a.c) (lat pm (Ky.mk 4 f.r y))) (List.take i (lat x.above f.b))) nw)) fm Hs_j hS_j) rfl rfl (c_ F_) zf rfl fun⟨Hs1,hS1⟩=>?_)
 dsimp only
 refine Zz 10 ?_
 exact y_ ⟨(j+1,Hs1),hlx2,(by rw[dm_ hx2,aC_];exact hS1)⟩ (by dsimp only;omega) zl zp zh
theorem tW_ (B:EngB) (E:Emt Tryz.prog 24) (A:EngA) (pm:List (Ky×Pc)) (x:Ix) (f:Fc) (nw fm:List Fc) (Hs:Hp) (hS:E.St nw fm Hs) (hpl:∀ k,(lat pm k).length≤1000000000) (hxl:∀ k,(lat x.above k).length≤1000000000∧(lat x.under k).length≤1000000000) (hyl:∀ k,(lat x.frm k).length≤1000000000∧(lat x.into k).length≤1000000000∧(lat x.ranges k).length≤1000000000∧(lat x.firms k).length≤1000000000):Tri Tryz.prog 96 #[zp_ B.g 0,Fc.val f] Hs [gF B E,pF B pm A,aF B x A,uF B x A,oF B x A,iF B x A,rF B x A,sF B x A,E.ef] (fun _:{H':Hp // E.St (emits E.stp (fk_ pm x f++gR_ pm x f) nw) fm H'}=>.tuple #[]) (fun y=>y.1) (fun _=>[]):=by
 refine w_ Tryz.func96 rfl rfl Tryz.ntmps96 rfl fun v0=>?_
 refine Zz 2 ?_
 refine as_ rfl rfl fun b1=>Zz 5 ?_
 refine s_ 0 [0,1,2,3,4,5,6,7,8,9] zk zs (Zz 6 ?_)
 refine R_ rfl (H_ ew_ rfl rfl) rfl (R_ rfl (aR_ (k:=(Ky.mk 6 f.r [])) (adr:=A.p) gU_ bY_ cB_ rfl rfl zf) rfl (Zz 6 ?_))
 refine Q_ (ι:={y:Nat×Hp // y.1≤List.length (lat pm (Ky.mk 6 f.r []))∧E.St (emits E.stp (List.flatMap (fun y=>List.map (fun a=>I_ f.a y.t a) (lat x.frm (Fc.b f,Pc.s y))) (List.take y.1 (lat pm (Ky.mk 6 f.r [])))) nw) fm y.2}) (fun y=>[(0,zp_ B.g 0),(3,zp_ b1 0),(19,.slice (Prod.fst (A.p (Ky.mk 6 f.r []))) (List.length (lat pm (Ky.mk 6 f.r []))) (Prod.snd (A.p (Ky.mk 6 f.r [])))),(20,.int .i64 (List.length (lat pm (Ky.mk 6 f.r [])):Int)),(21,.int .i64 (y.1.1:Int))]) (fun y=>((b1,.cells #[.int .i64 f.kind,str f.a,str f.b,str f.r,.int .i64 f.lo,.int .i64 f.hi] 24 (0,0))::y.1.2)) (fun y=>[gF B E,pF B pm A,aF B x A,uF B x A,oF B x A,iF B x A,rF B x A,sF B x A,E.ef]) (fun y=>List.length (lat pm (Ky.mk 6 f.r [])) - y.1.1) ⟨((0:Nat),Hs),by simp,by exact hS⟩ zl zp zh ?_
 rintro ⟨⟨i,Hs_i⟩,hi_i,hS_i⟩
 dsimp only at hi_i hS_i ⊢
 have hb_i:=hpl (Ky.mk 6 f.r [])
 refine Zi 2 (fun hr1=>?_) fun hr1=>?_
 ·refine Zz 8 ?_
  refine s_ 0 [0,1,2,3,4,5,6,7,8,9] zk zs (Zz 6 ?_)
  refine R_ rfl (H_ ew_ rfl rfl) rfl (R_ rfl (aR_ (k:=(Ky.mk 6 [] f.r)) (adr:=A.p) gU_ bY_ cB_ rfl rfl zf) rfl (Zz 6 ?_))
  refine Q_ (ι:={y:Nat×Hp // y.1≤List.length (lat pm (Ky.mk 6 [] f.r))∧E.St (emits E.stp (List.flatMap (fun y=>List.map (fun a=>I_ a y.t f.b) (lat x.into (Fc.a f,Pc.r y))) (List.take y.1 (lat pm (Ky.mk 6 [] f.r)))) (emits E.stp (fk_ pm x f) nw)) fm y.2}) (fun y=>[(0,zp_ B.g 0),(3,zp_ b1 0),(19,.slice (Prod.fst (A.p (Ky.mk 6 f.r []))) (List.length (lat pm (Ky.mk 6 f.r []))) (Prod.snd (A.p (Ky.mk 6 f.r [])))),(20,.int .i64 (List.length (lat pm (Ky.mk 6 f.r [])):Int)),(21,.int .i64 (i:Int)),(60,.slice (Prod.fst (A.p (Ky.mk 6 [] f.r))) (List.length (lat pm (Ky.mk 6 [] f.r))) (Prod.snd (A.p (Ky.mk 6 [] f.r)))),(61,.int .i64 (List.length (lat pm (Ky.mk 6 [] f.r)):Int)),(62,.int .i64 (y.1.1:Int))]) (fun y=>((b1,.cells #[.int .i64 f.kind,str f.a,str f.b,str f.r,.int .i64 f.lo,.int .i64 f.hi] 24 (0,0))::y.1.2)) (fun y=>[gF B E,pF B pm A,aF B x A,uF B x A,oF B x A,iF B x A,rF B x A,sF B x A,E.ef]) (fun y=>List.length (lat pm (Ky.mk 6 [] f.r)) - y.1.1) ⟨((0:Nat),Hs_i),by simp,by have e9:List.take i (lat pm (Ky.mk 6 f.r []))=(lat pm (Ky.mk 6 f.r [])):=List.take_of_length_le (by omega);rw[e9]at hS_i;exact hS_i⟩ zl (g_ d_ ay_) zh ?_
  rintro ⟨⟨k,Hs_k⟩,hi_k,hS_k⟩
  dsimp only at hi_k hS_k ⊢
  have hb_k:=hpl (Ky.mk 6 [] f.r)
  refine Zi 2 (fun hr2=>?_) fun hr2=>?_
  ·refine Zz 6 ?_
   exact end0 Tryz.results96 ⟨Hs_k,by rw[aC_];unfold gR_;have e8:List.take k (lat pm (Ky.mk 6 [] f.r))=lat pm (Ky.mk 6 [] f.r):=List.take_of_length_le (by omega);rw[e8]at hS_k;exact hS_k⟩ rfl F_ zt
  obtain⟨hlx3,x3,hx3,hmx3⟩:=zge (show k<List.length (lat pm (Ky.mk 6 [] f.r)) by omega)
  refine Zz 10 ?_
  refine i_ (X_ ad_ Y_ rfl rfl (fun v _ h=>G_ (n:=10) Pc.cells_len (by decide) (by exact (aw_ h.2.1 (Ky.mk 6 [] f.r))) hx3) (by omega) (by first|omega|(simp;done))) rfl ?_
  refine i_ (bi_ (ad:=(Prod.fst (A.p (Ky.mk 6 [] f.r)))) (us:=Pc.cells x3) eb_ Y_ rfl (fun v _ h=>by exact (aw_ h.2.1 (Ky.mk 6 [] f.r))) (Pc.cells_len _) (t_ Pc.cells_len hx3)) rfl (J_ aN_ rfl fun b2=>z_ 0 Y_ rfl rfl rfl rfl rfl rfl (Zz 4 ?_))
  refine s_ 0 [0,1,2,3,4,5,6,7,8,9,10,11] zk zs (Zz 8 ?_)
  refine R_ rfl (H_ fg_ rfl rfl) rfl (R_ rfl (aR_ (k:=(f.a,x3.r)) (adr:=A.i) cK_ bX_ bo_ rfl rfl zf) rfl (Zz 6 ?_))
  refine Q_ (ι:={y:Nat×Hp // y.1≤List.length (lat x.into (f.a,x3.r))∧E.St (emits E.stp (List.map (fun a=>I_ a x3.t f.b) (List.take y.1 (lat x.into (f.a,x3.r)))) (emits E.stp (List.flatMap (fun y=>List.map (fun a=>I_ a y.t f.b) (lat x.into (Fc.a f,Pc.r y))) (List.take k (lat pm (Ky.mk 6 [] f.r)))) (emits E.stp (fk_ pm x f) nw))) fm y.2}) (fun y=>[(0,zp_ B.g 0),(3,zp_ b1 0),(19,.slice (Prod.fst (A.p (Ky.mk 6 f.r []))) (List.length (lat pm (Ky.mk 6 f.r []))) (Prod.snd (A.p (Ky.mk 6 f.r [])))),(20,.int .i64 (List.length (lat pm (Ky.mk 6 f.r [])):Int)),(21,.int .i64 (i:Int)),(60,.slice (Prod.fst (A.p (Ky.mk 6 [] f.r))) (List.length (lat pm (Ky.mk 6 [] f.r))) (Prod.snd (A.p (Ky.mk 6 [] f.r)))),(61,.int .i64 (List.length (lat pm (Ky.mk 6 [] f.r)):Int)),(62,.int .i64 (k:Int)),(9,zp_ b2 0),(75,.slice (Prod.fst (A.i (f.a,x3.r))) (List.length (lat x.into (f.a,x3.r))) (Prod.snd (A.i (f.a,x3.r)))),(76,.int .i64 (List.length (lat x.into (f.a,x3.r)):Int)),(77,.int .i64 (y.1.1:Int))]) (fun y=>((b2,.cells #[.int .i64 x3.kind,str x3.a,str x3.b,str x3.c,str x3.r,str x3.s,str x3.t,.int .i64 x3.lo,.int .i64 x3.hi,.int .i64 x3.frm] 52 (0,0))::((b1,.cells #[.int .i64 f.kind,str f.a,str f.b,str f.r,.int .i64 f.lo,.int .i64 f.hi] 24 (0,0))::y.1.2))) (fun y=>[gF B E,pF B pm A,aF B x A,uF B x A,oF B x A,iF B x A,rF B x A,sF B x A,E.ef]) (fun y=>List.length (lat x.into (f.a,x3.r)) - y.1.1) ⟨((0:Nat),Hs_k),by simp,by exact hS_k⟩ zl zp zh ?_
  rintro ⟨⟨l,Hs_l⟩,hi_l,hS_l⟩
  dsimp only at hi_l hS_l ⊢
  have hb_l:=(hyl (f.a,x3.r)).2.1
  refine Zi 2 (fun hr3=>?_) fun hr3=>?_
  ·refine Zz 11 ?_
   exact y_ ⟨(k+1,Hs_l),hlx3,(by rw[gr_ hx3,aC_];have e9:List.take l (lat x.into (Fc.a f,Pc.r x3))=(lat x.into (Fc.a f,Pc.r x3)):=List.take_of_length_le (by omega);rw[e9]at hS_l;exact hS_l)⟩ (by dsimp only;omega) zl (g_ (c_ d_) F_) zh
  obtain⟨hlx4,x4,hx4,hmx4⟩:=zge (show l<List.length (lat x.into (f.a,x3.r)) by omega)
  refine Zz 10 ?_
  refine i_ (X_ E_ M_ rfl rfl (fun v _ h=>G_ (n:=1) aD_ (by decide) (by exact (aw_ h.2.2.2.2.2.1 (f.a,x3.r))) hx4) (by omega) (by first|omega|(simp;done))) rfl ?_
  refine i_ (at_ (ad:=(Prod.fst (A.i (f.a,x3.r)))) U_ rfl (fun v _ h=>by exact (aw_ h.2.2.2.2.2.1 (f.a,x3.r))) (t_ aD_ hx4 0 _ rfl)) rfl (Zz 3 ?_)
  refine ae_ ((b2,.cells #[.int .i64 x3.kind,str x3.a,str x3.b,str x3.c,str x3.r,str x3.s,str x3.t,.int .i64 x3.lo,.int .i64 x3.hi,.int .i64 x3.frm] 52 (0,0))::((b1,.cells #[.int .i64 f.kind,str f.a,str f.b,str f.r,.int .i64 f.lo,.int .i64 f.hi] 24 (0,0))::[])) zk ?_
  refine s_ 2 [0,1,2,3,4,5,6,7,8] zk zs (Zz 10 ?_)
  refine j_ 9 rfl zk (n_ (ku_ x4 x3.t f.b) rfl m_ zt rfl fun _=>Zz 3 ?_)
  refine j_ 10 rfl zk (au_ (first:=[]) (cap:=E.caps) (E.emit (I_ x4 x3.t f.b) (emits E.stp (List.map (fun a=>I_ a x3.t f.b) (List.take l (lat x.into (f.a,x3.r)))) (emits E.stp (List.flatMap (fun y=>List.map (fun a=>I_ a y.t f.b) (lat x.into (Fc.a f,Pc.r y))) (List.take k (lat pm (Ky.mk 6 [] f.r)))) (emits E.stp (fk_ pm x f) nw))) fm Hs_l hS_l) rfl rfl zp zf rfl fun⟨Hs1,hS1⟩=>?_)
  dsimp only
  refine Zz 10 ?_
  exact y_ ⟨(l+1,Hs1),hlx4,(by rw[dm_ hx4,aC_];exact hS1)⟩ (by dsimp only;omega) zl zp zh
 obtain⟨hlx1,x1,hx1,hmx1⟩:=zge (show i<List.length (lat pm (Ky.mk 6 f.r [])) by omega)
 refine Zz 10 ?_
 refine i_ (X_ ad_ Y_ rfl rfl (fun v _ h=>G_ (n:=10) Pc.cells_len (by decide) (by exact (aw_ h.2.1 (Ky.mk 6 f.r []))) hx1) (by omega) (by first|omega|(simp;done))) rfl ?_
 refine i_ (bi_ (ad:=(Prod.fst (A.p (Ky.mk 6 f.r [])))) (us:=Pc.cells x1) eb_ Y_ rfl (fun v _ h=>by exact (aw_ h.2.1 (Ky.mk 6 f.r []))) (Pc.cells_len _) (t_ Pc.cells_len hx1)) rfl (J_ aN_ rfl fun b3=>z_ 0 Y_ rfl rfl rfl rfl rfl rfl (Zz 4 ?_))
 refine s_ 0 [0,1,2,3,4,5,6,7,8,9,10,11] zk zs (Zz 8 ?_)
 refine R_ rfl (H_ fg_ rfl rfl) rfl (R_ rfl (aR_ (k:=(f.b,x1.s)) (adr:=A.o) cK_ bX_ bo_ rfl rfl zf) rfl (Zz 6 ?_))
 refine Q_ (ι:={y:Nat×Hp // y.1≤List.length (lat x.frm (f.b,x1.s))∧E.St (emits E.stp (List.map (fun a=>I_ f.a x1.t a) (List.take y.1 (lat x.frm (f.b,x1.s)))) (emits E.stp (List.flatMap (fun y=>List.map (fun a=>I_ f.a y.t a) (lat x.frm (Fc.b f,Pc.s y))) (List.take i (lat pm (Ky.mk 6 f.r [])))) nw)) fm y.2}) (fun y=>[(0,zp_ B.g 0),(3,zp_ b1 0),(19,.slice (Prod.fst (A.p (Ky.mk 6 f.r []))) (List.length (lat pm (Ky.mk 6 f.r []))) (Prod.snd (A.p (Ky.mk 6 f.r [])))),(20,.int .i64 (List.length (lat pm (Ky.mk 6 f.r [])):Int)),(21,.int .i64 (i:Int)),(5,zp_ b3 0),(34,.slice (Prod.fst (A.o (f.b,x1.s))) (List.length (lat x.frm (f.b,x1.s))) (Prod.snd (A.o (f.b,x1.s)))),(35,.int .i64 (List.length (lat x.frm (f.b,x1.s)):Int)),(36,.int .i64 (y.1.1:Int))]) (fun y=>((b3,.cells #[.int .i64 x1.kind,str x1.a,str x1.b,str x1.c,str x1.r,str x1.s,str x1.t,.int .i64 x1.lo,.int .i64 x1.hi,.int .i64 x1.frm] 52 (0,0))::((b1,.cells #[.int .i64 f.kind,str f.a,str f.b,str f.r,.int .i64 f.lo,.int .i64 f.hi] 24 (0,0))::y.1.2))) (fun y=>[gF B E,pF B pm A,aF B x A,uF B x A,oF B x A,iF B x A,rF B x A,sF B x A,E.ef]) (fun y=>List.length (lat x.frm (f.b,x1.s)) - y.1.1) ⟨((0:Nat),Hs_i),by simp,by exact hS_i⟩ zl zp zh ?_
 rintro ⟨⟨j,Hs_j⟩,hi_j,hS_j⟩
 dsimp only at hi_j hS_j ⊢
 have hb_j:=(hyl (f.b,x1.s)).1
 refine Zi 2 (fun hr4=>?_) fun hr4=>?_
 ·refine Zz 11 ?_
  exact y_ ⟨(i+1,Hs_j),hlx1,(by rw[gr_ hx1,aC_];have e9:List.take j (lat x.frm (Fc.b f,Pc.s x1))=(lat x.frm (Fc.b f,Pc.s x1)):=List.take_of_length_le (by omega);rw[e9]at hS_j;exact hS_j)⟩ (by dsimp only;omega) zl (g_ (c_ d_) F_) zh
 obtain⟨hlx2,x2,hx2,hmx2⟩:=zge (show j<List.length (lat x.frm (f.b,x1.s)) by omega)
 refine Zz 10 ?_
 refine i_ (X_ E_ M_ rfl rfl (fun v _ h=>G_ (n:=1) aD_ (by decide) (by exact (aw_ h.2.2.2.2.1 (f.b,x1.s))) hx2) (by omega) (by first|omega|(simp;done))) rfl ?_
 refine i_ (at_ (ad:=(Prod.fst (A.o (f.b,x1.s)))) U_ rfl (fun v _ h=>by exact (aw_ h.2.2.2.2.1 (f.b,x1.s))) (t_ aD_ hx2 0 _ rfl)) rfl (Zz 3 ?_)
 refine ae_ ((b3,.cells #[.int .i64 x1.kind,str x1.a,str x1.b,str x1.c,str x1.r,str x1.s,str x1.t,.int .i64 x1.lo,.int .i64 x1.hi,.int .i64 x1.frm] 52 (0,0))::((b1,.cells #[.int .i64 f.kind,str f.a,str f.b,str f.r,.int .i64 f.lo,.int .i64 f.hi] 24 (0,0))::[])) zk ?_
 refine s_ 2 [0,1,2,3,4,5,6,7,8] zk zs (Zz 10 ?_)
 refine j_ 9 rfl zk (n_ (ku_ f.a x1.t x2) rfl m_ zt rfl fun _=>Zz 3 ?_)
 refine j_ 10 rfl zk (au_ (first:=[]) (cap:=E.caps) (E.emit (I_ f.a x1.t x2) (emits E.stp (List.map (fun a=>I_ f.a x1.t a) (List.take j (lat x.frm (f.b,x1.s)))) (emits E.stp (List.flatMap (fun y=>List.map (fun a=>I_ f.a y.t a) (lat x.frm (Fc.b f,Pc.s y))) (List.take i (lat pm (Ky.mk 6 f.r [])))) nw)) fm Hs_j hS_j) rfl rfl zp zf rfl fun⟨Hs2,hS2⟩=>?_)
 dsimp only
 refine Zz 10 ?_
 exact y_ ⟨(j+1,Hs2),hlx2,(by rw[dm_ hx2,aC_];exact hS2)⟩ (by dsimp only;omega) zl zp zh
theorem nG_ (B:EngB) (E:Emt Tryz.prog 24) (A:EngA) (pm:List (Ky×Pc)) (x:Ix) (f:Fc) (nw fm:List Fc) (Hs:Hp) (hS:E.St nw fm Hs) (hpl:∀ k,(lat pm k).length≤1000000000) (hxl:∀ k,(lat x.above k).length≤1000000000∧(lat x.under k).length≤1000000000) (hyl:∀ k,(lat x.frm k).length≤1000000000∧(lat x.into k).length≤1000000000∧(lat x.ranges k).length≤1000000000∧(lat x.firms k).length≤1000000000):Tri Tryz.prog 93 #[zp_ B.g 0,Fc.val f] Hs [gF B E,pF B pm A,aF B x A,uF B x A,oF B x A,iF B x A,rF B x A,sF B x A,E.ef] (fun _:{H':Hp // E.St (emits E.stp (db_ x f) nw) fm H'}=>.tuple #[]) (fun y=>y.1) (fun _=>[]):=by
 refine w_ Tryz.func93 rfl rfl Tryz.ntmps93 rfl fun v0=>?_
 refine Zz 2 ?_
 refine as_ rfl rfl fun b1=>Zi 6 (fun hr1=>?_) fun hr1=>?_
 ·refine Zz 5 ?_
  exact end0 Tryz.results93 ⟨Hs,by unfold db_;rw[if_neg (by assumption)];exact hS⟩ rfl F_ zt
 refine Zz 5 ?_
 refine s_ 0 [0,1,2,3,4,5,6,7,8] zk zs (Zz 6 ?_)
 refine R_ rfl (aR_ (k:=f.a) (adr:=A.u) dV_ cj_ bo_ rfl rfl zf) rfl (Zz 6 ?_)
 refine Q_ (ι:={y:Nat×Hp // y.1≤List.length (lat x.under f.a)∧E.St (emits E.stp (List.map (fun a=>C_ a [33]) (List.take y.1 (lat x.under f.a))) nw) fm y.2}) (fun y=>[(0,zp_ B.g 0),(15,.slice (Prod.fst (A.u f.a)) (List.length (lat x.under f.a)) (Prod.snd (A.u f.a))),(16,.int .i64 (List.length (lat x.under f.a):Int)),(17,.int .i64 (y.1.1:Int))]) (fun y=>(y.1.2)) (fun y=>[gF B E,pF B pm A,aF B x A,uF B x A,oF B x A,iF B x A,rF B x A,sF B x A,E.ef]) (fun y=>List.length (lat x.under f.a) - y.1.1) ⟨((0:Nat),Hs),by simp,by exact hS⟩ zl F_ zh ?_
 rintro ⟨⟨i,Hs_i⟩,hi_i,hS_i⟩
 dsimp only at hi_i hS_i ⊢
 have hb_i:=(hxl f.a).2
 refine Zi 2 (fun hr2=>?_) fun hr2=>?_
 ·refine Zz 6 ?_
  exact end0 Tryz.results93 ⟨Hs_i,by unfold db_;rw[if_pos (by assumption)];rw[List.take_of_length_le (by omega)]at hS_i;exact hS_i⟩ rfl ay_ zt
 obtain⟨hlx1,x1,hx1,hmx1⟩:=zge (show i<List.length (lat x.under f.a) by omega)
 refine Zz 10 ?_
 refine i_ (X_ E_ M_ rfl rfl (fun v _ h=>G_ (n:=1) aD_ (by decide) (by exact (aw_ h.2.2.2.1 f.a)) hx1) (by omega) (by first|omega|(simp;done))) rfl ?_
 refine i_ (at_ (ad:=(Prod.fst (A.u f.a))) U_ rfl (fun v _ h=>by exact (aw_ h.2.2.2.1 f.a)) (t_ aD_ hx1 0 _ rfl)) rfl (Zz 3 ?_)
 refine ae_ ([]) zk ?_
 refine s_ 2 [0,1,2,3,4] zk zs (Zz 6 ?_)
 refine j_ 5 rfl zk (n_ (fu_ x1 [33]) rfl m_ zt rfl fun _=>u_ oR_ (Zz 3 ?_))
 refine j_ 6 rfl zk (au_ (first:=[]) (cap:=E.caps) (E.emit (C_ x1 [33]) (emits E.stp (List.map (fun a=>C_ a [33]) (List.take i (lat x.under f.a))) nw) fm Hs_i hS_i) rfl rfl ay_ zf rfl fun⟨Hs1,hS1⟩=>?_)
 dsimp only
 refine u_ dS_ (Zz 10 ?_)
 exact y_ ⟨(i+1,Hs1),hlx1,(by rw[dm_ hx1,aC_];exact hS1)⟩ (by dsimp only;omega) zl ay_ zh
theorem nF_ (B:EngB) (E:Emt Tryz.prog 24) (A:EngA) (pm:List (Ky×Pc)) (x:Ix) (f:Fc) (nw fm:List Fc) (Hs:Hp) (hS:E.St nw fm Hs) (hpl:∀ k,(lat pm k).length≤1000000000) (hxl:∀ k,(lat x.above k).length≤1000000000∧(lat x.under k).length≤1000000000) (hyl:∀ k,(lat x.frm k).length≤1000000000∧(lat x.into k).length≤1000000000∧(lat x.ranges k).length≤1000000000∧(lat x.firms k).length≤1000000000):Tri Tryz.prog 98 #[zp_ B.g 0,Fc.val f] Hs [gF B E,pF B pm A,aF B x A,uF B x A,oF B x A,iF B x A,rF B x A,sF B x A,E.ef] (fun _:{H':Hp // E.St (if C_ f.b [33]∈E.kof nw then E.stp (C_ f.a [33]) nw else nw) fm H'}=>.tuple #[]) (fun y=>y.1) (fun _=>[]):=by
 refine w_ Tryz.func98 rfl rfl Tryz.ntmps98 rfl fun v0=>?_
 refine Zz 2 ?_
 refine as_ rfl rfl fun b1=>Zz 4 ?_
 refine s_ 2 [0,1,2,3,4,5] zk zs (Zz 7 ?_)
 refine j_ 6 rfl zk (n_ (fu_ f.b [33]) rfl m_ zt rfl fun _=>Zz 3 ?_)
 refine s_ 0 [7] zk zs (cI_ rfl (hx_ (f:=(C_ f.b [33])) hS fe_ aL_ eP_ rfl rfl F_) rfl fun r1 hr1=>Zz 3 ?_)
 cases r1
 ·replace hr1:=zdf hr1
  refine Zz 3 ?_
  exact end0 Tryz.results98 ⟨Hs,by first|(rw[if_pos (by assumption)];exact hS)|(rw[if_neg (by assumption)];exact hS)⟩ rfl F_ zt
 replace hr1:=zdt hr1
 refine cO_ rfl ?_
 refine ae_ ((b1,.cells #[.int .i64 f.kind,str f.a,str f.b,str f.r,.int .i64 f.lo,.int .i64 f.hi] 24 (0,0))::[]) zk ?_
 refine s_ 2 [0,1,2,3,4,5] zk zs (Zz 7 ?_)
 refine j_ 6 rfl zk (n_ (fu_ f.a [33]) rfl m_ zt rfl fun _=>Zz 3 ?_)
 refine j_ 7 rfl zk (au_ (first:=[]) (cap:=E.caps) (E.emit (C_ f.a [33]) nw fm Hs hS) rfl rfl F_ zf rfl fun⟨Hs1,hS1⟩=>?_)
 dsimp only
 refine Zz 5 ?_
 exact end0 Tryz.results98 ⟨Hs1,by first|(rw[if_pos (by assumption)];exact hS1)|(rw[if_neg (by assumption)];exact hS1)⟩ rfl l_ zt
end Go.Proofs.YtkeanlfhghlgiaaGreatDoor
