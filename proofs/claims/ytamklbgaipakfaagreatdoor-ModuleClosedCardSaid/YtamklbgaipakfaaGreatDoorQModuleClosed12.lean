/-
  Part of the proof of the law ModuleClosed over this seat: the small logic, the data, the contracts of functions (no condition).
-/
import Derived.Test.YtamklbgaipakfaaGreatDoorQModuleClosed9
import Derived.Test.YtamklbgaipakfaaGreatDoorQModuleClosed11
import Derived.Test.YtamklbgaipakfaaGreatDoorQModuleClosed7
import Derived.Test.YtamklbgaipakfaaGreatDoorQModuleClosed2
import Derived.Lib.Bytealg
import Derived.Lib.Small
import Derived.Test.YtamklbgaipakfaaGreatDoorQModuleClosed3
set_option linter.unusedVariables false
set_option linter.unusedSimpArgs false
set_option linter.unusedSectionVars false
set_option maxHeartbeats 1000000
namespace Go.Sx
open Go Go.Vs
section
variable {P:Program} {N:Nf} {v0:Vw} {H0:Hp} {R:Exit→Act→World→Prop} {Kk:List Kt} {fr:Fr} {H:Hp} {Γ:List Fct}
variable {ops:Array Oper} {lo:List Oper} {d:Nat} {ty:TypeId} {ps:String} {af:Array Edge}
variable {K:Type} [DecidableEq K] {kv:K→Value}
theorem IntE.at {kt:TypeId} {es:Array MapEntry} {ks:List K} {vs:List Int} (hK:KeyT P kt kv) (h:IntE kv es ks vs) {k:K} {i:Nat} {n:Int} (hi:ks[i]? = some k) (hn:vs[i]? = some n):∃ e,es[i]? = some e∧e.key=kv k∧e.val=.int .i64 n∧dZ_ P kt (kv k) es.toList (some (i,.int .i64 n)):=by
  have hlt:i<es.toList.length:=by
    have:=(List.getElem?_eq_some_iff.1 hi).1
    have e:=congrArg List.length h.keys
    simp only[List.length_map]at e
    omega
  have hx:=List.getElem?_eq_getElem hlt
  have hv:=congrArg (fun l=>l[i]?) h.vals
  simp only[List.getElem?_map,hx,Option.map_some,hn,Option.some.injEq]at hv
  have hk:=congrArg (fun l=>l[i]?) h.keys
  simp only[List.getElem?_map,hx,Option.map_some,hi,Option.some.injEq]at hk
  refine⟨es.toList[i],by rw[← Array.getElem?_toList];exact hx,hk,hv,?_⟩
  have:=hK.sf k es.toList ks i _ h.keys h.nd hi hx
  rwa [hv]at this
theorem md_ {t kt et:TypeId} {x y:Operand} {mb c:Nat} {es:Array MapEntry} {ks:List K} {vs:List Int} {k:K} {i:Nat} {n:Int} (hK:KeyT P kt kv) (hu:∀ w,(underlying t).run P w=.ok (.map kt et) w) (hx:Fr.ev fr x=some (.map (some mb))) (hy:Fr.ev fr y=some (kv k))
    (hE:IntE kv es ks vs) (hi:ks[i]? = some k) (hn:vs[i]? = some n) (hm:∀ v,v.sat H→an_ Γ v→v.w.heap[mb]? = some (.map es c)):Yld P N fr H Γ (.lookup t x y false) ty (.int .i64 n):=by
  obtain⟨_,_,_,_,hf⟩:=hE.at hK hi hn
  exact fS_ hu hx hy hm (hK.ok k) hf
theorem qh_ {kv:K→Value} {es:Array MapEntry} {ks:List K} {vs:List Int} (h:IntE kv es ks vs) {k:K} {i:Nat} (hi:ks[i]? = some k) (n:Int):IntE kv (es.modify i fun y=>{ y with key:=kv k,val:=.int .i64 n }) ks (vs.set i n):=by
 have hlen:=congrArg List.length h.vals
 simp only[List.length_map]at hlen
 have hlk:=congrArg List.length h.keys
 simp only[List.length_map]at hlk
 refine⟨?_,?_,h.nd⟩
 ·rw[← h.keys]
  apply List.ext_getElem?
  intro j
  simp only[List.getElem?_map,Array.getElem?_toList,Array.getElem?_modify]
  by_cases hij:i=j
  ·subst hij
   rw[if_pos rfl]
   have hk:=congrArg (fun l=>l[i]?) h.keys
   simp only[List.getElem?_map,hi,Option.map_some,Array.getElem?_toList]at hk
   cases he:es[i]? with
   | none=>rfl
   | some e=>rw[he]at hk;simpa using hk.symm
  rw[if_neg hij]
 apply List.ext_getElem?
 intro j
 have hv:=congrArg (fun l=>l[j]?) h.vals
 simp only[List.getElem?_map,Array.getElem?_toList,Array.getElem?_modify,List.getElem?_set]at hv ⊢
 by_cases hij:i=j
 ·subst hij
  rw[if_pos rfl,if_pos rfl]
  have hlt:i<es.size:=by
    have:=(List.getElem?_eq_some_iff.1 hi).1
    rw[Array.length_toList]at hlk
    omega
  have hlt2:i<vs.length:=by rw[Array.length_toList]at hlen;omega
  rw[if_pos hlt2,Array.getElem?_eq_getElem hlt]
  rfl
 rw[if_neg hij,if_neg hij];exact hv
theorem qa_ {o:Op} {t kt et:TypeId} {x y z:Operand} {mb c:Nat} (j:Nat) {es:Array MapEntry} {ks:List K} {vs:List Int} {k:K} {i:Nat} {m n:Int} (hK:KeyT P kt kv) (ho:o=.insert t x y z∨o=.mapUpdate t x y z) (hu:∀ w,(underlying t).run P w=.ok (.map kt et) w)
    (hx:Fr.ev fr x=some (.map (some mb))) (hy:Fr.ev fr y=some (kv k)) (hz:Fr.ev fr z=some (.int .i64 n)) (hb:H[j]? = some (mb,.map es c)) (hE:IntE kv es ks vs) (hi:ks[i]? = some k) (hm:vs[i]? = some m)
    (hkk:∀ es',IntE kv es' ks (vs.set i n)→Ops P R N v0 H0 ops lo Kk fr (H.set j (mb,.map es' c)) Γ):Ops P R N v0 H0 ops (⟨none,o,ty,ps,af,none⟩::lo) Kk fr H Γ:=by
  obtain⟨e,h1,h2,h3,hf⟩:=hE.at hK hi hm
  exact he_ j hK ho hu hx hy hz hb hf h1 h2 (hkk _ (qh_ hE hi n))
end
end Go.Sx
namespace Go.Vs
open Go Go.Sx
def Thg.eqb (p q:Thg):Bool:=(p.kind==q.kind)&&((p.name==q.name)&&true)
theorem Thg.eqb_eq (p q:Thg):p.eqb q=decide (p=q):=by
  rw[Bool.eq_iff_iff];cases p;cases q;simp[Thg.eqb]
theorem Thg.val_inj (x y:Thg) (h:x.val=y.val):x=y:=by
  obtain⟨k,a⟩:=x
  obtain⟨k',a'⟩:=y
  have h1:[Value.int .i64 k,str a]=[Value.int .i64 k',str a']:=congrArg Array.toList (Value.agg.inj h)
  simp only[List.cons.injEq,Value.int.injEq,true_and,and_true]at h1
  obtain⟨rfl,ha⟩:=h1
  have h2:=congrArg (fun z:ByteArray=>z.data.toList) (Value.string.inj ha)
  simp at h2
  rw[h2]
theorem jq_:∀ (l m K:List Thg),bs_ K (l++m)=bs_ K l++bs_ (K++bs_ K l) m
 | [],m,K=>by simp[bs_]
 | u::l,m,K=>by
   rw[List.cons_append,bs_,bs_]
   by_cases hu:u∈K
   · rw[if_pos hu,if_pos hu,jq_ l m K]
   · rw[if_neg hu,if_neg hu,jq_ l m (K++[u]),show K++u::bs_ (K++[u]) l=(K++[u])++bs_ (K++[u]) l by simp]
     rfl
theorem gO_:∀ (l K:List Thg),(bs_ K l).length≤l.length
 | [],K=>by simp[bs_]
 | u::l,K=>by
   rw[bs_]
   by_cases hu:u∈K
   · rw[if_pos hu];have:=gO_ l K;simp only[List.length_cons];omega
   · rw[if_neg hu];have:=gO_ l (K++[u]);simp only[List.length_cons];omega
theorem take_snoc {α:Type} {l:List α} {i:Nat} {x:α} (h:l[i]? = some x):l.take (i+1)=l.take i++[x]:=by
  rw[List.take_add_one,h];rfl
theorem po_ {W K l:List Thg} {j:Nat} {t:Thg} (h:l[j]? = some t):W++bs_ K (l.take (j+1))=(W++bs_ K (l.take j))++bs_ (K++bs_ K (l.take j)) [t]:=by
  rw[take_snoc h,jq_,List.append_assoc]
theorem qI_ {S:List Str} {j:Nat} {s:Str} (h:S[j]? = some s):do_ (S.take (j+1))=do_ (S.take j)++[⟨1,s⟩]:=by
  unfold do_;rw[take_snoc h,List.map_append,← List.append_assoc];rfl
theorem sK_ {S:List Str} {j:Nat} {s:Str} (h:S[j]? = some s):bs_ [] (do_ (S.take (j+1)))=bs_ [] (do_ (S.take j))++bs_ (bs_ [] (do_ (S.take j))) [⟨1,s⟩]:=by
  rw[qI_ h,jq_];rfl
theorem sJ_:bs_ [] (do_ (([]:List Str).take 0))=([]++bs_ [] [⟨1,[42]⟩])++bs_ ([]++bs_ [] [⟨1,[42]⟩]) [⟨1,[33]⟩]:=by decide
theorem nS_ (p:List Pc) (S:List Str):KW p S (bs_ [] (do_ S)) (bs_ [] (do_ S)):=by
  have h0:KW p S [] []:=⟨by simp,List.nodup_nil,by simp,List.nodup_nil⟩
  have:=h0.ext (l:=do_ S) fun t ht=>.base ht
  simpa using this
theorem pz_ (S:List Str):∀ t∈do_ S,t∈bs_ [] (do_ S):=fun t ht=>by
  have:=(ge_ (do_ S) [] t).2 (.inr ht)
  simpa using this
theorem KW.wlen {p:List Pc} {S:List Str} {K W:List Thg} (h:KW p S K W):W.length≤(iQ_ p S).length:=ec_ W _ h.wn fun t ht=>(h.snd t (h.sub t ht)).univ
def ex_:Nat→List Pc→List (Thg×Int)
  | _,[]=>[]
  | k,x::l=>(af_ x).map (fun t=>(t,(k:Int)))++ex_ (k+1) l
theorem on_:∀ (l m:List Pc) (k:Nat),ex_ k (l++m)=ex_ k l++ex_ (k+l.length) m
  | [],m,k=>by simp[ex_]
  | x::l,m,k=>by
    rw[List.cons_append,ex_,ex_,on_ l m (k+1),List.append_assoc,List.length_cons,show k+1+l.length=k+(l.length+1) by omega]
theorem mm_ {p:List Pc} {i:Nat} {x:Pc} (h:p[i]? = some x):ex_ 0 (p.take (i+1))=ex_ 0 (p.take i)++(af_ x).map fun t=>(t,(i:Int)):=by
  have hl:=(List.getElem?_eq_some_iff.1 h).1
  rw[take_snoc h,on_,List.length_take,Nat.min_eq_left (by omega),Nat.zero_add]
  simp[ex_]
theorem lX_ {l:List Thg} {k:Int} {t:Thg}:lat (l.map fun u=>(u,k)) t=List.replicate (l.count t) k:=by
 induction l with
 | nil=>rfl
 | cons u l ih =>
   unfold lat at ih ⊢
   rw[List.map_cons,List.count_cons,List.filter_cons]
   by_cases e:u=t
   · subst e
     rw[if_pos (by simp),List.map_cons,ih]
     simp[List.replicate_succ]
   · rw[if_neg (by simpa using e),ih,beq_eq_false_iff_ne.2 e]
     simp
theorem iz_:∀ (l:List Pc) (k:Nat) (t:Thg) (m:Int),(lat (ex_ k l) t).count m=if h:(k:Int)≤m∧m<k+l.length then ((l[(m - k).toNat]?).map fun x=>(af_ x).count t).getD 0 else 0
 | [],k,t,m=>by
   simp only[ex_,List.length_nil]
   split
   · rename_i h;exact absurd h.2 (by omega)
   · rfl
 | x::l,k,t,m=>by
   rw[ex_,iG_,List.count_append,lX_,List.count_replicate,iz_ l (k+1) t m]
   by_cases e:m=(k:Int)
   · subst e
     rw[if_pos (by simp),dif_neg (by omega),dif_pos (by simp only[List.length_cons];omega)]
     simp
   · rw[if_neg (by simpa using fun q:(k:Int)=m=>e q.symm)]
     by_cases h:((k+1:Nat):Int)≤m∧m<((k+1:Nat):Int)+l.length
     · rw[dif_pos h,dif_pos (by simp only[List.length_cons];omega),show (m - (k:Int)).toNat=(m - ((k+1:Nat):Int)).toNat+1 by omega]
       simp
     · rw[dif_neg h,dif_neg (by simp only[List.length_cons];omega)]
theorem pI_ (p:List Pc) (t:Thg):kU_ p (lat (ex_ 0 p) t) t:=by
 constructor
 ·intro m hm
  have h:=List.count_pos_iff.2 hm
  rw[iz_]at h
  by_cases hh:((0:Nat):Int)≤m∧m<((0:Nat):Int)+p.length
  ·omega
  rw[dif_neg hh]at h;omega
 intro i x hx
 have hl:=(List.getElem?_eq_some_iff.1 hx).1
 rw[iz_,dif_pos (by omega),show ((i:Int) - ((0:Nat):Int)).toNat=i by omega,hx]
 rfl
theorem kV_:∀ (l:List Pc) (k:Nat),(ex_ k l).length≤2*l.length
  | [],_=>by simp[ex_]
  | x::l,k=>by
    have h1:=kV_ l (k+1)
    have h2:=hg_ x
    simp only[ex_,List.length_append,List.length_map,List.length_cons];omega
def StK (tk tw te:TypeId) (b4 b8 kb:Nat) (K W:List Thg) (H:Hp):Prop:=∃ es c sv Hw,H=(b4,.cells #[.map (some kb)] tk (0,0))::(b8,.cells #[sv] tw (0,0))::(kb,.map es c)::Hw∧SetE Thg.val es K∧Born es c∧aN_ te 2 sv W.length (W.flatMap Thg.cells) Hw
def tK_ (p:List Pc):List Int:=p.map fun x=>((af_ x).length:Int)
theorem mG_ {p:List Pc} {i:Nat} {x:Pc} (h:p[i]? = some x):tK_ (p.take (i+1))=tK_ (p.take i)++[((af_ x).length:Int)]:=by
  unfold tK_;rw[take_snoc h,List.map_append];rfl
theorem vo_ (n:Nat):¬ (n:Int)∈iot n:=fun h=>by
  obtain⟨k,hk⟩:=List.getElem?_of_mem h
  have e:=vq_ hk
  have hl:=(List.getElem?_eq_some_iff.1 hk).1
  rw[vp_]at hl
  omega
theorem qv_ {n i:Nat} (h:i<n):(iot n)[i]? = some (i:Int):=by
  unfold iot;rw[List.getElem?_map,List.getElem?_range h];rfl
end Go.Vs
namespace Go.Vs
open Go Go.Sx
def nm_ (p:List Pc) (K:List Thg):List Thg:=(p.filter fun x=>decide (∀ u∈af_ x,u∈K)).flatMap Y_
def ku_ (p:List Pc):Nat→List Thg→List Thg
  | 0,K=>K
  | n+1,K=>ku_ p n (K++bs_ K (nm_ p K))
def pS_ (p:List Pc) (S:List Str):List Thg:=ku_ p (2*p.length+S.length+3) (bs_ [] (do_ S))
theorem ts_ {p:List Pc} {S:List Str} {K:List Thg} (h:∀ t∈K,Rch p S t):∀ t∈nm_ p K,Rch p S t:=fun t ht=>by
  obtain⟨x,hx,hg⟩:=List.mem_flatMap.1 ht
  obtain⟨h1,h2⟩:=List.mem_filter.1 hx
  exact .give h1 (fun u hu=>h u (of_decide_eq_true h2 u hu)) hg
theorem rc_ {p:List Pc} {S:List Str}:∀ (n:Nat) (K:List Thg),KW p S K K→KW p S (ku_ p n K) (ku_ p n K)
  | 0,K,h=>h
  | n+1,K,h=>rc_ n _ (h.ext (ts_ h.snd))
theorem oC_ {p:List Pc}:∀ (n:Nat) (K:List Thg),∀ t∈K,t∈ku_ p n K
  | 0,K,t,h=>h
  | n+1,K,t,h=>oC_ n _ t (List.mem_append_left _ h)
theorem oE_ {p:List Pc}:∀ (n:Nat) (K:List Thg),bs_ K (nm_ p K)=[]→ku_ p n K=K
  | 0,K,h=>rfl
  | n+1,K,h=>by rw[ku_,h,List.append_nil];exact oE_ n K h
theorem oD_ {p:List Pc}:∀ (n:Nat) (K:List Thg),bs_ (ku_ p n K) (nm_ p (ku_ p n K))=[]∨K.length+n≤(ku_ p n K).length
 | 0,K=>.inr (by simp[ku_])
 | n+1,K=>by
   by_cases h:bs_ K (nm_ p K)=[]
   · rw[oE_ (n+1) K h];exact .inl h
   · rw[ku_]
     rcases oD_ n (K++bs_ K (nm_ p K)) with q|q
     · exact .inl q
     · refine .inr ?_
       have:=List.length_pos_iff.2 h
       rw[List.length_append]at q
       omega
theorem oF_ (p:List Pc) (S:List Str) (t:Thg):t∈pS_ p S↔Rch p S t:=by
 have hk:=rc_ (2*p.length+S.length+3) _ (nS_ p S)
 have hfix:bs_ (pS_ p S) (nm_ p (pS_ p S))=[]:=by
   rcases oD_ (2*p.length+S.length+3) (bs_ [] (do_ S)) (p:=p) with h|h
   · exact h
   · have h1:=hk.len
     have h2:=fl_ p S
     omega
 refine⟨hk.snd t,fun h=>?_⟩
 induction h with
 | base hb=>exact oC_ _ _ _ (pz_ S _ hb)
 | @give x t hx hn hg ih =>
   have hm:t∈nm_ p (pS_ p S):=List.mem_flatMap.2 ⟨x,List.mem_filter.2 ⟨hx,decide_eq_true ih⟩,hg⟩
   have:=(ge_ (nm_ p (pS_ p S)) (pS_ p S) t).2 (.inr hm)
   rw[hfix,List.append_nil]at this
   exact this
def usbB (p:List Pc) (S:List Str) (x:Pc):Bool:=(af_ x).all fun u=>decide (u∈pS_ p S)
theorem ol_ (p:List Pc) (S:List Str) (x:Pc):usbB p S x=true↔Usb p S x:=by
 unfold usbB Usb
 rw[List.all_eq_true]
 constructor
 ·intro h u hu;exact (oF_ p S u).1 (of_decide_eq_true (h u hu))
 intro h u hu;exact decide_eq_true ((oF_ p S u).2 (h u hu))
end Go.Vs
namespace Go.Proofs.YtamklbgaipakfaaGreatDoor
open Go Go.Sx Go.Proofs
attribute [local irreducible] Code.wp wpList wpAnyH
open Go.Vs
theorem cY_:io_ Tryz.prog 83 [(0,1),(1,1)] [.int .i64 0,str []]:=⟨_,aH_,cP_,fun w=>by simp[as_,K_]⟩
theorem vf_ (x:Pc):Tri Tryz.prog 88 #[Pc.val x] [] [] (fun y:{y:Option Addr×Nat // ((af_ x)).length≤y.2∧y.2≤maxLen∧(y.1=none→y.2=0)}=>.slice y.1.1 ((af_ x)).length y.1.2) (fun _=>[]) (fun y=>[ah_ y.1.1 (((af_ x)).flatMap Thg.cells)]):=by
 refine l_ Tryz.func88 rfl rfl Tryz.ntmps88 rfl fun v0=>?_
 refine Zz 2 ?_
 refine O_ rfl rfl fun b1=>Zi 14 (fun hr1=>?_) fun hr1=>?_
 ·refine Zi 6 (fun hr2=>?_) fun hr2=>?_
  ·refine Zi 5 (fun hr3=>?_) fun hr3=>?_
   ·refine Zi 6 (fun hr4=>?_) fun hr4=>?_
    ·refine Zi 6 (fun hr5=>?_) fun hr5=>?_
     ·refine Zi 6 (fun hr6=>?_) fun hr6=>?_
      ·refine Zi 6 (fun hr7=>?_) fun hr7=>?_
       ·refine Zi 6 (fun hr8=>?_) fun hr8=>?_
        ·refine Zz 12 ?_
         have e0:af_ x=([]:List Thg):=by have p1:=eq_false hr1;have p2:=eq_false hr2;have p3:=eq_false hr3;have p4:=eq_false hr4;have p5:=eq_false hr5;have p6:=eq_false hr6;have p7:=eq_false hr7;have p8:=eq_false hr8;simp only[af_,p1,p2,p3,p4,p5,p6,p7,p8,if_true,if_false,decide_true,decide_false,Bool.and_true,Bool.and_false,Bool.true_and,Bool.false_and,Bool.or_true,Bool.or_false,Bool.true_or,Bool.false_or,Bool.not_true,Bool.not_false,ne_eq,not_true_eq_false,not_false_eq_true,true_and,and_true,false_and,and_false,true_or,or_true,false_or,or_false,ite_true,ite_false,Bool.false_eq_true]
         exact I_ eV_ ⟨(none,0),by rw[e0];simp[maxLen]⟩ (cb_ rfl (show _=Value.slice none (af_ x).length 0 from by rw[e0];rfl)) g_ (fun v _ h=>⟨(show (ah_ none ((af_ x).flatMap Thg.cells)).p v from by rw[e0];exact .inl rfl),trivial⟩)
        refine Zz 8 ?_
        refine d_ (u_ cY_ rfl rfl) rfl (C_ L_ aF_ aH_ rfl rfl rfl rfl rfl rfl fun b2=>?_)
        refine aj_ (List.flatMap Thg.cells [(Thg.mk 3 x.r)]) e_ rfl ?_
        refine Zz 4 ?_
        have e0:af_ x=[(Thg.mk 3 x.r)]:=by have p1:=eq_false hr1;have p2:=eq_false hr2;have p3:=eq_false hr3;have p4:=eq_false hr4;have p5:=eq_false hr5;have p6:=eq_false hr6;have p7:=eq_false hr7;have p8:=eq_true hr8;simp only[af_,p1,p2,p3,p4,p5,p6,p7,p8,if_true,if_false,decide_true,decide_false,Bool.and_true,Bool.and_false,Bool.true_and,Bool.false_and,Bool.or_true,Bool.or_false,Bool.true_or,Bool.false_or,Bool.not_true,Bool.not_false,ne_eq,not_true_eq_false,not_false_eq_true,true_and,and_true,false_and,and_false,true_or,or_true,false_or,or_false,ite_true,ite_false,Bool.false_eq_true]
        exact I_ eV_ ⟨((some ⟨b2,0,none⟩),1),by rw[e0];simp[maxLen]⟩ (cb_ rfl (show _=Value.slice (some ⟨b2,0,none⟩) (af_ x).length 1 from by rw[e0];rfl)) g_ (fun v _ h=>⟨(show (ah_ (some ⟨b2,0,none⟩) ((af_ x).flatMap Thg.cells)).p v from by rw[e0];exact h.1),trivial⟩)
       refine Zz 8 ?_
       refine d_ (u_ cY_ rfl rfl) rfl (Zz 2 ?_)
       refine d_ (u_ cY_ rfl rfl) rfl (C_ L_ aF_ aH_ rfl rfl rfl rfl rfl rfl fun b3=>?_)
       refine aj_ (List.flatMap Thg.cells [(Thg.mk 2 x.r),(Thg.mk 2 x.s)]) e_ rfl ?_
       refine Zz 4 ?_
       have e0:af_ x=[(Thg.mk 2 x.r),(Thg.mk 2 x.s)]:=by have p1:=eq_false hr1;have p2:=eq_false hr2;have p3:=eq_false hr3;have p4:=eq_false hr4;have p5:=eq_false hr5;have p6:=eq_false hr6;have p7:=eq_true hr7;simp only[af_,p1,p2,p3,p4,p5,p6,p7,if_true,if_false,decide_true,decide_false,Bool.and_true,Bool.and_false,Bool.true_and,Bool.false_and,Bool.or_true,Bool.or_false,Bool.true_or,Bool.false_or,Bool.not_true,Bool.not_false,ne_eq,not_true_eq_false,not_false_eq_true,true_and,and_true,false_and,and_false,true_or,or_true,false_or,or_false,ite_true,ite_false,Bool.false_eq_true]
       exact I_ eV_ ⟨((some ⟨b3,0,none⟩),2),by rw[e0];simp[maxLen]⟩ (cb_ rfl (show _=Value.slice (some ⟨b3,0,none⟩) (af_ x).length 2 from by rw[e0];rfl)) g_ (fun v _ h=>⟨(show (ah_ (some ⟨b3,0,none⟩) ((af_ x).flatMap Thg.cells)).p v from by rw[e0];exact h.1),trivial⟩)
      refine Zz 8 ?_
      refine d_ (u_ cY_ rfl rfl) rfl (C_ L_ aF_ aH_ rfl rfl rfl rfl rfl rfl fun b4=>?_)
      refine aj_ (List.flatMap Thg.cells [(Thg.mk 2 x.r)]) e_ rfl ?_
      refine Zz 4 ?_
      have e0:af_ x=[(Thg.mk 2 x.r)]:=by have p1:=eq_false hr1;have p2:=eq_false hr2;have p3:=eq_false hr3;have p4:=eq_false hr4;have p5:=eq_false hr5;have p6:=eq_true hr6;simp only[af_,p1,p2,p3,p4,p5,p6,if_true,if_false,decide_true,decide_false,Bool.and_true,Bool.and_false,Bool.true_and,Bool.false_and,Bool.or_true,Bool.or_false,Bool.true_or,Bool.false_or,Bool.not_true,Bool.not_false,ne_eq,not_true_eq_false,not_false_eq_true,true_and,and_true,false_and,and_false,true_or,or_true,false_or,or_false,ite_true,ite_false,Bool.false_eq_true]
      exact I_ eV_ ⟨((some ⟨b4,0,none⟩),1),by rw[e0];simp[maxLen]⟩ (cb_ rfl (show _=Value.slice (some ⟨b4,0,none⟩) (af_ x).length 1 from by rw[e0];rfl)) g_ (fun v _ h=>⟨(show (ah_ (some ⟨b4,0,none⟩) ((af_ x).flatMap Thg.cells)).p v from by rw[e0];exact h.1),trivial⟩)
     refine Zz 8 ?_
     refine d_ (u_ cY_ rfl rfl) rfl (Zz 2 ?_)
     refine d_ (u_ cY_ rfl rfl) rfl (C_ L_ aF_ aH_ rfl rfl rfl rfl rfl rfl fun b5=>?_)
     refine aj_ (List.flatMap Thg.cells [(Thg.mk 2 x.r),(Thg.mk 1 x.a)]) e_ rfl ?_
     refine Zz 4 ?_
     have e0:af_ x=[(Thg.mk 2 x.r),(Thg.mk 1 x.a)]:=by have p1:=eq_false hr1;have p2:=eq_false hr2;have p3:=eq_false hr3;have p4:=eq_false hr4;have p5:=eq_true hr5;simp only[af_,p1,p2,p3,p4,p5,if_true,if_false,decide_true,decide_false,Bool.and_true,Bool.and_false,Bool.true_and,Bool.false_and,Bool.or_true,Bool.or_false,Bool.true_or,Bool.false_or,Bool.not_true,Bool.not_false,ne_eq,not_true_eq_false,not_false_eq_true,true_and,and_true,false_and,and_false,true_or,or_true,false_or,or_false,ite_true,ite_false,Bool.false_eq_true]
     exact I_ eV_ ⟨((some ⟨b5,0,none⟩),2),by rw[e0];simp[maxLen]⟩ (cb_ rfl (show _=Value.slice (some ⟨b5,0,none⟩) (af_ x).length 2 from by rw[e0];rfl)) g_ (fun v _ h=>⟨(show (ah_ (some ⟨b5,0,none⟩) ((af_ x).flatMap Thg.cells)).p v from by rw[e0];exact h.1),trivial⟩)
    refine Zz 8 ?_
    refine d_ (u_ cY_ rfl rfl) rfl (Zz 2 ?_)
    refine d_ (u_ cY_ rfl rfl) rfl (C_ L_ aF_ aH_ rfl rfl rfl rfl rfl rfl fun b6=>?_)
    refine aj_ (List.flatMap Thg.cells [(Thg.mk 1 x.a),(Thg.mk 1 x.b)]) e_ rfl ?_
    refine Zz 4 ?_
    have e0:af_ x=[(Thg.mk 1 x.a),(Thg.mk 1 x.b)]:=by have p1:=eq_false hr1;have p2:=eq_false hr2;have p3:=eq_false hr3;have p4:=eq_true hr4;simp only[af_,p1,p2,p3,p4,if_true,if_false,decide_true,decide_false,Bool.and_true,Bool.and_false,Bool.true_and,Bool.false_and,Bool.or_true,Bool.or_false,Bool.true_or,Bool.false_or,Bool.not_true,Bool.not_false,ne_eq,not_true_eq_false,not_false_eq_true,true_and,and_true,false_and,and_false,true_or,or_true,false_or,or_false,ite_true,ite_false,Bool.false_eq_true]
    exact I_ eV_ ⟨((some ⟨b6,0,none⟩),2),by rw[e0];simp[maxLen]⟩ (cb_ rfl (show _=Value.slice (some ⟨b6,0,none⟩) (af_ x).length 2 from by rw[e0];rfl)) g_ (fun v _ h=>⟨(show (ah_ (some ⟨b6,0,none⟩) ((af_ x).flatMap Thg.cells)).p v from by rw[e0];exact h.1),trivial⟩)
   refine Zz 8 ?_
   refine d_ (u_ cY_ rfl rfl) rfl (C_ L_ aF_ aH_ rfl rfl rfl rfl rfl rfl fun b7=>?_)
   refine aj_ (List.flatMap Thg.cells [(Thg.mk 1 x.a)]) e_ rfl ?_
   refine Zz 4 ?_
   have e0:af_ x=[(Thg.mk 1 x.a)]:=by have p1:=eq_false hr1;have p2:=eq_false hr2;have p3:=eq_true hr3;simp only[af_,p1,p2,p3,if_true,if_false,decide_true,decide_false,Bool.and_true,Bool.and_false,Bool.true_and,Bool.false_and,Bool.or_true,Bool.or_false,Bool.true_or,Bool.false_or,Bool.not_true,Bool.not_false,ne_eq,not_true_eq_false,not_false_eq_true,true_and,and_true,false_and,and_false,true_or,or_true,false_or,or_false,ite_true,ite_false,Bool.false_eq_true]
   exact I_ eV_ ⟨((some ⟨b7,0,none⟩),1),by rw[e0];simp[maxLen]⟩ (cb_ rfl (show _=Value.slice (some ⟨b7,0,none⟩) (af_ x).length 1 from by rw[e0];rfl)) g_ (fun v _ h=>⟨(show (ah_ (some ⟨b7,0,none⟩) ((af_ x).flatMap Thg.cells)).p v from by rw[e0];exact h.1),trivial⟩)
  refine Zz 11 ?_
  refine d_ (u_ cY_ rfl rfl) rfl (C_ L_ aF_ aH_ rfl rfl rfl rfl rfl rfl fun b8=>?_)
  refine aj_ (List.flatMap Thg.cells [(Thg.mk 1 x.a)]) e_ rfl ?_
  refine Zz 4 ?_
  have e0:af_ x=[(Thg.mk 1 x.a)]:=by have p1:=eq_false hr1;have p2:=eq_true hr2;simp only[af_,p1,p2,if_true,if_false,decide_true,decide_false,Bool.and_true,Bool.and_false,Bool.true_and,Bool.false_and,Bool.or_true,Bool.or_false,Bool.true_or,Bool.false_or,Bool.not_true,Bool.not_false,ne_eq,not_true_eq_false,not_false_eq_true,true_and,and_true,false_and,and_false,true_or,or_true,false_or,or_false,ite_true,ite_false,Bool.false_eq_true]
  exact I_ eV_ ⟨((some ⟨b8,0,none⟩),1),by rw[e0];simp[maxLen]⟩ (cb_ rfl (show _=Value.slice (some ⟨b8,0,none⟩) (af_ x).length 1 from by rw[e0];rfl)) g_ (fun v _ h=>⟨(show (ah_ (some ⟨b8,0,none⟩) ((af_ x).flatMap Thg.cells)).p v from by rw[e0];exact h.1),trivial⟩)
 refine Zz 11 ?_
 refine d_ (u_ cY_ rfl rfl) rfl (C_ L_ aF_ aH_ rfl rfl rfl rfl rfl rfl fun b9=>?_)
 refine aj_ (List.flatMap Thg.cells [(Thg.mk 1 x.a)]) e_ rfl ?_
 refine Zz 4 ?_
 have e0:af_ x=[(Thg.mk 1 x.a)]:=by have p1:=eq_true hr1;simp only[af_,p1,if_true,if_false,decide_true,decide_false,Bool.and_true,Bool.and_false,Bool.true_and,Bool.false_and,Bool.or_true,Bool.or_false,Bool.true_or,Bool.false_or,Bool.not_true,Bool.not_false,ne_eq,not_true_eq_false,not_false_eq_true,true_and,and_true,false_and,and_false,true_or,or_true,false_or,or_false,ite_true,ite_false,Bool.false_eq_true]
 exact I_ eV_ ⟨((some ⟨b9,0,none⟩),1),by rw[e0];simp[maxLen]⟩ (cb_ rfl (show _=Value.slice (some ⟨b9,0,none⟩) (af_ x).length 1 from by rw[e0];rfl)) g_ (fun v _ h=>⟨(show (ah_ (some ⟨b9,0,none⟩) ((af_ x).flatMap Thg.cells)).p v from by rw[e0];exact h.1),trivial⟩)
theorem vt_ (x:Pc):Tri Tryz.prog 87 #[Pc.val x] [] [] (fun y:{y:Option Addr×Nat // ((Y_ x)).length≤y.2∧y.2≤maxLen∧(y.1=none→y.2=0)}=>.slice y.1.1 ((Y_ x)).length y.1.2) (fun _=>[]) (fun y=>[ah_ y.1.1 (((Y_ x)).flatMap Thg.cells)]):=by
 refine l_ Tryz.func87 rfl rfl Tryz.ntmps87 rfl fun v0=>?_
 refine Zz 2 ?_
 refine O_ rfl rfl fun b1=>Zi 14 (fun hr1=>?_) fun hr1=>?_
 ·refine Zi 6 (fun hr2=>?_) fun hr2=>?_
  ·refine Zi 6 (fun hr3=>?_) fun hr3=>?_
   ·refine Zi 5 (fun hr4=>?_) fun hr4=>?_
    ·refine Zi 6 (fun hr5=>?_) fun hr5=>?_
     ·refine Zi 7 (fun hr6=>?_) fun hr6=>?_
      ·refine Zi 5 (fun hr7=>?_) fun hr7=>?_
       ·refine Zi 6 (fun hr8=>?_) fun hr8=>?_
        ·refine Zi 6 (fun hr9=>?_) fun hr9=>?_
         ·refine Zz 12 ?_
          have e0:Y_ x=([]:List Thg):=by have p1:=eq_false hr1;have p2:=eq_false hr2;have p3:=eq_false hr3;have p4:=eq_false hr4;have p5:=eq_false hr5;have p6:=eq_false hr6;have p7:=eq_false hr7;have p8:=eq_false hr8;have p9:=eq_false hr9;simp only[Y_,p1,p2,p3,p4,p5,p6,p7,p8,p9,if_true,if_false,decide_true,decide_false,Bool.and_true,Bool.and_false,Bool.true_and,Bool.false_and,Bool.or_true,Bool.or_false,Bool.true_or,Bool.false_or,Bool.not_true,Bool.not_false,ne_eq,not_true_eq_false,not_false_eq_true,true_and,and_true,false_and,and_false,true_or,or_true,false_or,or_false,ite_true,ite_false,Bool.false_eq_true]
          exact I_ em_ ⟨(none,0),by rw[e0];simp[maxLen]⟩ (cb_ rfl (show _=Value.slice none (Y_ x).length 0 from by rw[e0];rfl)) g_ (fun v _ h=>⟨(show (ah_ none ((Y_ x).flatMap Thg.cells)).p v from by rw[e0];exact .inl rfl),trivial⟩)
         refine Zz 8 ?_
         refine d_ (u_ cY_ rfl rfl) rfl (C_ L_ aF_ aH_ rfl rfl rfl rfl rfl rfl fun b2=>?_)
         refine aj_ (List.flatMap Thg.cells [(Thg.mk 3 x.r)]) e_ rfl ?_
         refine Zz 4 ?_
         have e0:Y_ x=[(Thg.mk 3 x.r)]:=by have p1:=eq_false hr1;have p2:=eq_false hr2;have p3:=eq_false hr3;have p4:=eq_false hr4;have p5:=eq_false hr5;have p6:=eq_false hr6;have p7:=eq_false hr7;have p8:=eq_false hr8;have p9:=eq_true hr9;simp only[Y_,p1,p2,p3,p4,p5,p6,p7,p8,p9,if_true,if_false,decide_true,decide_false,Bool.and_true,Bool.and_false,Bool.true_and,Bool.false_and,Bool.or_true,Bool.or_false,Bool.true_or,Bool.false_or,Bool.not_true,Bool.not_false,ne_eq,not_true_eq_false,not_false_eq_true,true_and,and_true,false_and,and_false,true_or,or_true,false_or,or_false,ite_true,ite_false,Bool.false_eq_true]
         exact I_ em_ ⟨((some ⟨b2,0,none⟩),1),by rw[e0];simp[maxLen]⟩ (cb_ rfl (show _=Value.slice (some ⟨b2,0,none⟩) (Y_ x).length 1 from by rw[e0];rfl)) g_ (fun v _ h=>⟨(show (ah_ (some ⟨b2,0,none⟩) ((Y_ x).flatMap Thg.cells)).p v from by rw[e0];exact h.1),trivial⟩)
        refine Zz 8 ?_
        refine d_ (u_ cY_ rfl rfl) rfl (C_ L_ aF_ aH_ rfl rfl rfl rfl rfl rfl fun b3=>?_)
        refine aj_ (List.flatMap Thg.cells [(Thg.mk 2 x.r)]) e_ rfl ?_
        refine Zz 4 ?_
        have e0:Y_ x=[(Thg.mk 2 x.r)]:=by have p1:=eq_false hr1;have p2:=eq_false hr2;have p3:=eq_false hr3;have p4:=eq_false hr4;have p5:=eq_false hr5;have p6:=eq_false hr6;have p7:=eq_false hr7;have p8:=eq_true hr8;simp only[Y_,p1,p2,p3,p4,p5,p6,p7,p8,if_true,if_false,decide_true,decide_false,Bool.and_true,Bool.and_false,Bool.true_and,Bool.false_and,Bool.or_true,Bool.or_false,Bool.true_or,Bool.false_or,Bool.not_true,Bool.not_false,ne_eq,not_true_eq_false,not_false_eq_true,true_and,and_true,false_and,and_false,true_or,or_true,false_or,or_false,ite_true,ite_false,Bool.false_eq_true]
        exact I_ em_ ⟨((some ⟨b3,0,none⟩),1),by rw[e0];simp[maxLen]⟩ (cb_ rfl (show _=Value.slice (some ⟨b3,0,none⟩) (Y_ x).length 1 from by rw[e0];rfl)) g_ (fun v _ h=>⟨(show (ah_ (some ⟨b3,0,none⟩) ((Y_ x).flatMap Thg.cells)).p v from by rw[e0];exact h.1),trivial⟩)
       refine Zz 8 ?_
       refine d_ (u_ cY_ rfl rfl) rfl (C_ L_ aF_ aH_ rfl rfl rfl rfl rfl rfl fun b4=>?_)
       refine aj_ (List.flatMap Thg.cells [(Thg.mk 2 x.t)]) e_ rfl ?_
       refine Zz 4 ?_
       have e0:Y_ x=[(Thg.mk 2 x.t)]:=by have p1:=eq_false hr1;have p2:=eq_false hr2;have p3:=eq_false hr3;have p4:=eq_false hr4;have p5:=eq_false hr5;have p6:=eq_false hr6;have p7:=eq_true hr7;simp only[Y_,p1,p2,p3,p4,p5,p6,p7,if_true,if_false,decide_true,decide_false,Bool.and_true,Bool.and_false,Bool.true_and,Bool.false_and,Bool.or_true,Bool.or_false,Bool.true_or,Bool.false_or,Bool.not_true,Bool.not_false,ne_eq,not_true_eq_false,not_false_eq_true,true_and,and_true,false_and,and_false,true_or,or_true,false_or,or_false,ite_true,ite_false,Bool.false_eq_true]
       exact I_ em_ ⟨((some ⟨b4,0,none⟩),1),by rw[e0];simp[maxLen]⟩ (cb_ rfl (show _=Value.slice (some ⟨b4,0,none⟩) (Y_ x).length 1 from by rw[e0];rfl)) g_ (fun v _ h=>⟨(show (ah_ (some ⟨b4,0,none⟩) ((Y_ x).flatMap Thg.cells)).p v from by rw[e0];exact h.1),trivial⟩)
      refine Zz 11 ?_
      refine d_ (u_ cY_ rfl rfl) rfl (C_ L_ aF_ aH_ rfl rfl rfl rfl rfl rfl fun b5=>?_)
      refine aj_ (List.flatMap Thg.cells [(Thg.mk 2 x.t)]) e_ rfl ?_
      refine Zz 4 ?_
      have e0:Y_ x=[(Thg.mk 2 x.t)]:=by have p1:=eq_false hr1;have p2:=eq_false hr2;have p3:=eq_false hr3;have p4:=eq_false hr4;have p5:=eq_false hr5;have p6:=eq_true hr6;simp only[Y_,p1,p2,p3,p4,p5,p6,if_true,if_false,decide_true,decide_false,Bool.and_true,Bool.and_false,Bool.true_and,Bool.false_and,Bool.or_true,Bool.or_false,Bool.true_or,Bool.false_or,Bool.not_true,Bool.not_false,ne_eq,not_true_eq_false,not_false_eq_true,true_and,and_true,false_and,and_false,true_or,or_true,false_or,or_false,ite_true,ite_false,Bool.false_eq_true]
      exact I_ em_ ⟨((some ⟨b5,0,none⟩),1),by rw[e0];simp[maxLen]⟩ (cb_ rfl (show _=Value.slice (some ⟨b5,0,none⟩) (Y_ x).length 1 from by rw[e0];rfl)) g_ (fun v _ h=>⟨(show (ah_ (some ⟨b5,0,none⟩) ((Y_ x).flatMap Thg.cells)).p v from by rw[e0];exact h.1),trivial⟩)
     refine Zz 8 ?_
     refine d_ (u_ cY_ rfl rfl) rfl (Zz 2 ?_)
     refine d_ (u_ cY_ rfl rfl) rfl (C_ L_ aF_ aH_ rfl rfl rfl rfl rfl rfl fun b6=>?_)
     refine aj_ (List.flatMap Thg.cells [(Thg.mk 2 x.r),(Thg.mk 1 x.c)]) e_ rfl ?_
     refine Zz 4 ?_
     have e0:Y_ x=[(Thg.mk 2 x.r),(Thg.mk 1 x.c)]:=by have p1:=eq_false hr1;have p2:=eq_false hr2;have p3:=eq_false hr3;have p4:=eq_false hr4;have p5:=eq_true hr5;simp only[Y_,p1,p2,p3,p4,p5,if_true,if_false,decide_true,decide_false,Bool.and_true,Bool.and_false,Bool.true_and,Bool.false_and,Bool.or_true,Bool.or_false,Bool.true_or,Bool.false_or,Bool.not_true,Bool.not_false,ne_eq,not_true_eq_false,not_false_eq_true,true_and,and_true,false_and,and_false,true_or,or_true,false_or,or_false,ite_true,ite_false,Bool.false_eq_true]
     exact I_ em_ ⟨((some ⟨b6,0,none⟩),2),by rw[e0];simp[maxLen]⟩ (cb_ rfl (show _=Value.slice (some ⟨b6,0,none⟩) (Y_ x).length 2 from by rw[e0];rfl)) g_ (fun v _ h=>⟨(show (ah_ (some ⟨b6,0,none⟩) ((Y_ x).flatMap Thg.cells)).p v from by rw[e0];exact h.1),trivial⟩)
    refine Zz 8 ?_
    refine d_ (u_ cY_ rfl rfl) rfl (C_ L_ aF_ aH_ rfl rfl rfl rfl rfl rfl fun b7=>?_)
    refine aj_ (List.flatMap Thg.cells [(Thg.mk 1 x.c)]) e_ rfl ?_
    refine Zz 4 ?_
    have e0:Y_ x=[(Thg.mk 1 x.c)]:=by have p1:=eq_false hr1;have p2:=eq_false hr2;have p3:=eq_false hr3;have p4:=eq_true hr4;simp only[Y_,p1,p2,p3,p4,if_true,if_false,decide_true,decide_false,Bool.and_true,Bool.and_false,Bool.true_and,Bool.false_and,Bool.or_true,Bool.or_false,Bool.true_or,Bool.false_or,Bool.not_true,Bool.not_false,ne_eq,not_true_eq_false,not_false_eq_true,true_and,and_true,false_and,and_false,true_or,or_true,false_or,or_false,ite_true,ite_false,Bool.false_eq_true]
    exact I_ em_ ⟨((some ⟨b7,0,none⟩),1),by rw[e0];simp[maxLen]⟩ (cb_ rfl (show _=Value.slice (some ⟨b7,0,none⟩) (Y_ x).length 1 from by rw[e0];rfl)) g_ (fun v _ h=>⟨(show (ah_ (some ⟨b7,0,none⟩) ((Y_ x).flatMap Thg.cells)).p v from by rw[e0];exact h.1),trivial⟩)
   refine Zz 11 ?_
   refine d_ (u_ cY_ rfl rfl) rfl (C_ L_ aF_ aH_ rfl rfl rfl rfl rfl rfl fun b8=>?_)
   refine aj_ (List.flatMap Thg.cells [(Thg.mk 1 x.c)]) e_ rfl ?_
   refine Zz 4 ?_
   have e0:Y_ x=[(Thg.mk 1 x.c)]:=by have p1:=eq_false hr1;have p2:=eq_false hr2;have p3:=eq_true hr3;simp only[Y_,p1,p2,p3,if_true,if_false,decide_true,decide_false,Bool.and_true,Bool.and_false,Bool.true_and,Bool.false_and,Bool.or_true,Bool.or_false,Bool.true_or,Bool.false_or,Bool.not_true,Bool.not_false,ne_eq,not_true_eq_false,not_false_eq_true,true_and,and_true,false_and,and_false,true_or,or_true,false_or,or_false,ite_true,ite_false,Bool.false_eq_true]
   exact I_ em_ ⟨((some ⟨b8,0,none⟩),1),by rw[e0];simp[maxLen]⟩ (cb_ rfl (show _=Value.slice (some ⟨b8,0,none⟩) (Y_ x).length 1 from by rw[e0];rfl)) g_ (fun v _ h=>⟨(show (ah_ (some ⟨b8,0,none⟩) ((Y_ x).flatMap Thg.cells)).p v from by rw[e0];exact h.1),trivial⟩)
  refine Zz 11 ?_
  refine d_ (u_ cY_ rfl rfl) rfl (C_ L_ aF_ aH_ rfl rfl rfl rfl rfl rfl fun b9=>?_)
  refine aj_ (List.flatMap Thg.cells [(Thg.mk 1 x.c)]) e_ rfl ?_
  refine Zz 4 ?_
  have e0:Y_ x=[(Thg.mk 1 x.c)]:=by have p1:=eq_false hr1;have p2:=eq_true hr2;simp only[Y_,p1,p2,if_true,if_false,decide_true,decide_false,Bool.and_true,Bool.and_false,Bool.true_and,Bool.false_and,Bool.or_true,Bool.or_false,Bool.true_or,Bool.false_or,Bool.not_true,Bool.not_false,ne_eq,not_true_eq_false,not_false_eq_true,true_and,and_true,false_and,and_false,true_or,or_true,false_or,or_false,ite_true,ite_false,Bool.false_eq_true]
  exact I_ em_ ⟨((some ⟨b9,0,none⟩),1),by rw[e0];simp[maxLen]⟩ (cb_ rfl (show _=Value.slice (some ⟨b9,0,none⟩) (Y_ x).length 1 from by rw[e0];rfl)) g_ (fun v _ h=>⟨(show (ah_ (some ⟨b9,0,none⟩) ((Y_ x).flatMap Thg.cells)).p v from by rw[e0];exact h.1),trivial⟩)
 refine Zz 11 ?_
 refine d_ (u_ cY_ rfl rfl) rfl (C_ L_ aF_ aH_ rfl rfl rfl rfl rfl rfl fun b10=>?_)
 refine aj_ (List.flatMap Thg.cells [(Thg.mk 1 x.c)]) e_ rfl ?_
 refine Zz 4 ?_
 have e0:Y_ x=[(Thg.mk 1 x.c)]:=by have p1:=eq_true hr1;simp only[Y_,p1,if_true,if_false,decide_true,decide_false,Bool.and_true,Bool.and_false,Bool.true_and,Bool.false_and,Bool.or_true,Bool.or_false,Bool.true_or,Bool.false_or,Bool.not_true,Bool.not_false,ne_eq,not_true_eq_false,not_false_eq_true,true_and,and_true,false_and,and_false,true_or,or_true,false_or,or_false,ite_true,ite_false,Bool.false_eq_true]
 exact I_ em_ ⟨((some ⟨b10,0,none⟩),1),by rw[e0];simp[maxLen]⟩ (cb_ rfl (show _=Value.slice (some ⟨b10,0,none⟩) (Y_ x).length 1 from by rw[e0];rfl)) g_ (fun v _ h=>⟨(show (ah_ (some ⟨b10,0,none⟩) ((Y_ x).flatMap Thg.cells)).p v from by rw[e0];exact h.1),trivial⟩)
theorem eqTh (p q:Thg) (w:World):(Op.equalIn 10000 83 (Thg.val p) (Thg.val q)).run Tryz.prog w=.ok (decide (p=q)) w:=by
  have h:=run_equalIn_struct (P:=Tryz.prog) w 9999 83 (Thg.cells p).toArray (Thg.cells q).toArray (by simp only[Program.fieldsOf,Tryz.underlying83]) Tryz.stoodInHeld83
  refine h.trans ?_
  rw[← Thg.eqb_eq]
  simp only[Program.fieldsOf,Tryz.underlying83]
  exact bJ_ rfl bd_ rfl rfl (eqI z_ w) (bJ_ rfl aq_ rfl rfl (eqS aS_ w) (jr_ w))
theorem okTh (p:Thg):hV_ Tryz.prog 83 (Thg.val p):=fun e w=>by
 have hi:∀ (n:Int) (w:World),(Instr.checkKey e (9998+1) 3 (.int .i64 n)).run Tryz.prog w=.ok () w:=fun n w=>MapKept.run_checkKey (d:=.int .i64) z_ (by simp[MapKept.IsKey]) e 9998
 have hs:∀ (n:Str) (w:World),(Instr.checkKey e (9998+1) 9 (str n)).run Tryz.prog w=.ok () w:=fun n w=>MapKept.run_checkKey (d:=.string) aS_ (by simp[MapKept.IsKey,str]) e 9998
 refine ckF (n:=9999) Tryz.underlying83 fun f hf=>?_
 simp only[List.mem_cons,List.not_mem_nil,or_false]at hf
 rcases hf with rfl|rfl
 ·exact⟨rfl,bd_,_,rfl,hi _⟩
 exact⟨rfl,aq_,_,rfl,hs _⟩
theorem pb_:KeyT Tryz.prog 83 Thg.val:=fz_ (K:=Thg) Tryz.underlying83 okTh (fun p q w=>eqTh p q w) fun k=>hE_ (l:=Thg.cells k) fun v hv=>by
 simp only[Thg.cells,List.mem_cons,List.not_mem_nil,or_false]at hv
 rcases hv with rfl|rfl
 ·exact ey_ _ _
 exact dv_ _ _
theorem vz_:Elt Tryz.prog 139 83 2 24:=hP_ Tryz.underlying139 (z:=.agg #[.int .i64 0,str []]) (by kernel_rfl) rfl (by decide)
theorem Thg.cells_one (x:Thg):x.cells.all Value.oneCell'=true:=rfl
theorem rq_:Elt Tryz.prog 27 3 1 8:=hP_ Tryz.underlying27 (z:=.int .i64 0) (by kernel_rfl) rfl (by decide)
theorem qp_:KeyT Tryz.prog 3 (fun n:Int=>.int .i64 n):=tP_ z_
theorem add_c (t:Thg) (K W:List Thg) (b4 b8 kb:Nat) (es:Array MapEntry) (c:Nat) (sv:Value) (Hw:Hp) (hE:SetE Thg.val es K) (hB:Born es c) (hr:aN_ 83 2 sv W.length (W.flatMap Thg.cells) Hw) (hl:W.length≤1000000000):Tri Tryz.prog 85 #[Thg.val t,zp_ b4 0,zp_ b8 0] ((b4,.cells #[.map (some kb)] 78 (0,0))::(b8,.cells #[sv] 139 (0,0))::(kb,.map es c)::Hw) [] (fun _:{H:Hp // StK 78 139 83 b4 b8 kb (K++bs_ K [t]) (W++bs_ K [t]) H}=>.tuple #[]) (fun y=>y.1) (fun _=>[]):=by
 refine l_ Tryz.func85 rfl rfl Tryz.ntmps85 rfl fun v0=>?_
 refine Zz 2 ?_
 refine O_ rfl rfl fun b1=>Zz 6 ?_
 refine E_ (eg_ (k:=t) pb_ Tryz.runUnderlying78 cI_ rfl rfl hE (fun v h _=>(h.own _ (List.mem_of_getElem? (i:=3) rfl)).1)) rfl fun r1 hr1=>d_ (aT_ rfl) rfl (Zz 2 ?_)
 cases r1
 ·replace hr1:=zdf hr1
  refine Zz 5 ?_
  refine sj_ (k:=t) 3 pb_ (.inr rfl) Tryz.runUnderlying78 rfl rfl rfl rfl hE fun ej1 cj1 hj1 hbj1=>Zz 5 ?_
  refine C_ L_ aF_ aH_ rfl rfl rfl rfl rfl rfl fun b2=>?_
  refine aJ_ (news:=List.flatMap Thg.cells [t]) vz_ hr rfl rfl (c_ (c_ (c_ (c_ J_)))) rfl (bY_ 0 rfl) (fun u hu=>bn_ Thg.cells_one hu) (by simp only[maxLen];omega) (by omega) rfl fun sv1 Hr1 hr1=>?_
  refine D_ List.perm_append_comm ?_
  have hq1:=zsa hr1
  refine cz_ 3 hq1 Tryz.sizeOf139 rfl rfl rfl rfl (Zz 2 ?_)
  have q0:¬ t∈K:=by assumption
  have e0:bs_ K [t]=[t]:=by simp[bs_,q0]
  exact bQ_ Tryz.results85 ⟨_,ej1,cj1,sv1,Hr1,rfl,by rw[e0];rw[if_neg (by assumption)]at hj1;exact hj1,(hbj1 hB),by rw[e0];exact hq1⟩ rfl (o_ (c_ (c_ e_)) (o_ (c_ (c_ e_)) (o_ (c_ (c_ e_)) (c_ J_)))) zt
 replace hr1:=zdt hr1
 refine Zz 3 ?_
 have q0:t∈K:=by assumption
 have e0:bs_ K [t]=[]:=by simp[bs_,q0]
 exact bQ_ Tryz.results85 ⟨_,es,c,sv,Hw,rfl,by rw[e0,List.append_nil];exact hE,hB,by rw[e0,List.append_nil];exact hr⟩ rfl zp zt
theorem nV_ (t:Thg) (K W:List Thg) (b4 b8 kb:Nat) (Hs:Hp) (hS:StK 78 139 83 b4 b8 kb K W Hs) (hl:W.length≤1000000000):Tri Tryz.prog 85 #[t.val,zp_ b4 0,zp_ b8 0] Hs [] (fun _:{H:Hp // StK 78 139 83 b4 b8 kb (K++bs_ K [t]) (W++bs_ K [t]) H}=>.tuple #[]) (fun y=>y.1) (fun _=>[]):=by
  obtain⟨es,c,sv,Hw,rfl,hE,hB,hr⟩:=hS
  exact add_c t K W b4 b8 kb es c sv Hw hE hB hr hl
theorem vM_ (i:Nat) (x:Pc) (p:List Pc) (ad:Option Addr) (cap:Nat) (K W:List Thg) (U:List Bool) (b2 b4 b5 b8 b9 kb:Nat) (sv:Value) (Hu Hs:Hp) (hx:p[i]? = some x) (hp:p.length≤100000000) (hU:zR 4 1 hS_ sv U Hu) (hUl:U.length=p.length) (hS:StK 78 139 83 b4 b8 kb K W Hs) (hl:W.length≤900000000):Tri Tryz.prog 86 #[.int .i64 (i:Int),zp_ b5 0,zp_ b2 0,zp_ b9 0] ((b5,.cells #[sv] 79 (0,0))::(Hu++Hs)) [bb_ b2 (.cells #[.slice ad (List.length p) cap] 54 (0,0)),bb_ b9 (.cells #[.func (.func 85) #[] #[zp_ b4 0,zp_ b8 0]] 140 (0,0)),ah_ ad (List.flatMap Pc.cells p)] (fun _:{y:Hp×Hp // zR 4 1 hS_ sv (List.set U i true) y.1∧StK 78 139 83 b4 b8 kb (K++bs_ K (Y_ x)) (W++bs_ K (Y_ x)) y.2}=>.tuple #[]) (fun y=>(b5,.cells #[sv] 79 (0,0))::(y.1.1++y.1.2)) (fun _=>[]):=by
 refine l_ Tryz.func86 rfl rfl Tryz.ntmps86 rfl fun v0=>?_
 have hil:=(List.getElem?_eq_some_iff.1 hx).1
 obtain⟨u0,hu0⟩:∃ u0,U[i]? = some u0:=⟨_,List.getElem?_eq_getElem (by omega)⟩
 refine Zz 4 ?_
 refine d_ (ia_ hU Tryz.runUnderlying79 Tryz.sizeOf4 rfl rfl (by omega) (by omega)) rfl (sg_ (k:=(i:Int).toNat*1+0) hU zp Tryz.sizeOf4 rfl rfl (by omega) rfl rfl fun Hr1 hr1=>?_)
 have hs1:=(ub_ hS_ 1 mY_ U i 0 u0 true (.bool true) hu0 (by decide) rfl).trans (congrArg _ (rfl))
 have hq1:aN_ 4 1 sv (List.length (List.set U i true)) (List.flatMap hS_ (List.set U i true)) Hr1:=by rw[← hs1,show List.length (List.set U i true)=List.length U from (List.length_set ..)];exact hr1
 refine Zz 2 ?_
 refine D_ (bw_ (i_ e_)) (Zz 6 ?_)
 refine f_ (vt_ x) rfl g_ zt rfl fun⟨⟨gad,gcap⟩,gcl,gcm,gcz⟩=>?_
 dsimp only
 refine Zz 5 ?_
 refine ab_ (ι:={y:Nat×Hp // y.1≤List.length (Y_ x)∧StK 78 139 83 b4 b8 kb (K++bs_ K (List.take y.1 (Y_ x))) (W++bs_ K (List.take y.1 (Y_ x))) y.2}) (fun y=>[(3,zp_ b9 0),(14,.slice gad (List.length (Y_ x)) gcap),(15,.int .i64 (List.length (Y_ x):Int)),(16,.int .i64 (y.1.1:Int))]) (fun y=>((b5,.cells #[sv] 79 (0,0))::(Hr1++y.1.2))) (fun y=>[ah_ gad (List.flatMap Thg.cells (Y_ x)),bb_ b2 (.cells #[.slice ad (List.length p) cap] 54 (0,0)),bb_ b9 (.cells #[.func (.func 85) #[] #[zp_ b4 0,zp_ b8 0]] 140 (0,0)),ah_ ad (List.flatMap Pc.cells p)]) (fun y=>List.length (Y_ x) - y.1.1) ⟨((0:Nat),Hs),by simp,(by rw[List.take_zero];simpa [bs_] using hS)⟩ zl zp zh ?_
 rintro ⟨⟨j,Hs1⟩,hi_j,hS1⟩
 dsimp only at hi_j hS1 ⊢
 have hwl:=gO_ (List.take j (Y_ x)) K
 have htl:=List.length_take_le j (Y_ x)
 have hgl:=lE_ x
 refine Zi 2 (fun hr1=>?_) fun hr1=>?_
 ·refine Zz 6 ?_
  rw[List.take_of_length_le (by omega)]at hS1
  exact bQ_ Tryz.results86 ⟨(Hr1,Hs1),hq1,hS1⟩ rfl zp zt
 have hly1:j<List.length (Y_ x):=by omega
 obtain⟨y1,hy1⟩:∃ e0,(Y_ x)[j]? = some e0:=⟨_,List.getElem?_eq_getElem hly1⟩
 have hmy1:y1∈(Y_ x):=List.mem_of_getElem? hy1
 refine Zz 10 ?_
 refine d_ (M_ L_ aF_ rfl rfl (fun v _ h=>A_ (n:=2) Thg.cells_len (by decide) (by exact h.1) hy1) (by omega) (by first|omega|(simp;done))) rfl ?_
 refine d_ (Z_ (ad:=gad) (us:=Thg.cells y1) Tryz.isAgg83 aF_ rfl zf (Thg.cells_len _) (x_ Thg.cells_len hy1)) rfl (F_ aH_ rfl fun b1=>w_ 0 aF_ rfl rfl rfl rfl rfl rfl (Zz 5 ?_))
 refine Q_ (nV_ y1 (K++bs_ K (List.take j (Y_ x))) (W++bs_ K (List.take j (Y_ x))) b4 b8 kb Hs1 hS1 (by simp only[List.length_append];omega)) rfl rfl (c_ (c_ bM_)) zt rfl fun⟨HA1,hA1⟩=>?_
 dsimp only
 refine Zz 2 ?_
 refine D_ (az_ (i_ e_) (bw_ (i_ e_))) (Zz 5 ?_)
 exact B_ ⟨(j+1,HA1),hly1,(by rw[po_ hy1,po_ hy1];exact hA1)⟩ (by dsimp only;omega) zl zp zh
end Go.Proofs.YtamklbgaipakfaaGreatDoor
namespace Go.Proofs.YtamklbgaipakfaaGreatDoor
open Go Go.Sx Go.Proofs
attribute [local irreducible] Code.wp wpList wpAnyH
open Go.Vs
theorem uY_ {P:Program} {e:TypeId} {sz n:Nat} {sv:Value} {xs:List Value} {Hr:Hp} (hr:aN_ e sz sv (n+1) xs Hr):∃ sv',aN_ e sz sv' n (xs.take (n*sz)) Hr ∧
    ∀ {N:Nf} {fr:Fr} {H:Hp} {Γ:List Fct} {ty t:TypeId} {x y:Operand},(∀ w,(underlying t).run P w=.ok (.slice e) w)→(∀ w,(sizeOf e).run P w=.ok sz w)→Fr.ev fr x=some sv→Fr.ev fr y=some (.int .i64 (n:Int))→Yld P N fr H Γ (.slice t x none (some y) none) ty sv':=by
  obtain⟨hl,⟨_,h0,_⟩|⟨g,cap,cur,rfl,rfl,hn,hm,hc,hx⟩⟩:=hr
  · omega
  · refine⟨.slice (some ⟨g,0,none⟩) n cap,⟨?_,.inr ⟨g,cap,cur,rfl,rfl,by omega,hm,hc,?_⟩⟩,fun hu hs hx hy=>?_⟩
    · rw[List.length_take,hl,Nat.add_mul];omega
    · rw[← hx,List.take_take,Nat.min_eq_left (by rw[Nat.add_mul];omega)]
    · refine aV_ (eD_ (i:=0) (j:=n) (kl:=.i64) (kh:=.i64) hu hs hx rfl hy (Nat.zero_le _) (by omega)) ?_
      unfold sad
      rw[if_neg (by omega)]
      simp[dD_]
section
variable {P:Program} {N:Nf} {v0:Vw} {H0:Hp} {fr:Fr}
theorem km_:∀ (B:Hp) {v:Vw},an_ (B.map fun p=>bb_ p.1 p.2) v→∀ p∈B,v.im p.1∧v.w.heap[p.1]? = some p.2
 | [],_,_,_,h=>by simp at h
 | q::B,v,h,p,hp=>by
   rcases List.mem_cons.1 hp with rfl|hp
   · exact h.1
   · exact km_ B h.2 p hp
theorem sm_ {F H:Hp} {Γ:List Fct} {K D:Type} [DecidableEq K] {k:Act→World→Prop} {kv:K→Value} {cells:D→List Value} {kt e:TypeId} {sz mb:Nat} {l:List (K×D)} {Hm:Hp} (hK:KeyT P kt kv) (hm:dO_ kv cells e sz l mb Hm) (hH:H.Perm (Hm++F))
    (h:∀ adr,Ok N v0 H0 k fr F (mlF P kt kv cells mb l adr::Γ)):Ok N v0 H0 k fr H Γ:=by
  obtain⟨adr,ha⟩:=hm.lent hK
  refine ls_ Hm hH (lt_ (fun v _ hv=>?_) (h adr))
  rw[fe_]at hv
  refine⟨ha v fun p hp=>?_,hv.2⟩
  have:=hv.1
  exact km_ Hm.reverse (by rw[List.map_reverse]at *;exact this) p (List.mem_reverse.2 hp)
end
theorem uU_ {P:Program} {N:Nf} {fr:Fr} {H:Hp} {fn:Func} {t s b c:Nat} {ty ty2 T T2:TypeId} {u u2:Value} (i j:Nat) (hr:fn.results=#[.cell t ty,.cell s ty2]) (ha:∀ w,(isAgg ty).run P w=.ok false w) (ha2:∀ w,(isAgg ty2).run P w=.ok false w)
    (hx:Fr.get fr t=some (zp_ b 0)) (hx2:Fr.get fr s=some (zp_ c 0)) (hi:H[i]? = some (b,.cells #[u] T (0,0))) (hj:H[j]? = some (c,.cells #[u2] T2 (0,0))) (a:Act) (v:Vw) (h1:Fr.sat N fr a) (h2:v.sat H) :
    (results fn a.tmps).run P v.w=.ok (.tuple #[u,u2]) v.w:=by
  have e:=h1.val t _ hx
  have e2:=h1.val s _ hx2
  have hc:v.w.cell? ⟨b,0,none⟩=some u:=by rw[fa_ h2 hi];rfl
  have hc2:v.w.cell? ⟨c,0,none⟩=some u2:=by rw[fa_ h2 hj];rfl
  have hl:=ca_ (t:=ty) (w:=v.w) ha hc
  have hl2:=ca_ (t:=ty2) (w:=v.w) ha2 hc2
  simp[results,hr,e,e2,asAddr,hl,hl2]
theorem rb_ (p:List Pc) (ad:Option Addr) (cap:Nat) (S:List Str) (sad:Option Addr) (scap:Nat) (hp:p.length≤100000000) (hS:S.length≤100000000):Tri Tryz.prog 42 #[.slice ad (List.length p) cap,.slice sad (List.length S) scap] [] [ah_ ad (List.flatMap Pc.cells p),ah_ sad (List.flatMap ax_ S)] (fun y:{y:Nat×Array MapEntry×Nat×List Thg×Value×List Bool×Hp // SetE Thg.val y.2.1 y.2.2.2.1∧Born y.2.1 y.2.2.1∧zR 4 1 hS_ y.2.2.2.2.1 y.2.2.2.2.2.1 y.2.2.2.2.2.2∧ReachR p S y.2.2.2.1 y.2.2.2.2.2.1}=>.tuple #[.map (some y.1.1),y.1.2.2.2.2.1]) (fun y=>(y.1.1,.map y.1.2.1 y.1.2.2.1)::y.1.2.2.2.2.2.2) (fun _=>[]):=by
 refine l_ Tryz.func42 rfl rfl Tryz.ntmps42 rfl fun v0=>?_
 refine Zz 2 ?_
 refine O_ rfl rfl fun b1=>F_ Tryz.zeroValue78 rfl fun b2=>F_ Tryz.zeroValue79 rfl fun b3=>Zz 4 ?_
 refine bU_ rfl fun b4=>w_ 2 Tryz.sizeOf78 rfl rfl rfl rfl rfl rfl (Zz 6 ?_)
 refine oQ_ (n:=List.length p) (by':=1) Tryz.underlying79 (z:=(.bool false)) zk rfl (by decide) rfl rfl (by omega) (by simp only[maxLen];omega) rfl fun svU HrU hrU=>?_
 have hqU:aN_ 4 1 svU (List.length (List.replicate (List.length p) false)) (List.flatMap hS_ (List.replicate (List.length p) false)) HrU:=by rw[List.length_replicate,← nX_ hS_];exact hrU
 refine D_ (az_ (i_ e_) (az_ (i_ e_) (az_ (i_ e_) (bw_ bM_)))) (cz_ 1 hqU Tryz.sizeOf79 rfl rfl rfl rfl (Zz 4 ?_))
 refine bU_ rfl fun b5=>Zz 5 ?_
 refine bU_ rfl fun b6=>Zz 5 ?_
 refine F_ Tryz.zeroValue139 rfl fun b7=>Zz 4 ?_
 refine d_ (bN_ rfl rfl) rfl (F_ Tryz.zeroValue140 rfl fun b8=>w_ 0 Tryz.sizeOf140 rfl rfl rfl rfl rfl rfl (Zz 4 ?_))
 refine d_ (bN_ rfl rfl) rfl (Zz 4 ?_)
 refine er_ (bb_ b1 (.cells #[.slice ad (List.length p) cap] 54 (0,0))) (bw_ (c_ (c_ (c_ (c_ (c_ (c_ (c_ e_)))))))) (fun _ h1 h2 _=>⟨h1,h2⟩) ?_
 refine er_ (bb_ b8 (.cells #[.func (.func 85) #[] #[zp_ b2 0,zp_ b7 0]] 140 (0,0))) (bw_ e_) (fun _ h1 h2 _=>⟨h1,h2⟩) ?_
 refine Zz 2 ?_
 refine d_ (u_ cY_ rfl rfl) rfl (Q_ (nV_ (Thg.mk 1 [42]) ([]:List Thg) ([]:List Thg) b2 b7 b4 [(b2,.cells #[.map (some b4)] 78 (0,0)),(b7,.cells #[.slice none 0 0] 139 (0,0)),(b4,.map #[] 0)] ⟨#[],0,.slice none 0 0,[],rfl,SetE.nil,Born.nil 0,aN_.nil _ _⟩ (by first|(simp only[List.length_nil];omega)|(simp only[List.length_append,List.length_nil];have q:=gO_ [(Thg.mk 1 [42])] [];simp only[List.length_cons,List.length_nil]at q;omega))) rfl rfl (o_ (c_ (c_ (c_ (c_ (c_ e_))))) (o_ e_ (c_ (c_ e_)))) zt rfl fun⟨HA1,hA1⟩=>?_)
 dsimp only
 refine Zz 2 ?_
 refine D_ (az_ (i_ e_) (az_ (i_ e_) (bw_ (i_ e_)))) (Zz 3 ?_)
 refine d_ (u_ cY_ rfl rfl) rfl (Q_ (nV_ (Thg.mk 1 [33]) (([]:List Thg)++bs_ ([]:List Thg) [(Thg.mk 1 [42])]) (([]:List Thg)++bs_ ([]:List Thg) [(Thg.mk 1 [42])]) b2 b7 b4 HA1 hA1 (by first|(simp only[List.length_nil];omega)|(simp only[List.length_append,List.length_nil];have q:=gO_ [(Thg.mk 1 [42])] [];simp only[List.length_cons,List.length_nil]at q;omega))) rfl rfl (c_ (c_ (c_ n_))) zt rfl fun⟨HA2,hA2⟩=>?_)
 dsimp only
 refine Zz 3 ?_
 refine D_ (az_ (i_ e_) (az_ (i_ e_) (bw_ (i_ e_)))) (Zz 8 ?_)
 refine ab_ (ι:={y:Nat×List Thg×Hp // y.1≤List.length S∧y.2.1=bs_ [] (do_ (List.take y.1 S))∧StK 78 139 83 b2 b7 b4 y.2.1 y.2.1 y.2.2}) (fun y=>[(2,zp_ b1 0),(4,zp_ b2 0),(5,zp_ b3 0),(6,.map (some b5)),(7,.map (some b6)),(8,zp_ b7 0),(9,zp_ b8 0),(10,.func (.func 86) #[] #[zp_ b3 0,zp_ b1 0,zp_ b8 0]),(35,.slice sad (List.length S) scap),(36,.int .i64 (List.length S:Int)),(37,.int .i64 (y.1.1:Int))]) (fun y=>((b3,.cells #[svU] 79 (0,0))::(HrU++((b5,.map #[] 0)::((b6,.map #[] 0)::y.1.2.2))))) (fun y=>[bb_ b8 (.cells #[.func (.func 85) #[] #[zp_ b2 0,zp_ b7 0]] 140 (0,0)),bb_ b1 (.cells #[.slice ad (List.length p) cap] 54 (0,0)),ah_ ad (List.flatMap Pc.cells p),ah_ sad (List.flatMap ax_ S)]) (fun y=>List.length S - y.1.1) ⟨((0:Nat),((([]:List Thg)++bs_ ([]:List Thg) [(Thg.mk 1 [42])])++bs_ (([]:List Thg)++bs_ ([]:List Thg) [(Thg.mk 1 [42])]) [(Thg.mk 1 [33])]),HA2),by simp,(by rw[List.take_zero];exact sJ_.symm),hA2⟩ zl zp zh ?_
 rintro ⟨⟨k,K,Hs0⟩,hi_k,hK,hS0⟩
 dsimp only at hi_k hK hS0 ⊢
 refine D_ (az_ e_ (az_ (i_ e_) (bw_ (i_ e_)))) (Zi 2 (fun hr1=>?_) fun hr1=>?_)
 ·refine Zz 15 ?_
  have hKS:K=bs_ [] (do_ S):=by rw[hK,List.take_of_length_le (by omega)]
  refine ab_ (ι:={y:Nat×List Thg×List Bool×Hp×Array MapEntry×Nat×Hp×Hp // y.1≤List.length p∧RK p S y.1 y.2.1 y.2.2.1∧zR 4 1 hS_ svU y.2.2.1 y.2.2.2.1∧StK 78 139 83 b2 b7 b4 y.2.1 y.2.1 y.2.2.2.2.2.2.2∧IntE (fun n:Int=>.int .i64 n) y.2.2.2.2.1 (iot y.1) (tK_ (List.take y.1 p))∧dO_ Thg.val eJ_ 3 1 (ex_ 0 (List.take y.1 p)) b6 y.2.2.2.2.2.2.1}) (fun y=>[(2,zp_ b1 0),(4,zp_ b2 0),(5,zp_ b3 0),(6,.map (some b5)),(7,.map (some b6)),(8,zp_ b7 0),(9,zp_ b8 0),(10,.func (.func 86) #[] #[zp_ b3 0,zp_ b1 0,zp_ b8 0]),(35,.slice sad (List.length S) scap),(36,.int .i64 (List.length S:Int)),(37,.int .i64 (k:Int)),(46,.slice ad (List.length p) cap),(47,.int .i64 (List.length p:Int)),(48,.int .i64 (y.1.1:Int))]) (fun y=>((b3,.cells #[svU] 79 (0,0))::(y.1.2.2.2.1++((b5,.map y.1.2.2.2.2.1 y.1.2.2.2.2.2.1)::(y.1.2.2.2.2.2.2.1++y.1.2.2.2.2.2.2.2))))) (fun y=>[bb_ b8 (.cells #[.func (.func 85) #[] #[zp_ b2 0,zp_ b7 0]] 140 (0,0)),bb_ b1 (.cells #[.slice ad (List.length p) cap] 54 (0,0)),ah_ ad (List.flatMap Pc.cells p),ah_ sad (List.flatMap ax_ S)]) (fun y=>List.length p - y.1.1) ⟨((0:Nat),K,(List.replicate (List.length p) false),HrU,#[],0,[(b6,.map #[] 0)],Hs0),by simp,(by rw[hKS];exact RK.init (nS_ p S) (pz_ S)),hqU,hS0,IntE.nil,dO_.nil _ _⟩ zl zp zh ?_
  rintro ⟨⟨i,K1,U1,HU1,es1,cw1,HM1,Hs1⟩,hi_i,hR,hU1,hS1,hW1,hM1⟩
  dsimp only at hi_i hR hU1 hS1 hW1 hM1 ⊢
  refine D_ (az_ e_ (bw_ (i_ e_))) (Zi 2 (fun hr2=>?_) fun hr2=>?_)
  ·refine Zz 8 ?_
   obtain rfl:i=List.length p:=by omega
   rw[List.take_of_length_le (Nat.le_refl _)]at hM1 hW1
   refine sm_ pb_ hM1 (c_ (c_ (i_ n_))) fun adr=>?_
   refine ab_ (ι:={y:List Thg×List Thg×List Bool×List Int×Hp×Array MapEntry×Hp // RI p S y.1 y.2.1 y.2.2.1 y.2.2.2.1∧StK 78 139 83 b2 b7 b4 y.1 y.2.1 y.2.2.2.2.2.2∧zR 4 1 hS_ svU y.2.2.1 y.2.2.2.2.1∧IntE (fun n:Int=>.int .i64 n) y.2.2.2.2.2.1 (iot (List.length p)) y.2.2.2.1}) (fun y=>[(4,zp_ b2 0),(5,zp_ b3 0),(6,.map (some b5)),(7,.map (some b6)),(8,zp_ b7 0),(10,.func (.func 86) #[] #[zp_ b3 0,zp_ b1 0,zp_ b8 0])]) (fun y=>((b3,.cells #[svU] 79 (0,0))::(y.1.2.2.2.2.1++((b5,.map y.1.2.2.2.2.2.1 cw1)::y.1.2.2.2.2.2.2)))) (fun y=>[mlF Tryz.prog 83 Thg.val eJ_ b6 (ex_ 0 p) adr,bb_ b8 (.cells #[.func (.func 85) #[] #[zp_ b2 0,zp_ b7 0]] 140 (0,0)),bb_ b1 (.cells #[.slice ad (List.length p) cap] 54 (0,0)),ah_ ad (List.flatMap Pc.cells p),ah_ sad (List.flatMap ax_ S)]) (fun y=>(iQ_ p S).length - List.length y.1.1+List.length y.1.2.1) ⟨(K1,K1,U1,(tK_ p),HU1,es1,Hs1),hR.done,hS1,hU1,hW1⟩ zl zp zh ?_
   rintro ⟨⟨K,W,Uw,wl,HUw,esw,Hsw⟩,hI,hSw,hUw,hWw⟩
   dsimp only at hI hSw hUw hWw ⊢
   obtain⟨esK,cK,svW,HwK,rfl,hEK,hBK,hrW⟩:=hSw
   have hwl:=hI.kw.wlen
   have hkl:=hI.kw.len
   have hul:=fl_ p S
   refine aC_ (D_ (az_ e_ (az_ (i_ e_) (az_ (i_ e_) (az_ (i_ e_) (bw_ (i_ e_)))))) (Zz 3 ?_))
   refine d_ (fT_ hrW L_ rfl) rfl ?_
   refine Zi 0 (fun hr3=>?_) fun hr3=>?_
   ·refine Zz 7 ?_
    refine t_ 2 [0,1] zk zs (Zz 3 ?_)
    refine j_ 2 rfl zk (w_ 2 Tryz.sizeOf78 rfl rfl rfl rfl rfl rfl (Zz 3 ?_))
    refine j_ 3 rfl zk (cz_ 0 hUw Tryz.sizeOf79 rfl rfl rfl rfl (Zz 6 ?_))
    obtain rfl:W=[]:=List.eq_nil_of_length_eq_zero (by omega)
    exact fw_ ⟨⟨b4,esK,cK,K,svU,Uw,HUw⟩,hEK,hBK,hUw,hI.end⟩ (fun aa v h1 h2=>uU_ 2 0 Tryz.results42 Tryz.isAgg78 Tryz.isAgg79 rfl rfl rfl rfl aa v h1 h2) (o_ (c_ (c_ (c_ (c_ e_)))) (c_ (c_ (c_ (c_ n_))))) zt
   obtain⟨Wp,t0,rfl⟩:∃ Wp t0,W=Wp++[t0]:=by rcases List.eq_nil_or_concat W with h|⟨a,b,h⟩;subst h;simp at *;exact⟨a,b,by simpa using h⟩
   have hxl:List.length (Wp++[t0])=List.length Wp+1:=by simp
   have hx0:(Wp++[t0])[List.length Wp]? = some t0:=by simp
   refine Zz 10 ?_
   refine d_ (fT_ hrW L_ rfl) rfl (d_ (aV_ (aX_ rfl rfl rfl (bW_ (by simp only[List.length_append,List.length_cons,List.length_nil];omega) (by simp only[List.length_append,List.length_cons,List.length_nil];omega))) (show _=Value.int .i64 (List.length Wp:Int) from congrArg _ (by simp only[List.length_append,List.length_cons,List.length_nil];omega))) rfl ?_)
   refine d_ (ia_ hrW L_ aF_ rfl rfl (by omega) (by omega)) rfl (d_ (mf_ hrW zp Tryz.isAgg83 aF_ rfl (Thg.cells_len _) (by decide) (x_ Thg.cells_len hx0)) rfl (F_ aH_ rfl fun b9=>w_ 0 aF_ rfl rfl rfl rfl rfl rfl (Zz 6 ?_)))
   refine d_ (fT_ hrW L_ rfl) rfl (d_ (aV_ (aX_ rfl rfl rfl (bW_ (by simp only[List.length_append,List.length_cons,List.length_nil];omega) (by simp only[List.length_append,List.length_cons,List.length_nil];omega))) (show _=Value.int .i64 (List.length Wp:Int) from congrArg _ (by simp only[List.length_append,List.length_cons,List.length_nil];omega))) rfl ?_)
   obtain⟨sv9,hr9,hy9⟩:=uY_ (P:=Tryz.prog) (n:=List.length Wp) (by have q:=hrW;rw[List.length_append]at q;exact q)
   have hr8:aN_ 83 2 sv9 (List.length Wp) (List.flatMap Thg.cells Wp) HwK:=by have q:=hr9;rw[nE_ Thg.cells 2 Thg.cells_len,List.take_left]at q;exact q
   refine d_ (hy9 L_ aF_ rfl rfl) rfl (cz_ 4 hr8 Tryz.sizeOf139 rfl rfl rfl rfl (Zz 6 ?_))
   refine d_ (bT_ (k:=t0) (adr:=adr) pb_ Tryz.runUnderlying138 Tryz.zeroValue27 rfl rfl zf) rfl (Zz 5 ?_)
   have hus:=pI_ p t0
   have hSp:StK 78 139 83 b2 b7 b4 K Wp ((b2,.cells #[.map (some b4)] 78 (0,0))::(b7,.cells #[sv9] 139 (0,0))::(b4,.map esK cK)::HwK):=⟨esK,cK,sv9,HwK,rfl,hEK,hBK,hr8⟩
   have hul2:List.length (lat (ex_ 0 p) t0)≤1000000000:=by have q:=fr_ (ex_ 0 p) t0;have q2:=kV_ p 0;omega
   refine eq_ (H':=((b9,.cells #[.int .i64 (Thg.kind t0),str (Thg.name t0)] 83 (0,0))::((b3,.cells #[svU] 79 (0,0))::((b5,.map esw cw1)::(HUw++((b2,.cells #[.map (some b4)] 78 (0,0))::(b7,.cells #[sv9] 139 (0,0))::(b4,.map esK cK)::HwK)))))) (o_ e_ (o_ e_ (o_ e_ (q_ (c_ (c_ (c_ n_))) (o_ e_ (o_ e_ (o_ e_ aY_))))))) (fun v _ h=>h) ?_
   refine ab_ (ι:={y:Nat×List Thg×List Thg×List Bool×List Int×Hp×Array MapEntry×Hp // y.1≤List.length (lat (ex_ 0 p) t0)∧RJ p S t0 (lat (ex_ 0 p) t0) y.1 y.2.1 y.2.2.1 y.2.2.2.1 y.2.2.2.2.1∧StK 78 139 83 b2 b7 b4 y.2.1 y.2.2.1 y.2.2.2.2.2.2.2∧zR 4 1 hS_ svU y.2.2.2.1 y.2.2.2.2.2.1∧IntE (fun n:Int=>.int .i64 n) y.2.2.2.2.2.2.1 (iot (List.length p)) y.2.2.2.2.1∧List.length y.2.1+List.length Wp=List.length K+List.length y.2.2.1}) (fun y=>[(4,zp_ b2 0),(5,zp_ b3 0),(6,.map (some b5)),(7,.map (some b6)),(8,zp_ b7 0),(10,.func (.func 86) #[] #[zp_ b3 0,zp_ b1 0,zp_ b8 0]),(97,.slice (Prod.fst (adr t0)) (List.length (lat (ex_ 0 p) t0)) (Prod.snd (adr t0))),(98,.int .i64 (List.length (lat (ex_ 0 p) t0):Int)),(99,.int .i64 (y.1.1:Int))]) (fun y=>((b3,.cells #[svU] 79 (0,0))::(y.1.2.2.2.2.2.1++((b5,.map y.1.2.2.2.2.2.2.1 cw1)::y.1.2.2.2.2.2.2.2)))) (fun y=>[mlF Tryz.prog 83 Thg.val eJ_ b6 (ex_ 0 p) adr,bb_ b8 (.cells #[.func (.func 85) #[] #[zp_ b2 0,zp_ b7 0]] 140 (0,0)),bb_ b1 (.cells #[.slice ad (List.length p) cap] 54 (0,0)),ah_ ad (List.flatMap Pc.cells p),ah_ sad (List.flatMap ax_ S)]) (fun y=>List.length (lat (ex_ 0 p) t0) - y.1.1) ⟨((0:Nat),K,Wp,Uw,wl,HUw,esw,((b2,.cells #[.map (some b4)] 78 (0,0))::(b7,.cells #[sv9] 139 (0,0))::(b4,.map esK cK)::HwK)),by simp,(hI.pop _),hSp,hUw,hWw,rfl⟩ zl zp zh ?_
   rintro ⟨⟨j,K2,W2,U2,wl2,HU2,es2,Hs2⟩,hi_j,hJ,hS2,hU2,hW2,hKW⟩
   dsimp only at hi_j hJ hS2 hU2 hW2 hKW ⊢
   refine D_ (az_ e_ (bw_ (i_ e_))) (Zi 2 (fun hr4=>?_) fun hr4=>?_)
   ·have ej:j=List.length (lat (ex_ 0 p) t0):=by omega
    refine Zz 6 ?_
    exact B_ ⟨(K2,W2,U2,wl2,HU2,es2,Hs2),(by rw[ej]at hJ;exact hJ.done hus),hS2,hU2,hW2⟩ (by dsimp only;have q:=hJ.kw.len;rw[List.length_append,List.length_singleton]at *;omega) zl (o_ e_ (q_ (c_ n_) (o_ e_ aY_))) zh
   obtain⟨hlx2,x2,hx2,hmx2⟩:=zge (show j<List.length (lat (ex_ 0 p) t0) by omega)
   obtain⟨hx20,hx2l⟩:=hus.1 x2 hmx2
   obtain⟨m,rfl⟩:∃ m:Nat,x2=(m:Int):=⟨x2.toNat,by omega⟩
   have hml:m<List.length p:=by omega
   obtain⟨x3,hx3⟩:∃ x3,p[m]? = some x3:=⟨_,List.getElem?_eq_getElem hml⟩
   obtain⟨n3,hn3,hn31,hn32,hn33⟩:=hJ.pos hus hx2 hx3
   have hnl3:=hg_ x3
   have hgl3:=gO_ (Y_ x3) K2
   refine Zz 10 ?_
   refine d_ (M_ ao_ as_ rfl rfl (fun v _ h=>A_ (n:=1) bP_ (by decide) (by exact (bj_ h.1 t0)) hx2) (by omega) (by first|omega|(simp;done))) rfl ?_
   refine d_ (bt_ (ad:=(Prod.fst (adr t0))) bd_ rfl (fun v _ h=>by exact (bj_ h.1 t0)) (x_ bP_ hx2 0 _ rfl)) rfl (Zz 7 ?_)
   refine d_ (md_ (k:=(m:Int)) (i:=m) (n:=n3) qp_ rM_ rfl rfl hW2 (qv_ hml) hn3 (fun v h _=>(h.own _ (List.mem_of_getElem? (i:=1) rfl)).1)) rfl (Zz 1 ?_)
   refine qa_ (k:=(m:Int)) (i:=m) 1 qp_ (.inr rfl) rM_ rfl rfl rfl rfl hW2 (qv_ hml) hn3 fun en1 hE1=>Zz 6 ?_
   refine d_ (md_ (k:=(m:Int)) (i:=m) (n:=(n3 - 1)) qp_ rM_ rfl rfl hE1 (qv_ hml) (by rw[List.getElem?_set_self (by rw[hJ.wll];exact hml)]) (fun v h _=>(h.own _ (List.mem_of_getElem? (i:=1) rfl)).1)) rfl ?_
   refine Zi 0 (fun hr5=>?_) fun hr5=>?_
   ·refine Zz 10 ?_
    exact B_ ⟨(j+1,K2,W2,U2,(List.set wl2 m (n3 - 1)),HU2,en1,Hs2),hlx2,(hJ.skip hus hx2 hx3 hn3 hr5),hS2,hU2,hE1,hKW⟩ (by dsimp only;omega) zl (o_ e_ (q_ (c_ n_) (o_ e_ aY_))) zh
   refine Zz 6 ?_
   refine Q_ (vM_ m x3 p ad cap K2 W2 U2 b1 b2 b3 b7 b8 b4 svU HU2 Hs2 hx3 hp hU2 hJ.ul hS2 (by have q:=hJ.kw.wlen;omega)) rfl rfl (o_ e_ (q_ (c_ n_) J_)) zf rfl fun⟨⟨HB3,HC3⟩,hB3,hC3⟩=>?_
   dsimp only
   dsimp only at hB3 hC3
   simp only[List.cons_append,List.append_assoc]
   refine Zz 2 ?_
   refine D_ (az_ e_ (bw_ (i_ bM_))) (Zz 5 ?_)
   exact B_ ⟨(j+1,(K2++bs_ K2 (Y_ x3)),(W2++bs_ K2 (Y_ x3)),(List.set U2 m true),(List.set wl2 m (n3 - 1)),HB3,en1,HC3),hlx2,(hJ.take hus hx2 hx3 hn3 hr5),hC3,hB3,hE1,(by simp only[List.length_append];omega)⟩ (by dsimp only;omega) zl zp zh
  obtain⟨hlx1,x1,hx1,hmx1⟩:=zge (show i<List.length p by omega)
  refine Zz 13 ?_
  refine F_ S_ rfl fun b10=>Zz 1 ?_
  refine w_ 0 H_ rfl rfl rfl rfl rfl rfl (Zz 5 ?_)
  refine f_ (vf_ x1) rfl g_ zt rfl fun⟨⟨nad,ncap⟩,ncl,ncm,ncz⟩=>?_
  dsimp only
  refine Zz 9 ?_
  refine qb_ (k:=(i:Int)) 2 qp_ (.inr rfl) rM_ rfl rfl rfl rfl hW1 (vo_ i) fun en2 cn2 hE2=>Zz 11 ?_
  refine ab_ (ι:={y:Nat×Hp // y.1≤List.length (af_ x1)∧dO_ Thg.val eJ_ 3 1 ((ex_ 0 (List.take i p))++List.map (fun t=>(t,(i:Int))) (List.take y.1 (af_ x1))) b6 y.2}) (fun y=>[(2,zp_ b1 0),(4,zp_ b2 0),(5,zp_ b3 0),(6,.map (some b5)),(7,.map (some b6)),(8,zp_ b7 0),(9,zp_ b8 0),(10,.func (.func 86) #[] #[zp_ b3 0,zp_ b1 0,zp_ b8 0]),(35,.slice sad (List.length S) scap),(36,.int .i64 (List.length S:Int)),(37,.int .i64 (k:Int)),(46,.slice ad (List.length p) cap),(47,.int .i64 (List.length p:Int)),(48,.int .i64 (i:Int)),(13,.int .i64 (i:Int)),(15,.slice nad (List.length (af_ x1)) ncap),(59,.slice nad (List.length (af_ x1)) ncap),(60,.int .i64 (List.length (af_ x1):Int)),(61,.int .i64 (y.1.1:Int))]) (fun y=>((b3,.cells #[svU] 79 (0,0))::(HU1++((b5,.map en2 cn2)::(y.1.2++Hs1))))) (fun y=>[ah_ nad (List.flatMap Thg.cells (af_ x1)),bb_ b8 (.cells #[.func (.func 85) #[] #[zp_ b2 0,zp_ b7 0]] 140 (0,0)),bb_ b1 (.cells #[.slice ad (List.length p) cap] 54 (0,0)),ah_ ad (List.flatMap Pc.cells p),ah_ sad (List.flatMap ax_ S)]) (fun y=>List.length (af_ x1) - y.1.1) ⟨((0:Nat),HM1),by simp,(by rw[List.take_zero,List.map_nil,List.append_nil];exact hM1)⟩ zl (o_ (c_ e_) (q_ (c_ (c_ n_)) (o_ (c_ e_) (q_ (c_ n_) J_)))) zh ?_
  rintro ⟨⟨j,HM2⟩,hi_j,hM2⟩
  dsimp only at hi_j hM2 ⊢
  have hnl1:=hg_ x1
  have hub:List.length ((ex_ 0 (List.take i p))++List.map (fun t=>(t,(i:Int))) (List.take j (af_ x1)))≤400000000:=by have q:=kV_ (List.take i p) 0;have q2:=List.length_take_le i p;have q3:=List.length_take_le j (af_ x1);have q4:=hg_ x1;rw[List.length_append,List.length_map];omega
  refine D_ (az_ e_ (bw_ (i_ e_))) (Zi 2 (fun hr6=>?_) fun hr6=>?_)
  ·refine Zi 10 (fun hr7=>?_) fun hr7=>?_
   ·refine Zz 10 ?_
    exact B_ ⟨(i+1,K1,U1,HU1,en2,cn2,HM2,Hs1),hlx1,hR.skip hx1 (fun q=>by rw[q]at hr7;exact hr7 rfl),hU1,hS1,(by rw[jn_,mG_ hx1];exact hE2),(by rw[mm_ hx1];rw[show List.take j (af_ x1)=af_ x1 from List.take_of_length_le (by omega)]at hM2;exact hM2)⟩ (by dsimp only;omega) zl zp (fun _ _ h=>h.2)
   refine Zz 6 ?_
   refine Q_ (vM_ i x1 p ad cap K1 K1 U1 b1 b2 b3 b7 b8 b4 svU HU1 Hs1 hx1 hp hU1 hR.ul hS1 (by have q:=hR.kw.wlen;have q2:=fl_ p S;omega)) rfl rfl (o_ e_ (q_ (c_ n_) (c_ bM_))) zf rfl fun⟨⟨HB4,HC4⟩,hB4,hC4⟩=>?_
   dsimp only
   dsimp only at hB4 hC4
   simp only[List.cons_append,List.append_assoc]
   refine Zz 2 ?_
   refine D_ (az_ e_ (bw_ (i_ (i_ e_)))) (Zz 5 ?_)
   exact B_ ⟨(i+1,(K1++bs_ K1 (Y_ x1)),(List.set U1 i true),HB4,en2,cn2,HM2,HC4),hlx1,hR.take hx1 (List.eq_nil_of_length_eq_zero (by omega)),hB4,hC4,(by rw[jn_,mG_ hx1];exact hE2),(by rw[mm_ hx1];rw[show List.take j (af_ x1)=af_ x1 from List.take_of_length_le (by omega)]at hM2;exact hM2)⟩ (by dsimp only;omega) zl zp (fun _ _ h=>h.2)
  have hlt1:j<List.length (af_ x1):=by omega
  obtain⟨t1,ht1⟩:∃ e0,(af_ x1)[j]? = some e0:=⟨_,List.getElem?_eq_getElem hlt1⟩
  have hmt1:t1∈(af_ x1):=List.mem_of_getElem? ht1
  refine Zz 10 ?_
  refine d_ (M_ L_ aF_ rfl rfl (fun v _ h=>A_ (n:=2) Thg.cells_len (by decide) (by exact h.1) ht1) (by omega) (by first|omega|(simp;done))) rfl ?_
  refine d_ (Z_ (ad:=nad) (us:=Thg.cells t1) Tryz.isAgg83 aF_ rfl zf (Thg.cells_len _) (x_ Thg.cells_len ht1)) rfl (F_ aH_ rfl fun b11=>w_ 0 aF_ rfl rfl rfl rfl rfl rfl (Zz 6 ?_))
  refine C_ ao_ as_ bl_ rfl rfl rfl rfl rfl rfl fun b12=>?_
  have hbb1:=(show (lat ((ex_ 0 (List.take i p))++List.map (fun t=>(t,(i:Int))) (List.take j (af_ x1))) t1).length≤400000000 from Nat.le_trans (fr_ _ _) hub)
  refine ds_ (k:=t1) pb_ hM2 Tryz.runUnderlying138 Tryz.zeroValue27 rfl rfl (c_ (c_ (c_ (c_ (i_ n_))))) rfl fun es1 ce1 ie1 se1 ve1 Hk1 Hx1 ho1 hw1=>Zz 1 ?_
  refine aJ_ (news:=List.flatMap eJ_ [(i:Int)]) rq_ hw1 rfl rfl zp rfl (dr_ zp) (fun u hu=>bn_ pf_ hu) (by simp only[maxLen];omega) (by omega) rfl fun sv1 Hr1 hr1=>?_
  have hq1:=zsa hr1
  refine Zz 1 ?_
  refine bz_ (k:=t1) (dd:=(i:Int)) ho1 (by rw[cU_];exact hq1) rfl rfl rfl (cT_ (o_ (i_ e_) (q_ n_ n_))) fun H2 hM2=>?_
  refine Zz 2 ?_
  refine D_ (az_ (i_ e_) (az_ (i_ e_) (az_ (i_ e_) (bw_ (i_ e_))))) (Zz 5 ?_)
  exact B_ ⟨(j+1,H2),hlt1,(by rw[take_snoc ht1,List.map_append,← List.append_assoc];exact hM2)⟩ (by dsimp only;omega) zl zp zh
 have hls1:k<List.length S:=by omega
 obtain⟨s1,hs1⟩:∃ e0,S[k]? = some e0:=⟨_,List.getElem?_eq_getElem hls1⟩
 have hms1:s1∈S:=List.mem_of_getElem? hs1
 refine Zz 18 ?_
 refine d_ (u_ cY_ rfl rfl) rfl (Q_ (nV_ (Thg.mk 1 s1) K K b2 b7 b4 Hs0 hS0 (by have q:=(nS_ ([]:List Pc) (List.take k S)).wlen;have q2:=fl_ ([]:List Pc) (List.take k S);have q3:=List.length_take_le k S;simp only[List.length_nil]at q2;rw[hK];omega)) rfl rfl (c_ (c_ (c_ bM_))) zt rfl fun⟨HA5,hA5⟩=>?_)
 dsimp only
 refine Zz 2 ?_
 refine D_ (az_ (i_ e_) (az_ (i_ e_) (bw_ (i_ e_)))) (Zz 5 ?_)
 exact B_ ⟨(k+1,(K++bs_ K [(Thg.mk 1 s1)]),HA5),hls1,(by rw[sK_ hs1,← hK]),hA5⟩ (by dsimp only;omega) zl zp zh
end Go.Proofs.YtamklbgaipakfaaGreatDoor
namespace Go.Vs
open Go Go.Sx
abbrev SrS (l:List Str):Prop:=l.Pairwise fun x y=>x<y
theorem gA_ (a:Str):¬ a<a:=List.lt_irrefl a
theorem kS_hit {l:List Str} {s:Str} (h:SrS l) (hs:s∈l):l[kS l s]? = some s:=by
 obtain⟨j,hj⟩:=List.getElem?_of_mem hs
 have hl:=(List.getElem?_eq_some_iff.1 hj).1
 rcases Nat.lt_trichotomy (kS l s) j with q|q|q
 ·have hk:kS l s<l.length:=by omega
  have e:=List.getElem?_eq_getElem hk
  have h1:=nd_ l _ e
  have h2:=List.pairwise_iff_getElem.1 h (kS l s) j hk hl q
  rw[(List.getElem?_eq_some_iff.1 hj).2]at h2
  exact absurd h2 h1
 ·rw[q];exact hj
 have:s∈l.take (kS l s):=by
   refine List.mem_of_getElem? (i:=j) ?_
   rw[List.getElem?_take_of_lt q];exact hj
 exact absurd (pJ_ l s this) (gA_ s)
theorem kR_ {l:List Str} {s:Str} (h:SrS l) (hs:s∈l):bX_ l s=l:=by
  unfold bX_;rw[if_pos (.inr (kS_hit h hs))]
theorem rx_ {l:List Str} {s:Str} (hn:s≠[]) (hs:s ∉ l):bX_ l s=l.take (kS l s)++[s]++l.drop (kS l s):=by
  unfold bX_;rw[if_neg (by rintro (q|q);exact hn q;exact hs (List.mem_of_getElem? q))]
theorem iy_ {l:List Str} {s:Str} (hn:s≠[]) (hs:s ∉ l):(bX_ l s).length=l.length+1:=by
  have:=vP_ l s
  rw[rx_ hn hs]
  simp only[List.length_append,List.length_take,List.length_cons,List.length_nil,List.length_drop]
  omega
structure Rcd where
  a:List Str
  aad:Option Addr
  acap:Nat
  r:List Str
  rad:Option Addr
  rcap:Nat
  f:List Str
  fad:Option Addr
  fcap:Nat
def Rcd.cells (x:Rcd):List Value:=[.slice x.aad x.a.length x.acap,.slice x.rad x.r.length x.rcap,.slice x.fad x.f.length x.fcap]
theorem Rcd.cells_len (x:Rcd):x.cells.length=3:=rfl
def Rcd.val (x:Rcd):Value:=.agg x.cells.toArray
def jT_ (a r f:List Str) (t:Thg):Prop:=(t.kind=1∧t.name∈a)∨(t.kind=2∧t.name∈r)∨(t.kind=3∧t.name∈f)
instance (a r f:List Str) (t:Thg):Decidable (jT_ a r f t):=by unfold jT_;infer_instance
def nc_ (a r f:List Str) (x:Pc):Bool:=decide (∀ u∈af_ x,jT_ a r f u)
def nb_ (a:List Str) (x:Pc):List Str:=if x.kind=1∨x.kind=2∨x.kind=4∨x.kind=9∨x.kind=3 then bX_ a x.c else a
def kr_ (r:List Str) (x:Pc):List Str:=if x.kind=3∨x.kind=7 then bX_ r x.r else if x.kind=5∨x.kind=6 then bX_ r x.t else r
def na_ (f:List Str) (x:Pc):List Str:=if x.kind=8 then bX_ f x.r else f
def PcN (x:Pc):Prop:=(1≤x.kind∧x.kind≤9)∧∀ t∈Y_ x,t.name≠[]
theorem fW_ {l:List Str} {s:Str} (h:SrS l) (hn:s≠[]):SrS (bX_ l s)∧l.length≤(bX_ l s).length∧((bX_ l s).length=l.length→bX_ l s=l)∧∀ n,n∈bX_ l s↔n∈l∨n=s:=by
 refine⟨iP_ h,?_,?_,fun n=>by rw[ib_];constructor;(rintro (q|q);exact .inl q;exact .inr q.1);(rintro (q|q);exact .inl q;exact .inr ⟨q,q▸hn⟩)⟩
 ·by_cases hs:s∈l
  ·rw[kR_ h hs];exact Nat.le_refl _
  rw[iy_ hn hs];omega
 intro e
 by_cases hs:s∈l
 ·exact kR_ h hs
 rw[iy_ hn hs]at e;omega
theorem qo_ {x:Pc} (h:1≤x.kind∧x.kind≤9):x.kind=1∨x.kind=2∨x.kind=3∨x.kind=4∨x.kind=5∨x.kind=6∨x.kind=7∨x.kind=8∨x.kind=9:=by omega
theorem mk_ {a:List Str} {x:Pc} (ha:SrS a) (hx:PcN x):SrS (nb_ a x)∧a.length≤(nb_ a x).length∧((nb_ a x).length=a.length→nb_ a x=a)∧∀ n,n∈nb_ a x↔n∈a∨(⟨1,n⟩:Thg)∈Y_ x:=by
 obtain⟨hk,hn⟩:=hx
 by_cases c:x.kind=1∨x.kind=2∨x.kind=4∨x.kind=9∨x.kind=3
 ·have e:nb_ a x=bX_ a x.c:=if_pos c
  have hc:(⟨1,x.c⟩:Thg)∈Y_ x:=by rcases c with k|k|k|k|k<;>simp[Y_,k]
  have g:∀ n,(⟨1,n⟩:Thg)∈Y_ x↔n=x.c:=fun n=>by rcases c with k|k|k|k|k<;>simp[Y_,k]
  obtain⟨h1,h2,h3,h4⟩:=fW_ ha (hn _ hc)
  rw[e]
  exact⟨h1,h2,h3,fun n=>by rw[h4,g]⟩
 have e:nb_ a x=a:=if_neg c
 rw[e]
 refine⟨ha,Nat.le_refl _,fun _=>rfl,fun n=>⟨.inl,?_⟩⟩
 rintro (q|q)
 ·exact q
 rcases qo_ hk with k|k|k|k|k|k|k|k|k<;>simp[Y_,k]at q c
theorem mi_ {r:List Str} {x:Pc} (ha:SrS r) (hx:PcN x):SrS (kr_ r x)∧r.length≤(kr_ r x).length∧((kr_ r x).length=r.length→kr_ r x=r)∧∀ n,n∈kr_ r x↔n∈r∨(⟨2,n⟩:Thg)∈Y_ x:=by
 obtain⟨hk,hn⟩:=hx
 by_cases c:x.kind=3∨x.kind=7
 ·have e:kr_ r x=bX_ r x.r:=if_pos c
  have hc:(⟨2,x.r⟩:Thg)∈Y_ x:=by rcases c with k|k<;>simp[Y_,k]
  have g:∀ n,(⟨2,n⟩:Thg)∈Y_ x↔n=x.r:=fun n=>by rcases c with k|k<;>simp[Y_,k]
  obtain⟨h1,h2,h3,h4⟩:=fW_ ha (hn _ hc)
  rw[e]
  exact⟨h1,h2,h3,fun n=>by rw[h4,g]⟩
 by_cases d:x.kind=5∨x.kind=6
 ·have e:kr_ r x=bX_ r x.t:=by unfold kr_;rw[if_neg c,if_pos d]
  have hc:(⟨2,x.t⟩:Thg)∈Y_ x:=by rcases d with k|k<;>simp[Y_,k]
  have g:∀ n,(⟨2,n⟩:Thg)∈Y_ x↔n=x.t:=fun n=>by rcases d with k|k<;>simp[Y_,k]
  obtain⟨h1,h2,h3,h4⟩:=fW_ ha (hn _ hc)
  rw[e]
  exact⟨h1,h2,h3,fun n=>by rw[h4,g]⟩
 have e:kr_ r x=r:=by unfold kr_;rw[if_neg c,if_neg d]
 rw[e]
 refine⟨ha,Nat.le_refl _,fun _=>rfl,fun n=>⟨.inl,?_⟩⟩
 rintro (q|q)
 ·exact q
 rcases qo_ hk with k|k|k|k|k|k|k|k|k<;>simp[Y_,k]at q c d
theorem mj_ {f:List Str} {x:Pc} (ha:SrS f) (hx:PcN x):SrS (na_ f x)∧f.length≤(na_ f x).length∧((na_ f x).length=f.length→na_ f x=f)∧∀ n,n∈na_ f x↔n∈f∨(⟨3,n⟩:Thg)∈Y_ x:=by
 obtain⟨hk,hn⟩:=hx
 by_cases c:x.kind=8
 ·have e:na_ f x=bX_ f x.r:=if_pos c
  have hc:(⟨3,x.r⟩:Thg)∈Y_ x:=by simp[Y_,c]
  have g:∀ n,(⟨3,n⟩:Thg)∈Y_ x↔n=x.r:=fun n=>by simp[Y_,c]
  obtain⟨h1,h2,h3,h4⟩:=fW_ ha (hn _ hc)
  rw[e]
  exact⟨h1,h2,h3,fun n=>by rw[h4,g]⟩
 have e:na_ f x=f:=if_neg c
 rw[e]
 refine⟨ha,Nat.le_refl _,fun _=>rfl,fun n=>⟨.inl,?_⟩⟩
 rintro (q|q)
 ·exact q
 rcases qo_ hk with k|k|k|k|k|k|k|k|k<;>simp[Y_,k]at q c
theorem pj_ {x:Pc} {t:Thg} (h:t∈Y_ x):t.kind=1∨t.kind=2∨t.kind=3:=by
  unfold Y_ at h
  repeat' split at h
  all_goals simp at h
  all_goals first|(rcases h with rfl|rfl<;>simp)|(subst h;simp)
theorem tZ_ {a r f:List Str} {x:Pc} (ha:SrS a) (hr:SrS r) (hf:SrS f) (hx:PcN x) (t:Thg):jT_ (nb_ a x) (kr_ r x) (na_ f x) t↔jT_ a r f t∨t∈Y_ x:=by
 obtain⟨k,n⟩:=t
 unfold jT_
 rw[(mk_ ha hx).2.2.2,(mi_ hr hx).2.2.2,(mj_ hf hx).2.2.2]
 dsimp only
 constructor
 ·rintro (⟨rfl,q|q⟩|⟨rfl,q|q⟩|⟨rfl,q|q⟩)
  ·exact .inl (.inl ⟨rfl,q⟩)
  ·exact .inr q
  ·exact .inl (.inr (.inl ⟨rfl,q⟩))
  ·exact .inr q
  ·exact .inl (.inr (.inr ⟨rfl,q⟩))
  exact .inr q
 rintro ((⟨rfl,q⟩|⟨rfl,q⟩|⟨rfl,q⟩)|q)
 ·exact .inl ⟨rfl,.inl q⟩
 ·exact .inr (.inl ⟨rfl,.inl q⟩)
 ·exact .inr (.inr ⟨rfl,.inl q⟩)
 rcases pj_ q with e|e|e
 ·dsimp only at e;subst e;exact .inl ⟨rfl,.inr q⟩
 ·dsimp only at e;subst e;exact .inr (.inl ⟨rfl,.inr q⟩)
 dsimp only at e;subst e;exact .inr (.inr ⟨rfl,.inr q⟩)
structure RdI (p:List Pc) (S:List Str) (a r f:List Str):Prop where
  sa:SrS a
  sr:SrS r
  sf:SrS f
  snd:∀ t,jT_ a r f t→Rch p S t
  bas:∀ t∈do_ S,jT_ a r f t
structure RdR (p:List Pc) (S:List Str) (n:Int) (i:Nat) (a r f:List Str):Prop where
  inv:RdI p S a r f
  le:n≤((a.length+r.length+f.length:Nat):Int)
  cl:n=((a.length+r.length+f.length:Nat):Int)→∀ (j:Nat) x,p[j]? = some x→j<i→nc_ a r f x=true→∀ t∈Y_ x,jT_ a r f t
theorem RdR.skip {p:List Pc} {S a r f:List Str} {n:Int} {i:Nat} {x:Pc} (h:RdR p S n i a r f) (hx:p[i]? = some x) (hu:nc_ a r f x=false):RdR p S n (i+1) a r f:=⟨h.inv,h.le,fun hn j y hj hlt hy=>by
 by_cases e:j=i
 ·subst e
  rw[hx,Option.some.injEq]at hj
  subst hj
  rw[hu]at hy
  cases hy
 exact h.cl hn j y hj (by omega) hy⟩
theorem RdR.take {p:List Pc} {S a r f:List Str} {n:Int} {i:Nat} {x:Pc} (h:RdR p S n i a r f) (hx:p[i]? = some x) (hN:PcN x) (hu:nc_ a r f x=true):RdR p S n (i+1) (nb_ a x) (kr_ r x) (na_ f x):=by
 obtain⟨a1,a2,a3,_⟩:=mk_ h.inv.sa hN
 obtain⟨r1,r2,r3,_⟩:=mi_ h.inv.sr hN
 obtain⟨f1,f2,f3,_⟩:=mj_ h.inv.sf hN
 have hT:=tZ_ h.inv.sa h.inv.sr h.inv.sf hN
 have hus:∀ u∈af_ x,Rch p S u:=fun u q=>h.inv.snd u (of_decide_eq_true hu u q)
 refine⟨⟨a1,r1,f1,fun t ht=>?_,fun t ht=>(hT t).2 (.inl (h.inv.bas t ht))⟩,by have:=h.le;omega,fun hn=>?_⟩
 ·rcases (hT t).1 ht with q|q
  ·exact h.inv.snd t q
  exact .give (List.mem_of_getElem? hx) hus q
 have hle:=h.le
 have ea:=a3 (by omega)
 have er:=r3 (by omega)
 have ef:=f3 (by omega)
 have hn2:n=((a.length+r.length+f.length:Nat):Int):=by rw[ea,er,ef]at hn;exact hn
 intro j y hj hlt hy t ht
 by_cases e:j=i
 ·subst e
  rw[hx,Option.some.injEq]at hj
  subst hj
  exact (hT t).2 (.inr ht)
 rw[ea,er,ef]at hy ⊢
 exact h.cl hn2 j y hj (by omega) hy t ht
theorem RdR.done {p:List Pc} {S a r f:List Str} (h:RdR p S ((a.length+r.length+f.length:Nat):Int) p.length a r f):∀ t,jT_ a r f t↔Rch p S t:=fun t=>by
  refine⟨h.inv.snd t,fun ht=>?_⟩
  induction ht with
  | base hb=>exact h.inv.bas _ hb
  | give hx hn hg ih =>
    obtain⟨j,hj⟩:=List.getElem?_of_mem hx
    exact h.cl rfl j _ hj (List.getElem?_eq_some_iff.1 hj).1 (decide_eq_true ih) _ hg
theorem RdI.len {p:List Pc} {S a r f:List Str} (h:RdI p S a r f):a.length+r.length+f.length≤(iQ_ p S).length:=by
 have nd:∀ {l:List Str},SrS l→l.Nodup:=fun hl=>List.Pairwise.imp (fun {x y} hxy=>fun e:x=y=>by subst e;exact gA_ _ hxy) hl
 have mk:∀ (k:Int) {l:List Str},SrS l→(l.map fun n=>(⟨k,n⟩:Thg)).Nodup:=fun k l hl=>by
   unfold List.Nodup
   rw[List.pairwise_map]
   exact List.Pairwise.imp (fun {x y} hxy=>fun e=>hxy (Thg.mk.inj e).2) (nd hl)
 have e:((a.map fun n=>(⟨1,n⟩:Thg))++((r.map fun n=>(⟨2,n⟩:Thg))++f.map fun n=>(⟨3,n⟩:Thg))).length=a.length+r.length+f.length:=by simp;omega
 rw[← e]
 refine ec_ _ _ ?_ fun t ht=>(h.snd t ?_).univ
 ·rw[List.nodup_append,List.nodup_append]
  refine⟨mk 1 h.sa,⟨mk 2 h.sr,mk 3 h.sf,fun x hx y hy e=>?_⟩,fun x hx y hy e=>?_⟩
  ·obtain⟨u,_,rfl⟩:=List.mem_map.1 hx
   obtain⟨v,_,rfl⟩:=List.mem_map.1 hy
   have:=(Thg.mk.inj e).1
   omega
  obtain⟨u,_,rfl⟩:=List.mem_map.1 hx
  rcases List.mem_append.1 hy with hy|hy<;>obtain⟨v,_,rfl⟩:=List.mem_map.1 hy<;>(have:=(Thg.mk.inj e).1;omega)
 simp only[List.mem_append,List.mem_map]at ht
 unfold jT_
 rcases ht with⟨u,hu,rfl⟩|⟨u,hu,rfl⟩|⟨u,hu,rfl⟩
 ·exact .inl ⟨rfl,hu⟩
 ·exact .inr (.inl ⟨rfl,hu⟩)
 exact .inr (.inr ⟨rfl,hu⟩)
end Go.Vs
namespace Go.Proofs.YtamklbgaipakfaaGreatDoor
open Go Go.Sx Go.Proofs
attribute [local irreducible] Code.wp wpList wpAnyH
open Go.Vs
theorem sA_ {p:List Pc} {A S:List Str} {y:Fc} (h:Der p A y):Rch p S ⟨1,y.a⟩→(y.kind=1→Rch p S ⟨1,y.b⟩)∧(y.kind=2→Rch p S ⟨1,y.b⟩∧Rch p S ⟨2,y.r⟩)∧(y.kind=3→Rch p S ⟨3,y.r⟩):=by
  refine h.least (T:=fun y=>Rch p S ⟨1,y.a⟩→(y.kind=1→Rch p S ⟨1,y.b⟩)∧(y.kind=2→Rch p S ⟨1,y.b⟩∧Rch p S ⟨2,y.r⟩)∧(y.kind=3→Rch p S ⟨3,y.r⟩)) ?_
  have top:Rch p S ⟨1,[42]⟩:=.base (by simp[do_])
  have bot:Rch p S ⟨1,[33]⟩:=.base (by simp[do_])
  have g:∀ {x:Pc} {t:Thg},x∈p→(∀ u∈af_ x,Rch p S u)→t∈Y_ x→Rch p S t:=fun hx hn ht=>.give hx hn ht
  have s1:∀ {a b:Str},(ap_ a b).kind=1:=rfl
  have n2:∀ {a b:Str},(ap_ a b).kind≠2:=by intro a b;simp[ap_]
  have n3:∀ {a b:Str},(ap_ a b).kind≠3:=by intro a b;simp[ap_]
  have l1:∀ {a b r:Str},(aA_ a r b).kind≠1:=by intro a b r;simp[aA_]
  have l3:∀ {a b r:Str},(aA_ a r b).kind≠3:=by intro a b r;simp[aA_]
  have p1:∀ {a r:Str} {lo hi:Int},(ak_ a r lo hi).kind≠1:=by intro a r lo hi;simp[ak_]
  have p2:∀ {a r:Str} {lo hi:Int},(ak_ a r lo hi).kind≠2:=by intro a r lo hi;simp[ak_]
  have SB:∀ {a b:Str},Rch p S ⟨1,b⟩→((ap_ a b).kind=1→Rch p S ⟨1,(ap_ a b).b⟩)∧((ap_ a b).kind=2→Rch p S ⟨1,(ap_ a b).b⟩∧Rch p S ⟨2,(ap_ a b).r⟩)∧((ap_ a b).kind=3→Rch p S ⟨3,(ap_ a b).r⟩):=fun h=>⟨fun _=>h,fun q=>absurd q n2,fun q=>absurd q n3⟩
  have LK:∀ {a r b:Str},Rch p S ⟨1,b⟩→Rch p S ⟨2,r⟩→((aA_ a r b).kind=1→Rch p S ⟨1,(aA_ a r b).b⟩)∧((aA_ a r b).kind=2→Rch p S ⟨1,(aA_ a r b).b⟩∧Rch p S ⟨2,(aA_ a r b).r⟩)∧((aA_ a r b).kind=3→Rch p S ⟨3,(aA_ a r b).r⟩):=fun h h'=>⟨fun q=>absurd q l1,fun _=>⟨h,h'⟩,fun q=>absurd q l3⟩
  have SP:∀ {a r:Str} {lo hi:Int},Rch p S ⟨3,r⟩→((ak_ a r lo hi).kind=1→Rch p S ⟨1,(ak_ a r lo hi).b⟩)∧((ak_ a r lo hi).kind=2→Rch p S ⟨1,(ak_ a r lo hi).b⟩∧Rch p S ⟨2,(ak_ a r lo hi).r⟩)∧((ak_ a r lo hi).kind=3→Rch p S ⟨3,(ak_ a r lo hi).r⟩):=fun h=>⟨fun q=>absurd q p1,fun q=>absurd q p2,fun _=>h⟩
  intro y hy hr
  cases hy with
  | r1 h=>exact SB hr
  | r2 h=>exact SB top
  | r10 hx hk h=>exact LK hr (g hx (by simp[af_,hk]) (by simp[Y_,hk]))
  | r3 hx hk h=>exact SB (g hx (by simpa [af_,hk,ap_,aA_,ak_] using (h hr).1 s1) (by simp[Y_,hk]))
  | r4 hx hk h h'=>exact SB (g hx (by simpa [af_,hk,ap_,aA_,ak_] using ⟨(h hr).1 s1,(h' hr).1 s1⟩) (by simp[Y_,hk]))
  | r5 hx hk h=>exact LK (g hx (by simpa [af_,hk,ap_,aA_,ak_] using (h hr).1 s1) (by simp[Y_,hk])) (g hx (by simpa [af_,hk,ap_,aA_,ak_] using (h hr).1 s1) (by simp[Y_,hk]))
  | r6 hx hk h=>exact LK ((h hr).2.1 rfl).1 (g hx (by simpa [af_,hk,ap_,aA_,ak_] using ((h hr).2.1 rfl).2) (by simp[Y_,hk]))
  | r7 hx hk h h'=>exact LK ((h' ((h hr).2.1 rfl).1).2.1 rfl).1 (g hx (by simpa [af_,hk,ap_,aA_,ak_] using ⟨((h hr).2.1 rfl).2,((h' ((h hr).2.1 rfl).1).2.1 rfl).2⟩) (by simp[Y_,hk]))
  | r8 hx hk h h'=>exact SB (g hx (by simpa [af_,hk,ap_,aA_,ak_] using ⟨((h hr).2.1 rfl).2,(h' ((h hr).2.1 rfl).1).1 s1⟩) (by simp[Y_,hk]))
  | r9 h h'=>exact SB bot
  | r11 hx hk h=>exact SP (g hx (by simpa [af_,hk,ap_,aA_,ak_] using (h hr).1 s1) (by simp[Y_,hk]))
  | r12 h h' hm hl=>exact SP ((h hr).2.2 rfl)
  | r13 h h' hm hl=>exact SB bot
  | r14 hx hk h h1 h2=>exact SB (g hx (by simpa [af_,hk,ap_,aA_,ak_] using (h hr).2.2 rfl) (by simp[Y_,hk]))
theorem ue_ {p:List Pc} {A:List Str} {y:Fc} (h:Der p A y):y.kind=1∨y.kind=2∨y.kind=3 :=
  h.least (T:=fun y=>y.kind=1∨y.kind=2∨y.kind=3) fun y hy=>by cases hy<;>simp[ap_,aA_,ak_]
def gi_ (a:Ax):Prop:=a.kind=5∨a.kind=6∨a.kind=7
instance (a:Ax):Decidable (gi_ a):=by unfold gi_;infer_instance
def Mat (l:List Ax) (p:List Pc) (S:List Str) (i:Int):Prop:=(∃ a,l[i.toNat]? = some a∧gi_ a)∨∃ x∈p,x.frm=i∧Usb p S x
def matB (l:List Ax) (p:List Pc) (S:List Str) (i:Int):Bool:=((l[i.toNat]?).any fun a=>decide (gi_ a))||p.any fun x=>decide (x.frm=i)&&usbB p S x
theorem oX_ {l:List Ax} {p:List Pc} {S:List Str} {i:Int}:matB l p S i=true↔Mat l p S i:=by
 unfold matB Mat
 rw[Bool.or_eq_true,List.any_eq_true]
 refine or_congr ?_ ?_
 ·cases l[i.toNat]? <;> simp
 constructor
 ·rintro ⟨x,hx,h⟩
  rw[Bool.and_eq_true,decide_eq_true_eq,ol_]at h
  exact⟨x,hx,h⟩
 rintro ⟨x,hx,h1,h2⟩
 exact⟨x,hx,by rw[Bool.and_eq_true,decide_eq_true_eq,ol_];exact⟨h1,h2⟩⟩
def gc_ (l:List Ax) (p:List Pc) (S:List Str) (n:Nat):List Int:=(iot n).filter fun i=>matB l p S i
theorem jg_ {l:List Ax} {p:List Pc} {S:List Str} {n:Nat} (h:Mat l p S n):gc_ l p S (n+1)=gc_ l p S n++[(n:Int)]:=by
  unfold gc_
  rw[jn_,List.filter_append,List.filter_cons,if_pos (oX_.2 h)]
  rfl
theorem vh_ {l:List Ax} {p:List Pc} {S:List Str} {n:Nat} (h:¬ Mat l p S n):gc_ l p S (n+1)=gc_ l p S n:=by
  unfold gc_
  rw[jn_,List.filter_append,List.filter_cons,if_neg (fun q=>h (oX_.1 q))]
  simp
theorem sq_ {l:List Ax} {p:List Pc} {S:List Str}:gc_ l p S 0=[]:=by simp[gc_,iot]
theorem jh_ {l:List Ax} {p:List Pc} {S:List Str} (n:Nat):(gc_ l p S n).length≤n:=by
  unfold gc_
  refine Nat.le_trans (List.length_filter_le _ _) ?_
  simp[iot]
def gH_ (l:List Ax) (w:List Int):List Ax:=w.filterMap fun i=>l[i.toNat]?
theorem hd_ {l:List Ax} {w:List Int} {i:Int} {a:Ax} (h:l[i.toNat]? = some a):gH_ l (w++[i])=gH_ l w++[a]:=by simp[gH_,h]
end Go.Proofs.YtamklbgaipakfaaGreatDoor
namespace Go.Vs
open Go Go.Sx
def orF:List Int→Int
  | []=>0
  | x::l=>if x=0 then orF l else x
theorem tD_:∀ {l:List Int} {i:Nat} {x:Int},(∀ y∈l.take i,y=0)→l[i]? = some x→x≠0→orF l=x
  | [],_,_,_,h,_=>by simp at h
  | y::l,0,x,_,h,hx=>by simp at h;subst h;simp[orF,hx]
  | y::l,i+1,x,h0,h,hx=>by
    have hy:y=0:=h0 y (by simp)
    rw[orF,if_pos hy]
    exact tD_ (i:=i) (fun z hz=>h0 z (by rw[List.take_succ_cons];exact List.mem_cons_of_mem _ hz)) (by simpa using h) hx
theorem oO_:∀ {l:List Int},(∀ y∈l,y=0)→orF l=0
  | [],_=>rfl
  | y::l,h=>by rw[orF,if_pos (h y (by simp))];exact oO_ fun z hz=>h z (by simp[hz])
theorem cI_neg (x y:Int):Lib.compareInt x y<0↔x<y:=by unfold Lib.compareInt;(repeat' split)<;>omega
theorem nR_ (x y:Int):Lib.compareInt x y=0↔x=y:=by unfold Lib.compareInt;(repeat' split)<;>omega
theorem un_:∀ (x y:Str),Lib.compareBytes x y<0↔x<y
 | [],[]=>by simp[Lib.compareBytes]
 | [],b::y=>by simp[Lib.compareBytes]
 | a::x,[]=>by simp[Lib.compareBytes]
 | a::x,b::y=>by
   rw[Lib.compareBytes,List.cons_lt_cons_iff]
   by_cases h1:a<b
   · rw[if_pos h1];simp[h1]
   · by_cases h2:b<a
     · rw[if_neg h1,if_pos h2]
       have:a≠b:=fun e=>by subst e;exact h1 h2
       simp[h1,this]
     · have e:a=b:=UInt8.le_antisymm (UInt8.not_lt.1 h2) (UInt8.not_lt.1 h1)
       rw[if_neg h1,if_neg h2,un_ x y];simp[e]
theorem jv_:∀ (x y:Str),Lib.compareBytes x y=0↔x=y
 | [],[]=>by simp[Lib.compareBytes]
 | [],b::y=>by simp[Lib.compareBytes]
 | a::x,[]=>by simp[Lib.compareBytes]
 | a::x,b::y=>by
   rw[Lib.compareBytes]
   by_cases h1:a<b
   · rw[if_pos h1]
     have:a≠b:=fun e=>by subst e;exact absurd h1 (UInt8.lt_irrefl a)
     simp[this]
   · by_cases h2:b<a
     · rw[if_neg h1,if_pos h2]
       have:a≠b:=fun e=>by subst e;exact h1 h2
       simp[this]
     · have e:a=b:=UInt8.le_antisymm (UInt8.not_lt.1 h2) (UInt8.not_lt.1 h1)
       rw[if_neg h1,if_neg h2,jv_ x y];simp[e]
theorem ig_ (x:Int) (l:List Int):orF (x::l)<0↔x<0∨x=0∧orF l<0:=by
  rw[orF];split<;>omega
theorem ir_ (x:Int) (l:List Int):orF (x::l)=0↔x=0∧orF l=0:=by
  rw[orF];split<;>omega
theorem rg_:orF []=0:=rfl
theorem iI_:∀ (x y:Str),Lib.compareBytes x y=if x<y then -1 else if y<x then 1 else 0
 | [],[]=>by simp[Lib.compareBytes]
 | [],b::y=>by simp[Lib.compareBytes]
 | a::x,[]=>by simp[Lib.compareBytes]
 | a::x,b::y=>by
   rw[Lib.compareBytes]
   by_cases h1:a<b
   · have l:a::x<b::y:=by rw[List.cons_lt_cons_iff];exact .inl h1
     rw[if_pos h1,if_pos l]
   · by_cases h2:b<a
     · have l:b::y<a::x:=by rw[List.cons_lt_cons_iff];exact .inl h2
       have nl:¬ a::x<b::y:=fun q=>absurd (List.lt_trans q l) (List.lt_irrefl _)
       rw[if_neg h1,if_pos h2,if_neg nl,if_pos l]
     · have e:a=b:=UInt8.le_antisymm (UInt8.not_lt.1 h2) (UInt8.not_lt.1 h1)
       subst e
       rw[if_neg h1,if_neg h2,iI_ x y]
       simp only[List.cons_lt_cons_iff,h1,false_or,true_and]
def Tr3 (x y z:Int):Prop:=(x≤0→y≤0→z≤0∧(z=0→x=0∧y=0))∧(x=0→y=0→z=0)
theorem Tr3.or {x y z x' y' z':Int} (h:Tr3 x y z) (h':Tr3 x' y' z'):Tr3 (if x=0 then x' else x) (if y=0 then y' else y) (if z=0 then z' else z):=by
  unfold Tr3 at h h' ⊢
  (repeat' split)<;>omega
theorem Tr3.nil:Tr3 0 0 0:=by unfold Tr3;omega
theorem Tr3.orF {x y z:Int} {l m n:List Int} (h:Tr3 x y z) (h':Tr3 (Go.Vs.orF l) (Go.Vs.orF m) (Go.Vs.orF n)):Tr3 (Go.Vs.orF (x::l)) (Go.Vs.orF (y::m)) (Go.Vs.orF (z::n)):=by
  rw[Go.Vs.orF,Go.Vs.orF,Go.Vs.orF];exact h.or h'
def dR_:List Str→List Str→Int
  | [],[]=>0
  | [],_::_=>-1
  | _::_,[]=>1
  | x::xs,y::ys=>if Lib.compareBytes x y=0 then dR_ xs ys else Lib.compareBytes x y
theorem mU_:∀ a b,dR_ a b=0↔a=b
  | [],[]=>by simp[dR_]
  | [],_::_=>by simp[dR_]
  | _::_,[]=>by simp[dR_]
  | x::xs,y::ys=>by
    rw[dR_,List.cons.injEq,← jv_,← mU_ xs ys]
    split<;>simp_all
namespace Con
def core:Con→Con
  | mk k n l h _ _ ps=>mk k n l h none 0 (cores ps)
where cores:List Con→List Con
  | []=>[]
  | p::ps=>core p::cores ps
theorem mP_:∀ ps:List Con,core.cores ps=ps.map core
  | []=>rfl
  | p::ps=>by rw[core.cores,mP_ ps];rfl
theorem core_eq (c:Con):c.core=mk c.kind c.name c.lo c.hi none 0 (c.parts.map core):=by cases c;simp only[core,mP_,kind,name,lo,hi,parts]
def cmp:Con→Con→Int
  | mk k n l h _ _ ps,d=>orF [Lib.compareInt ((1+sz.szs ps:Nat):Int) (d.sz:Int),Lib.compareInt k d.kind,Lib.compareBytes n d.name,Lib.compareInt l d.lo,Lib.compareInt h d.hi,cmps ps d.parts]
where cmps:List Con→List Con→Int
  | [],[]=>0
  | [],_::_=>-1
  | _::_,[]=>1
  | p::ps,q::qs=>if cmp p q=0 then cmps ps qs else cmp p q
theorem cmp_eq (c d:Con):cmp c d=orF [Lib.compareInt (c.sz:Int) (d.sz:Int),Lib.compareInt c.kind d.kind,Lib.compareBytes c.name d.name,Lib.compareInt c.lo d.lo,Lib.compareInt c.hi d.hi,cmp.cmps c.parts d.parts]:=by cases c;rfl
mutual
theorem cmp_zero:∀ a b:Con,cmp a b=0↔a.core=b.core
  | mk k n l h a cp ps,mk k' n' l' h' a' cp' ps'=>by
    rw[cmp,core,core]
    simp only[ir_,rg_]
    simp only[nR_,jv_,mR_ ps ps',and_true,mk.injEq,kind,name,lo,hi,parts,true_and]
    constructor
    · rintro ⟨_,h2,h3,h4,h5,h6⟩;exact⟨h2,h3,h4,h5,h6⟩
    · rintro ⟨h2,h3,h4,h5,h6⟩
      refine⟨?_,h2,h3,h4,h5,h6⟩
      have:=kZ_ ps ps' h6
      simp only[sz];omega
theorem mR_:∀ a b:List Con,cmp.cmps a b=0↔core.cores a=core.cores b
  | [],[]=>by simp[cmp.cmps]
  | [],_::_=>by simp[cmp.cmps,core.cores]
  | _::_,[]=>by simp[cmp.cmps,core.cores]
  | x::xs,y::ys=>by
    rw[cmp.cmps,core.cores,core.cores,List.cons.injEq,← cmp_zero x y,← mR_ xs ys]
    split<;>simp_all
theorem sz_core:∀ a b:Con,a.core=b.core→a.sz=b.sz
  | mk k n l h a cp ps,mk k' n' l' h' a' cp' ps'=>by
    rw[core,core,mk.injEq]
    rintro ⟨_,_,_,_,_,_,h6⟩
    have:=kZ_ ps ps' h6
    simp only[sz];omega
theorem kZ_:∀ a b:List Con,core.cores a=core.cores b→sz.szs a=sz.szs b
  | [],[]=>fun _=>rfl
  | [],_::_=>by simp[core.cores]
  | _::_,[]=>by simp[core.cores]
  | x::xs,y::ys=>by
    rw[core.cores,core.cores,List.cons.injEq]
    rintro ⟨h1,h2⟩
    have:=sz_core x y h1
    have:=kZ_ xs ys h2
    simp only[sz.szs];omega
end
theorem cmp_self (a:Con):cmp a a=0:=(cmp_zero a a).2 rfl
end Con
def Ax.wgt (x:Ax):Int:=(if x.left.kind=0 then 0 else (x.left.sz:Int))+(if x.right.kind=0 then 0 else (x.right.sz:Int))+(x.roles.length:Int)+(if x.role=[] then 0 else 1)+(if x.a=[] then 0 else 1)+(if x.b=[] then 0 else 1)
def Ax.cmp (x y:Ax):Int:=orF [Lib.compareInt x.wgt y.wgt,Lib.compareInt x.kind y.kind,Con.cmp x.left y.left,Con.cmp x.right y.right,dR_ x.roles y.roles,Lib.compareBytes x.role y.role,Lib.compareBytes x.a y.a,Lib.compareBytes x.b y.b]
def Ax.alk (x y:Ax):Prop:=x.kind=y.kind∧x.left.core=y.left.core∧x.right.core=y.right.core∧x.roles=y.roles∧x.role=y.role∧x.a=y.a∧x.b=y.b
theorem Con.core_kind {a b:Con} (h:a.core=b.core):a.kind=b.kind:=by
  rw[Con.core_eq,Con.core_eq,Con.mk.injEq]at h;exact h.1
theorem Ax.cmp_zero (x y:Ax):cmp x y=0↔x.alk y:=by
 unfold cmp alk
 simp only[ir_,rg_]
 simp only[nR_,jv_,Con.cmp_zero,mU_,and_true]
 constructor
 ·rintro ⟨_,h⟩;exact h
 rintro ⟨h1,h2,h3,h4,h5,h6,h7⟩
 refine⟨?_,h1,h2,h3,h4,h5,h6,h7⟩
 unfold wgt
 rw[Con.core_kind h2,Con.core_kind h3,Con.sz_core _ _ h2,Con.sz_core _ _ h3,h4,h5,h6,h7]
theorem Ax.cmp_self (x:Ax):cmp x x=0:=(cmp_zero x x).2 ⟨rfl,rfl,rfl,rfl,rfl,rfl,rfl⟩
end Go.Vs
namespace Go.Proofs.YtamklbgaipakfaaGreatDoor
open Go Go.Sx Go.Proofs
attribute [local irreducible] Code.wp wpList wpAnyH
open Go.Vs
instance:Inhabited Fc:=⟨⟨0,[],[],[],0,0⟩⟩
theorem fg_ (x y:Int):Fn0 Tryz.prog 97 #[.int .i64 x,.int .i64 y] (.int .i64 (Lib.compareInt x y)) :=
  dQ_ (callable Tryz.func97 rfl rfl) fun v _ _=>(Tryz.cmp_Compare_int x y v.w).mono (by rintro e w' ⟨rfl,rfl⟩;exact⟨rfl,⟨rfl,rfl,rfl,Nat.le_refl _,fun _ _=>rfl⟩,.inr (Nat.le_refl _)⟩)
theorem cX_ (x y:Str):Fn0 Tryz.prog 100 #[str x,str y] (.int .i64 (Lib.compareBytes x y)) :=
  dQ_ (callable Tryz.func100 rfl rfl) fun v _ _=>(Tryz.strings_Compare ⟨x.toArray⟩ ⟨y.toArray⟩ v.w).mono (by rintro e w' ⟨rfl,rfl⟩;exact⟨rfl,⟨rfl,rfl,rfl,Nat.le_refl _,fun _ _=>rfl⟩,.inr (Nat.le_refl _)⟩)
def kB_ (x y:Fc):Int:=orF [Lib.compareInt x.kind y.kind,Lib.compareBytes x.a y.a,Lib.compareBytes x.b y.b,Lib.compareBytes x.r y.r,Lib.compareInt x.lo y.lo,Lib.compareInt x.hi y.hi]
theorem uk_ (x y:Fc):kB_ x y<0↔x.lt y:=by
  unfold kB_ Fc.lt
  rw[ig_,ig_,ig_,ig_,ig_,ig_]
  simp only[cI_neg,nR_,un_,jv_,orF,Int.lt_irrefl,and_false,or_false]
theorem ln_ (l:List Int) (ad:Option Addr) (cap:Nat) (hl:l.length≤1000):Tri Tryz.prog 96 #[.slice ad (List.length l) cap] [] [ah_ ad (List.flatMap eJ_ l)] (fun _:Unit=>.int .i64 (orF l)) (fun _=>[]) (fun _=>[]):=by
 refine l_ Tryz.func96 rfl rfl Tryz.ntmps96 rfl fun v0=>?_
 refine Zz 19 ?_
 refine ab_ (ι:={y:Nat // y≤l.length∧∀ z∈l.take y,z=0}) (fun y=>[(3,.int .i64 0),(6,.slice ad (List.length l) cap),(7,.int .i64 (List.length l:Int)),(8,.int .i64 (y.1:Int))]) (fun y=>([])) (fun y=>[ah_ ad (List.flatMap eJ_ l)]) (fun y=>l.length - y.1) ⟨(0:Nat),by simp,by simp⟩ zl g_ zh ?_
 rintro ⟨i,hi,h0⟩
 dsimp only at hi h0 ⊢
 refine Zi 2 (fun hr1=>?_) fun hr1=>?_
 ·refine Zz 13 ?_
  exact I_ Tryz.results96 () (P_ rfl (oO_ fun y hy=>h0 y (by rw[List.take_of_length_le (by omega)];exact hy)).symm) g_ zt
 obtain⟨hlx1,x1,hx1,hmx1⟩:=zge (show i<List.length l by omega)
 refine Zi 19 (fun hr2=>?_) fun hr2=>?_
 ·refine Zz 10 ?_
  exact B_ ⟨i+1,hlx1,fun y hy=>by rw[List.take_add_one,hx1]at hy;simp only[Option.toList_some,List.mem_append,List.mem_singleton]at hy;rcases hy with hy|rfl;exact h0 y hy;omega⟩ (by dsimp only;omega) zl g_ zh
 refine Zz 10 ?_
 exact I_ Tryz.results96 () (P_ rfl (tD_ h0 hx1 (by assumption)).symm) g_ zt
theorem cmpF_c (x y:Fc):Fn0 Tryz.prog 76 #[Fc.val x,Fc.val y] (.int .i64 (kB_ x y)):=by
  refine l_ Tryz.func76 rfl rfl Tryz.ntmps76 rfl fun v0=>?_
  refine Zz 2 ?_
  refine O_ rfl rfl fun b1=>O_ rfl rfl fun b2=>Zz 5 ?_
  refine t_ 9 [0,1,2,3,5,6,7,8,10,11,12,13,15,16,17,18,20,21,22,23,25,26,27,28] zk zs (Zz 25 ?_)
  refine j_ 4 rfl zk (f_ (fg_ x.kind y.kind) rfl g_ zt rfl fun _=>Zz 3 ?_)
  refine j_ 9 rfl zk (f_ (cX_ x.a y.a) rfl g_ zt rfl fun _=>Zz 3 ?_)
  refine j_ 14 rfl zk (f_ (cX_ x.b y.b) rfl g_ zt rfl fun _=>Zz 3 ?_)
  refine j_ 19 rfl zk (f_ (cX_ x.r y.r) rfl g_ zt rfl fun _=>Zz 3 ?_)
  refine j_ 24 rfl zk (f_ (fg_ x.lo y.lo) rfl g_ zt rfl fun _=>Zz 3 ?_)
  refine j_ 29 rfl zk (f_ (fg_ x.hi y.hi) rfl g_ zt rfl fun _=>Zz 3 ?_)
  refine j_ 30 rfl zk (C_ ao_ as_ bl_ rfl rfl rfl rfl rfl rfl fun b3=>?_)
  refine aj_ (List.flatMap eJ_ [(Lib.compareInt x.kind y.kind),(Lib.compareBytes x.a y.a),(Lib.compareBytes x.b y.b),(Lib.compareBytes x.r y.r),(Lib.compareInt x.lo y.lo),(Lib.compareInt x.hi y.hi)]) e_ rfl ?_
  refine Zz 3 ?_
  refine j_ 31 rfl zk (f_ (ln_ [(Lib.compareInt x.kind y.kind),(Lib.compareBytes x.a y.a),(Lib.compareBytes x.b y.b),(Lib.compareBytes x.r y.r),(Lib.compareInt x.lo y.lo),(Lib.compareInt x.hi y.hi)] (some ⟨b3,0,none⟩) 6 (by simp)) rfl g_ zf rfl fun _=>Zz 3 ?_)
  refine t_ 0 [32] zk zs (Zz 5 ?_)
  exact I_ Tryz.results76 () (P_ rfl (by rfl)) g_ zt
end Go.Proofs.YtamklbgaipakfaaGreatDoor
namespace Go.Proofs.YtamklbgaipakfaaGreatDoor
open Go Go.Sx Go.Proofs
attribute [local irreducible] Code.wp wpList wpAnyH
open Go.Vs
structure Cl where
  atoms:List Str
  aad:Option Addr
  acap:Nat
  facts:List Fc
  fad:Option Addr
  fcap:Nat
def Cl.cells (c:Cl):List Value:=[.slice c.aad c.atoms.length c.acap,.slice c.fad c.facts.length c.fcap]
theorem Cl.cells_len (c:Cl):c.cells.length=2:=rfl
def Cl.val (c:Cl):Value:=.agg c.cells.toArray
def Cl.row (c:Cl):List Fct:=[ah_ c.aad (List.flatMap ax_ c.atoms),ah_ c.fad (List.flatMap Fc.cells c.facts)]
def Cl.no:Cl:=Cl.mk [] none 0 [] none 0
structure Cl.ok (c:Cl):Prop where
  al:c.atoms.length≤c.acap
  am:c.acap≤maxLen
  az:c.aad=none→c.acap=0
  fl:c.facts.length≤c.fcap
  fm:c.fcap≤maxLen
  fz:c.fad=none→c.fcap=0
theorem uS_ {s:Str} (h:cr_ s=true):s≠[]:=fun e=>by subst e;revert h;decide
theorem sc_ {s:Str} (h:aU_ s=true):s≠[]:=fun e=>by subst e;revert h;decide
theorem rz_ {p:Pc} (h:p.valid=true):p.vok:=by
 unfold Pc.valid at h
 split at h
 ·simp at h
 rename_i h1
 split at h
 ·simp at h
 rename_i h2
 split at h
 ·simp at h
 have hk:p.kind=1∨p.kind=2∨p.kind=3∨p.kind=4∨p.kind=5∨p.kind=6∨p.kind=7∨p.kind=8∨p.kind=9:=by omega
 have hn:∀ {b:Bool} {s:Str},ch_ b s cr_=true→b=true→s≠[]:=fun h1 h2=>by
   subst h2;simp[ch_]at h1;exact uS_ h1
 have hn':∀ {b:Bool} {s:Str},ch_ b s aU_=true→b=true→s≠[]:=fun h1 h2=>by
   subst h2;simp[ch_]at h1;exact sc_ h1
 simp only[Bool.and_eq_true]at h
 obtain⟨⟨⟨⟨⟨_,_⟩,_⟩,hr⟩,hs⟩,ht⟩:=h
 unfold Pc.rok at *
 refine⟨⟨fun q=>?_,fun q=>?_,fun q=>?_⟩,fun q=>?_⟩
 ·rcases q with q|q|q|q|q|q|q<;>rw[q]at hr
  ·exact hn hr (by decide)
  ·exact hn hr (by decide)
  ·exact hn hr (by decide)
  ·exact hn' hr (by decide)
  ·exact hn hr (by decide)
  ·exact hn hr (by decide)
  exact hn' hr (by decide)
 ·rw[q]at hs ht;exact⟨hn hs (by decide),hn ht (by decide)⟩
 ·rw[q]at ht;exact hn ht (by decide)
 rcases q with q|q<;>rw[q]at h2<;>have:(nus 8).numbers=true∧(nus 9).numbers=true:=by decide
 all_goals simp only[this.1,this.2,true_and]at h2;omega
theorem um_ {p:List Pc} (h:dS_ p=0):p.length≤16384∧p.all Pc.valid=true:=by
 unfold dS_ at h
 split at h
 ·simp at h
 split at h
 ·exact⟨by omega,by assumption⟩
 simp at h
theorem sI_ {p:List Pc} (h:dS_ p=0):∀ x∈p,x.vok:=fun x hx=>rz_ (List.all_eq_true.1 (um_ h).2 x hx)
section
variable {P:Program} {N:Nf} {v0:Vw} {H0:Hp} {fr:Fr} {H F Ha Hu Ho Hi Hr Hm Hs:Hp} {Γ:List Fct}
theorem eF_ {fn:Func} {t s b n:Nat} {ty T:TypeId} {us:List Value} {u:Value} (i:Nat) (hr:fn.results=#[.cell t ty,.tmp s]) (ha:∀ w,(isAgg ty).run P w=.ok true w) (hs:∀ w,(sizeOf ty).run P w=.ok n w) (hn:us.length=n) (hx:Fr.get fr t=some (zp_ b 0)) (hu:Fr.get fr s=some u)
    (hi:H[i]? = some (b,.cells us.toArray T (0,0))) (a:Act) (v:Vw) (h1:Fr.sat N fr a) (h2:v.sat H):(results fn a.tmps).run P v.w=.ok (.tuple #[.agg us.toArray,u]) v.w:=by
  have e:=h1.val t _ hx
  have e2:=h1.val s _ hu
  have hl:=dU_ (t:=ty) (w:=v.w) (b:=b) (off:=0) ha hs hn (fun j y hj=>by rw[Nat.zero_add,fa_ h2 hi];simpa using hj)
  simp[results,hr,e,e2,asAddr,hl]
theorem pZ_ (h:H.Perm ((Ha++(Hu++(Ho++(Hi++(Hr++(Hm++Hs))))))++F)):H.Perm (((Ha++(Hu++(Ho++(Hi++(Hr++Hm)))))++Hs)++F):=by simpa [List.append_assoc] using h
theorem nn_:(((Ha++(Hu++(Ho++(Hi++(Hr++Hm)))))++Hs)++F).Perm (Ha++(Hu++(Ho++(Hi++(Hr++(Hm++(Hs++F))))))):=by simp[List.append_assoc]
theorem va_ {a b c:Nat×Obj} {Hq:Hp}:((Ha++(Hu++(Ho++(Hi++(Hr++(Hm++(a::b::([c]++Hq))))))))++F).Perm (Ha++(Hu++(Ho++(Hi++(Hr++(Hm++(a::b::([c]++(Hq++F))))))))):=by simp[List.append_assoc]
end
theorem fD_:io_ Tryz.prog 61 [(0,1),(1,1)] [.slice none 0 0,.slice none 0 0]:=⟨_,Tryz.zeroValue61,cR_,fun w=>by simp[gE_,Tryz.sizeOf59]⟩
end Go.Proofs.YtamklbgaipakfaaGreatDoor
