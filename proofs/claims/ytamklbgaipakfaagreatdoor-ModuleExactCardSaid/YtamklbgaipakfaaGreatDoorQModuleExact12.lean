/-
  Part of the proof of the law ModuleExact over this seat: the small logic, the data, the contracts of functions (no condition).
-/
import Derived.Test.YtamklbgaipakfaaGreatDoorQModuleExact9
import Derived.Test.YtamklbgaipakfaaGreatDoorQModuleExact11
import Derived.Test.YtamklbgaipakfaaGreatDoorQModuleExact7
import Derived.Test.YtamklbgaipakfaaGreatDoorQModuleExact2
import Derived.Lib.Bytealg
import Derived.Lib.Small
import Derived.Test.YtamklbgaipakfaaGreatDoorQModuleExact3
set_option linter.unusedVariables false
set_option linter.unusedSimpArgs false
set_option linter.unusedSectionVars false
set_option maxHeartbeats 1000000
namespace Go.Sx
open Go Go.Vs
section
variable {P:Program} {N:Nf} {v0:Vw} {H0:Hp} {R:Exit→Act→World→Prop} {Kk:List Kt} {fr:Fr} {H:Hp} {Γ:List Fct}
variable {ops:Array Oper} {lo:List Oper} {d:Nat} {ty:TypeId} {ps:String} {af:Array Edge}
variable {K:Type} [DecidableEq K] {kv:K→Value}
theorem IntE.at {kt:TypeId} {es:Array MapEntry} {ks:List K} {vs:List Int} (hK:KeyT P kt kv) (h:IntE kv es ks vs) {k:K} {i:Nat} {n:Int} (hi:ks[i]? = some k) (hn:vs[i]? = some n):∃ e,es[i]? = some e∧e.key=kv k∧e.val=.int .i64 n∧ek_ P kt (kv k) es.toList (some (i,.int .i64 n)):=by
  have hlt:i<es.toList.length:=by
    have:=(List.getElem?_eq_some_iff.1 hi).1
    have e:=congrArg List.length h.keys
    simp only[List.length_map]at e
    omega
  have hx:=List.getElem?_eq_getElem hlt
  have hv:=congrArg (fun l=>l[i]?) h.vals
  simp only[List.getElem?_map,hx,Option.map_some,hn,Option.some.injEq]at hv
  have hk:=congrArg (fun l=>l[i]?) h.keys
  simp only[List.getElem?_map,hx,Option.map_some,hi,Option.some.injEq]at hk
  refine⟨es.toList[i],by rw[← Array.getElem?_toList];exact hx,hk,hv,?_⟩
  have:=hK.sf k es.toList ks i _ h.keys h.nd hi hx
  rwa [hv]at this
theorem mq_ {t kt et:TypeId} {x y:Operand} {mb c:Nat} {es:Array MapEntry} {ks:List K} {vs:List Int} {k:K} {i:Nat} {n:Int} (hK:KeyT P kt kv) (hu:∀ w,(underlying t).run P w=.ok (.map kt et) w) (hx:Fr.ev fr x=some (.map (some mb))) (hy:Fr.ev fr y=some (kv k))
    (hE:IntE kv es ks vs) (hi:ks[i]? = some k) (hn:vs[i]? = some n) (hm:∀ v,v.sat H→au_ Γ v→v.w.heap[mb]? = some (.map es c)):Yld P N fr H Γ (.lookup t x y false) ty (.int .i64 n):=by
  obtain⟨_,_,_,_,hf⟩:=hE.at hK hi hn
  exact fZ_ hu hx hy hm (hK.ok k) hf
theorem qz_ {kv:K→Value} {es:Array MapEntry} {ks:List K} {vs:List Int} (h:IntE kv es ks vs) {k:K} {i:Nat} (hi:ks[i]? = some k) (n:Int):IntE kv (es.modify i fun y=>{ y with key:=kv k,val:=.int .i64 n }) ks (vs.set i n):=by
 have hlen:=congrArg List.length h.vals
 simp only[List.length_map]at hlen
 have hlk:=congrArg List.length h.keys
 simp only[List.length_map]at hlk
 refine⟨?_,?_,h.nd⟩
 ·rw[← h.keys]
  apply List.ext_getElem?
  intro j
  simp only[List.getElem?_map,Array.getElem?_toList,Array.getElem?_modify]
  by_cases hij:i=j
  ·subst hij
   rw[if_pos rfl]
   have hk:=congrArg (fun l=>l[i]?) h.keys
   simp only[List.getElem?_map,hi,Option.map_some,Array.getElem?_toList]at hk
   cases he:es[i]? with
   | none=>rfl
   | some e=>rw[he]at hk;simpa using hk.symm
  rw[if_neg hij]
 apply List.ext_getElem?
 intro j
 have hv:=congrArg (fun l=>l[j]?) h.vals
 simp only[List.getElem?_map,Array.getElem?_toList,Array.getElem?_modify,List.getElem?_set]at hv ⊢
 by_cases hij:i=j
 ·subst hij
  rw[if_pos rfl,if_pos rfl]
  have hlt:i<es.size:=by
    have:=(List.getElem?_eq_some_iff.1 hi).1
    rw[Array.length_toList]at hlk
    omega
  have hlt2:i<vs.length:=by rw[Array.length_toList]at hlen;omega
  rw[if_pos hlt2,Array.getElem?_eq_getElem hlt]
  rfl
 rw[if_neg hij,if_neg hij];exact hv
theorem qv_ {o:Op} {t kt et:TypeId} {x y z:Operand} {mb c:Nat} (j:Nat) {es:Array MapEntry} {ks:List K} {vs:List Int} {k:K} {i:Nat} {m n:Int} (hK:KeyT P kt kv) (ho:o=.insert t x y z∨o=.mapUpdate t x y z) (hu:∀ w,(underlying t).run P w=.ok (.map kt et) w)
    (hx:Fr.ev fr x=some (.map (some mb))) (hy:Fr.ev fr y=some (kv k)) (hz:Fr.ev fr z=some (.int .i64 n)) (hb:H[j]? = some (mb,.map es c)) (hE:IntE kv es ks vs) (hi:ks[i]? = some k) (hm:vs[i]? = some m)
    (hkk:∀ es',IntE kv es' ks (vs.set i n)→Ops P R N v0 H0 ops lo Kk fr (H.set j (mb,.map es' c)) Γ):Ops P R N v0 H0 ops (⟨none,o,ty,ps,af,none⟩::lo) Kk fr H Γ:=by
  obtain⟨e,h1,h2,h3,hf⟩:=hE.at hK hi hm
  exact hn_ j hK ho hu hx hy hz hb hf h1 h2 (hkk _ (qz_ hE hi n))
end
end Go.Sx
namespace Go.Vs
open Go Go.Sx
def Thg.eqb (p q:Thg):Bool:=(p.kind==q.kind)&&((p.name==q.name)&&true)
theorem Thg.eqb_eq (p q:Thg):p.eqb q=decide (p=q):=by
  rw[Bool.eq_iff_iff];cases p;cases q;simp[Thg.eqb]
theorem jy_:∀ (l m K:List Thg),by_ K (l++m)=by_ K l++by_ (K++by_ K l) m
 | [],m,K=>by simp[by_]
 | u::l,m,K=>by
   rw[List.cons_append,by_,by_]
   by_cases hu:u∈K
   · rw[if_pos hu,if_pos hu,jy_ l m K]
   · rw[if_neg hu,if_neg hu,jy_ l m (K++[u]),show K++u::by_ (K++[u]) l=(K++[u])++by_ (K++[u]) l by simp]
     rfl
theorem hb_:∀ (l K:List Thg),(by_ K l).length≤l.length
 | [],K=>by simp[by_]
 | u::l,K=>by
   rw[by_]
   by_cases hu:u∈K
   · rw[if_pos hu];have:=hb_ l K;simp only[List.length_cons];omega
   · rw[if_neg hu];have:=hb_ l (K++[u]);simp only[List.length_cons];omega
theorem take_snoc {α:Type} {l:List α} {i:Nat} {x:α} (h:l[i]? = some x):l.take (i+1)=l.take i++[x]:=by
  rw[List.take_add_one,h];rfl
theorem pK_ {W K l:List Thg} {j:Nat} {t:Thg} (h:l[j]? = some t):W++by_ K (l.take (j+1))=(W++by_ K (l.take j))++by_ (K++by_ K (l.take j)) [t]:=by
  rw[take_snoc h,jy_,List.append_assoc]
theorem qY_ {S:List Str} {j:Nat} {s:Str} (h:S[j]? = some s):dv_ (S.take (j+1))=dv_ (S.take j)++[⟨1,s⟩]:=by
  unfold dv_;rw[take_snoc h,List.map_append,← List.append_assoc];rfl
theorem sX_ {S:List Str} {j:Nat} {s:Str} (h:S[j]? = some s):by_ [] (dv_ (S.take (j+1)))=by_ [] (dv_ (S.take j))++by_ (by_ [] (dv_ (S.take j))) [⟨1,s⟩]:=by
  rw[qY_ h,jy_];rfl
theorem sW_:by_ [] (dv_ (([]:List Str).take 0))=([]++by_ [] [⟨1,[42]⟩])++by_ ([]++by_ [] [⟨1,[42]⟩]) [⟨1,[33]⟩]:=by decide
theorem oj_ (p:List Pc) (S:List Str):KW p S (by_ [] (dv_ S)) (by_ [] (dv_ S)):=by
  have h0:KW p S [] []:=⟨by simp,List.nodup_nil,by simp,List.nodup_nil⟩
  have:=h0.ext (l:=dv_ S) fun t ht=>.base ht
  simpa using this
theorem pU_ (S:List Str):∀ t∈dv_ S,t∈by_ [] (dv_ S):=fun t ht=>by
  have:=(gn_ (dv_ S) [] t).2 (.inr ht)
  simpa using this
theorem KW.wlen {p:List Pc} {S:List Str} {K W:List Thg} (h:KW p S K W):W.length≤(iY_ p S).length:=eG_ W _ h.wn fun t ht=>(h.snd t (h.sub t ht)).univ
def eE_:Nat→List Pc→List (Thg×Int)
  | _,[]=>[]
  | k,x::l=>(ag_ x).map (fun t=>(t,(k:Int)))++eE_ (k+1) l
theorem oF_:∀ (l m:List Pc) (k:Nat),eE_ k (l++m)=eE_ k l++eE_ (k+l.length) m
  | [],m,k=>by simp[eE_]
  | x::l,m,k=>by
    rw[List.cons_append,eE_,eE_,oF_ l m (k+1),List.append_assoc,List.length_cons,show k+1+l.length=k+(l.length+1) by omega]
theorem my_ {p:List Pc} {i:Nat} {x:Pc} (h:p[i]? = some x):eE_ 0 (p.take (i+1))=eE_ 0 (p.take i)++(ag_ x).map fun t=>(t,(i:Int)):=by
  have hl:=(List.getElem?_eq_some_iff.1 h).1
  rw[take_snoc h,oF_,List.length_take,Nat.min_eq_left (by omega),Nat.zero_add]
  simp[eE_]
theorem mk_ {l:List Thg} {k:Int} {t:Thg}:lat (l.map fun u=>(u,k)) t=List.replicate (l.count t) k:=by
 induction l with
 | nil=>rfl
 | cons u l ih =>
   unfold lat at ih ⊢
   rw[List.map_cons,List.count_cons,List.filter_cons]
   by_cases e:u=t
   · subst e
     rw[if_pos (by simp),List.map_cons,ih]
     simp[List.replicate_succ]
   · rw[if_neg (by simpa using e),ih,beq_eq_false_iff_ne.2 e]
     simp
theorem iG_:∀ (l:List Pc) (k:Nat) (t:Thg) (m:Int),(lat (eE_ k l) t).count m=if h:(k:Int)≤m∧m<k+l.length then ((l[(m - k).toNat]?).map fun x=>(ag_ x).count t).getD 0 else 0
 | [],k,t,m=>by
   simp only[eE_,List.length_nil]
   split
   · rename_i h;exact absurd h.2 (by omega)
   · rfl
 | x::l,k,t,m=>by
   rw[eE_,iO_,List.count_append,mk_,List.count_replicate,iG_ l (k+1) t m]
   by_cases e:m=(k:Int)
   · subst e
     rw[if_pos (by simp),dif_neg (by omega),dif_pos (by simp only[List.length_cons];omega)]
     simp
   · rw[if_neg (by simpa using fun q:(k:Int)=m=>e q.symm)]
     by_cases h:((k+1:Nat):Int)≤m∧m<((k+1:Nat):Int)+l.length
     · rw[dif_pos h,dif_pos (by simp only[List.length_cons];omega),show (m - (k:Int)).toNat=(m - ((k+1:Nat):Int)).toNat+1 by omega]
       simp
     · rw[dif_neg h,dif_neg (by simp only[List.length_cons];omega)]
theorem qd_ (p:List Pc) (t:Thg):ld_ p (lat (eE_ 0 p) t) t:=by
 constructor
 ·intro m hm
  have h:=List.count_pos_iff.2 hm
  rw[iG_]at h
  by_cases hh:((0:Nat):Int)≤m∧m<((0:Nat):Int)+p.length
  ·omega
  rw[dif_neg hh]at h;omega
 intro i x hx
 have hl:=(List.getElem?_eq_some_iff.1 hx).1
 rw[iG_,dif_pos (by omega),show ((i:Int) - ((0:Nat):Int)).toNat=i by omega,hx]
 rfl
theorem le_:∀ (l:List Pc) (k:Nat),(eE_ k l).length≤2*l.length
  | [],_=>by simp[eE_]
  | x::l,k=>by
    have h1:=le_ l (k+1)
    have h2:=hp_ x
    simp only[eE_,List.length_append,List.length_map,List.length_cons];omega
def StK (tk tw te:TypeId) (b4 b8 kb:Nat) (K W:List Thg) (H:Hp):Prop:=∃ es c sv Hw,H=(b4,.cells #[.map (some kb)] tk (0,0))::(b8,.cells #[sv] tw (0,0))::(kb,.map es c)::Hw∧SetE Thg.val es K∧Born es c∧aL_ te 2 sv W.length (W.flatMap Thg.cells) Hw
def tZ_ (p:List Pc):List Int:=p.map fun x=>((ag_ x).length:Int)
theorem mS_ {p:List Pc} {i:Nat} {x:Pc} (h:p[i]? = some x):tZ_ (p.take (i+1))=tZ_ (p.take i)++[((ag_ x).length:Int)]:=by
  unfold tZ_;rw[take_snoc h,List.map_append];rfl
theorem vG_ (n:Nat):¬ (n:Int)∈iot n:=fun h=>by
  obtain⟨k,hk⟩:=List.getElem?_of_mem h
  have e:=rC_ hk
  have hl:=(List.getElem?_eq_some_iff.1 hk).1
  rw[vH_]at hl
  omega
theorem qO_ {n i:Nat} (h:i<n):(iot n)[i]? = some (i:Int):=by
  unfold iot;rw[List.getElem?_map,List.getElem?_range h];rfl
end Go.Vs
namespace Go.Vs
open Go Go.Sx
def nB_ (p:List Pc) (K:List Thg):List Thg:=(p.filter fun x=>decide (∀ u∈ag_ x,u∈K)).flatMap ae_
def kG_ (p:List Pc):Nat→List Thg→List Thg
  | 0,K=>K
  | n+1,K=>kG_ p n (K++by_ K (nB_ p K))
def qn_ (p:List Pc) (S:List Str):List Thg:=kG_ p (2*p.length+S.length+3) (by_ [] (dv_ S))
theorem tF_ {p:List Pc} {S:List Str} {K:List Thg} (h:∀ t∈K,Rch p S t):∀ t∈nB_ p K,Rch p S t:=fun t ht=>by
  obtain⟨x,hx,hg⟩:=List.mem_flatMap.1 ht
  obtain⟨h1,h2⟩:=List.mem_filter.1 hx
  exact .give h1 (fun u hu=>h u (of_decide_eq_true h2 u hu)) hg
theorem rq_ {p:List Pc} {S:List Str}:∀ (n:Nat) (K:List Thg),KW p S K K→KW p S (kG_ p n K) (kG_ p n K)
  | 0,K,h=>h
  | n+1,K,h=>rq_ n _ (h.ext (tF_ h.snd))
theorem oW_ {p:List Pc}:∀ (n:Nat) (K:List Thg),∀ t∈K,t∈kG_ p n K
  | 0,K,t,h=>h
  | n+1,K,t,h=>oW_ n _ t (List.mem_append_left _ h)
theorem oY_ {p:List Pc}:∀ (n:Nat) (K:List Thg),by_ K (nB_ p K)=[]→kG_ p n K=K
  | 0,K,h=>rfl
  | n+1,K,h=>by rw[kG_,h,List.append_nil];exact oY_ n K h
theorem oX_ {p:List Pc}:∀ (n:Nat) (K:List Thg),by_ (kG_ p n K) (nB_ p (kG_ p n K))=[]∨K.length+n≤(kG_ p n K).length
 | 0,K=>.inr (by simp[kG_])
 | n+1,K=>by
   by_cases h:by_ K (nB_ p K)=[]
   · rw[oY_ (n+1) K h];exact .inl h
   · rw[kG_]
     rcases oX_ n (K++by_ K (nB_ p K)) with q|q
     · exact .inl q
     · refine .inr ?_
       have:=List.length_pos_iff.2 h
       rw[List.length_append]at q
       omega
theorem oZ_ (p:List Pc) (S:List Str) (t:Thg):t∈qn_ p S↔Rch p S t:=by
 have hk:=rq_ (2*p.length+S.length+3) _ (oj_ p S)
 have hfix:by_ (qn_ p S) (nB_ p (qn_ p S))=[]:=by
   rcases oX_ (2*p.length+S.length+3) (by_ [] (dv_ S)) (p:=p) with h|h
   · exact h
   · have h1:=hk.len
     have h2:=fU_ p S
     omega
 refine⟨hk.snd t,fun h=>?_⟩
 induction h with
 | base hb=>exact oW_ _ _ _ (pU_ S _ hb)
 | @give x t hx hn hg ih =>
   have hm:t∈nB_ p (qn_ p S):=List.mem_flatMap.2 ⟨x,List.mem_filter.2 ⟨hx,decide_eq_true ih⟩,hg⟩
   have:=(gn_ (nB_ p (qn_ p S)) (qn_ p S) t).2 (.inr hm)
   rw[hfix,List.append_nil]at this
   exact this
def usbB (p:List Pc) (S:List Str) (x:Pc):Bool:=(ag_ x).all fun u=>decide (u∈qn_ p S)
theorem oD_ (p:List Pc) (S:List Str) (x:Pc):usbB p S x=true↔Usb p S x:=by
 unfold usbB Usb
 rw[List.all_eq_true]
 constructor
 ·intro h u hu;exact (oZ_ p S u).1 (of_decide_eq_true (h u hu))
 intro h u hu;exact decide_eq_true ((oZ_ p S u).2 (h u hu))
end Go.Vs
namespace Go.Proofs.YtamklbgaipakfaaGreatDoor
open Go Go.Sx Go.Proofs
attribute [local irreducible] Code.wp wpList wpAnyH
open Go.Vs
theorem dh_:iv_ Tryz.prog 83 [(0,1),(1,1)] [.int .i64 0,str []]:=⟨_,aP_,Tryz.runUnderlying83,fun w=>by simp[ao_,O_]⟩
theorem vv_ (x:Pc):Tri Tryz.prog 88 #[Pc.val x] [] [] (fun y:{y:Option Addr×Nat // ((ag_ x)).length≤y.2∧y.2≤maxLen∧(y.1=none→y.2=0)}=>.slice y.1.1 ((ag_ x)).length y.1.2) (fun _=>[]) (fun y=>[al_ y.1.1 (((ag_ x)).flatMap Thg.cells)]):=by
 refine l_ Tryz.func88 rfl rfl Tryz.ntmps88 rfl fun v0=>?_
 refine Zz 2 ?_
 refine U_ rfl rfl fun b1=>Zi 14 (fun hr1=>?_) fun hr1=>?_
 ·refine Zi 6 (fun hr2=>?_) fun hr2=>?_
  ·refine Zi 5 (fun hr3=>?_) fun hr3=>?_
   ·refine Zi 6 (fun hr4=>?_) fun hr4=>?_
    ·refine Zi 6 (fun hr5=>?_) fun hr5=>?_
     ·refine Zi 6 (fun hr6=>?_) fun hr6=>?_
      ·refine Zi 6 (fun hr7=>?_) fun hr7=>?_
       ·refine Zi 6 (fun hr8=>?_) fun hr8=>?_
        ·refine Zz 12 ?_
         have e0:ag_ x=([]:List Thg):=by have p1:=eq_false hr1;have p2:=eq_false hr2;have p3:=eq_false hr3;have p4:=eq_false hr4;have p5:=eq_false hr5;have p6:=eq_false hr6;have p7:=eq_false hr7;have p8:=eq_false hr8;simp only[ag_,p1,p2,p3,p4,p5,p6,p7,p8,if_true,if_false,decide_true,decide_false,Bool.and_true,Bool.and_false,Bool.true_and,Bool.false_and,Bool.or_true,Bool.or_false,Bool.true_or,Bool.false_or,Bool.not_true,Bool.not_false,ne_eq,not_true_eq_false,not_false_eq_true,true_and,and_true,false_and,and_false,true_or,or_true,false_or,or_false,ite_true,ite_false,Bool.false_eq_true]
         exact N_ fd_ ⟨(none,0),by rw[e0];simp[maxLen]⟩ (cb_ rfl (show _=Value.slice none (ag_ x).length 0 from by rw[e0];rfl)) g_ (fun v _ h=>⟨(show (al_ none ((ag_ x).flatMap Thg.cells)).p v from by rw[e0];exact .inl rfl),trivial⟩)
        refine Zz 8 ?_
        refine d_ (w_ dh_ rfl rfl) rfl (E_ R_ aJ_ aP_ rfl rfl rfl rfl rfl rfl fun b2=>?_)
        refine ap_ (List.flatMap Thg.cells [(Thg.mk 3 x.r)]) e_ rfl ?_
        refine Zz 4 ?_
        have e0:ag_ x=[(Thg.mk 3 x.r)]:=by have p1:=eq_false hr1;have p2:=eq_false hr2;have p3:=eq_false hr3;have p4:=eq_false hr4;have p5:=eq_false hr5;have p6:=eq_false hr6;have p7:=eq_false hr7;have p8:=eq_true hr8;simp only[ag_,p1,p2,p3,p4,p5,p6,p7,p8,if_true,if_false,decide_true,decide_false,Bool.and_true,Bool.and_false,Bool.true_and,Bool.false_and,Bool.or_true,Bool.or_false,Bool.true_or,Bool.false_or,Bool.not_true,Bool.not_false,ne_eq,not_true_eq_false,not_false_eq_true,true_and,and_true,false_and,and_false,true_or,or_true,false_or,or_false,ite_true,ite_false,Bool.false_eq_true]
        exact N_ fd_ ⟨((some ⟨b2,0,none⟩),1),by rw[e0];simp[maxLen]⟩ (cb_ rfl (show _=Value.slice (some ⟨b2,0,none⟩) (ag_ x).length 1 from by rw[e0];rfl)) g_ (fun v _ h=>⟨(show (al_ (some ⟨b2,0,none⟩) ((ag_ x).flatMap Thg.cells)).p v from by rw[e0];exact h.1),trivial⟩)
       refine Zz 8 ?_
       refine d_ (w_ dh_ rfl rfl) rfl (Zz 2 ?_)
       refine d_ (w_ dh_ rfl rfl) rfl (E_ R_ aJ_ aP_ rfl rfl rfl rfl rfl rfl fun b3=>?_)
       refine ap_ (List.flatMap Thg.cells [(Thg.mk 2 x.r),(Thg.mk 2 x.s)]) e_ rfl ?_
       refine Zz 4 ?_
       have e0:ag_ x=[(Thg.mk 2 x.r),(Thg.mk 2 x.s)]:=by have p1:=eq_false hr1;have p2:=eq_false hr2;have p3:=eq_false hr3;have p4:=eq_false hr4;have p5:=eq_false hr5;have p6:=eq_false hr6;have p7:=eq_true hr7;simp only[ag_,p1,p2,p3,p4,p5,p6,p7,if_true,if_false,decide_true,decide_false,Bool.and_true,Bool.and_false,Bool.true_and,Bool.false_and,Bool.or_true,Bool.or_false,Bool.true_or,Bool.false_or,Bool.not_true,Bool.not_false,ne_eq,not_true_eq_false,not_false_eq_true,true_and,and_true,false_and,and_false,true_or,or_true,false_or,or_false,ite_true,ite_false,Bool.false_eq_true]
       exact N_ fd_ ⟨((some ⟨b3,0,none⟩),2),by rw[e0];simp[maxLen]⟩ (cb_ rfl (show _=Value.slice (some ⟨b3,0,none⟩) (ag_ x).length 2 from by rw[e0];rfl)) g_ (fun v _ h=>⟨(show (al_ (some ⟨b3,0,none⟩) ((ag_ x).flatMap Thg.cells)).p v from by rw[e0];exact h.1),trivial⟩)
      refine Zz 8 ?_
      refine d_ (w_ dh_ rfl rfl) rfl (E_ R_ aJ_ aP_ rfl rfl rfl rfl rfl rfl fun b4=>?_)
      refine ap_ (List.flatMap Thg.cells [(Thg.mk 2 x.r)]) e_ rfl ?_
      refine Zz 4 ?_
      have e0:ag_ x=[(Thg.mk 2 x.r)]:=by have p1:=eq_false hr1;have p2:=eq_false hr2;have p3:=eq_false hr3;have p4:=eq_false hr4;have p5:=eq_false hr5;have p6:=eq_true hr6;simp only[ag_,p1,p2,p3,p4,p5,p6,if_true,if_false,decide_true,decide_false,Bool.and_true,Bool.and_false,Bool.true_and,Bool.false_and,Bool.or_true,Bool.or_false,Bool.true_or,Bool.false_or,Bool.not_true,Bool.not_false,ne_eq,not_true_eq_false,not_false_eq_true,true_and,and_true,false_and,and_false,true_or,or_true,false_or,or_false,ite_true,ite_false,Bool.false_eq_true]
      exact N_ fd_ ⟨((some ⟨b4,0,none⟩),1),by rw[e0];simp[maxLen]⟩ (cb_ rfl (show _=Value.slice (some ⟨b4,0,none⟩) (ag_ x).length 1 from by rw[e0];rfl)) g_ (fun v _ h=>⟨(show (al_ (some ⟨b4,0,none⟩) ((ag_ x).flatMap Thg.cells)).p v from by rw[e0];exact h.1),trivial⟩)
     refine Zz 8 ?_
     refine d_ (w_ dh_ rfl rfl) rfl (Zz 2 ?_)
     refine d_ (w_ dh_ rfl rfl) rfl (E_ R_ aJ_ aP_ rfl rfl rfl rfl rfl rfl fun b5=>?_)
     refine ap_ (List.flatMap Thg.cells [(Thg.mk 2 x.r),(Thg.mk 1 x.a)]) e_ rfl ?_
     refine Zz 4 ?_
     have e0:ag_ x=[(Thg.mk 2 x.r),(Thg.mk 1 x.a)]:=by have p1:=eq_false hr1;have p2:=eq_false hr2;have p3:=eq_false hr3;have p4:=eq_false hr4;have p5:=eq_true hr5;simp only[ag_,p1,p2,p3,p4,p5,if_true,if_false,decide_true,decide_false,Bool.and_true,Bool.and_false,Bool.true_and,Bool.false_and,Bool.or_true,Bool.or_false,Bool.true_or,Bool.false_or,Bool.not_true,Bool.not_false,ne_eq,not_true_eq_false,not_false_eq_true,true_and,and_true,false_and,and_false,true_or,or_true,false_or,or_false,ite_true,ite_false,Bool.false_eq_true]
     exact N_ fd_ ⟨((some ⟨b5,0,none⟩),2),by rw[e0];simp[maxLen]⟩ (cb_ rfl (show _=Value.slice (some ⟨b5,0,none⟩) (ag_ x).length 2 from by rw[e0];rfl)) g_ (fun v _ h=>⟨(show (al_ (some ⟨b5,0,none⟩) ((ag_ x).flatMap Thg.cells)).p v from by rw[e0];exact h.1),trivial⟩)
    refine Zz 8 ?_
    refine d_ (w_ dh_ rfl rfl) rfl (Zz 2 ?_)
    refine d_ (w_ dh_ rfl rfl) rfl (E_ R_ aJ_ aP_ rfl rfl rfl rfl rfl rfl fun b6=>?_)
    refine ap_ (List.flatMap Thg.cells [(Thg.mk 1 x.a),(Thg.mk 1 x.b)]) e_ rfl ?_
    refine Zz 4 ?_
    have e0:ag_ x=[(Thg.mk 1 x.a),(Thg.mk 1 x.b)]:=by have p1:=eq_false hr1;have p2:=eq_false hr2;have p3:=eq_false hr3;have p4:=eq_true hr4;simp only[ag_,p1,p2,p3,p4,if_true,if_false,decide_true,decide_false,Bool.and_true,Bool.and_false,Bool.true_and,Bool.false_and,Bool.or_true,Bool.or_false,Bool.true_or,Bool.false_or,Bool.not_true,Bool.not_false,ne_eq,not_true_eq_false,not_false_eq_true,true_and,and_true,false_and,and_false,true_or,or_true,false_or,or_false,ite_true,ite_false,Bool.false_eq_true]
    exact N_ fd_ ⟨((some ⟨b6,0,none⟩),2),by rw[e0];simp[maxLen]⟩ (cb_ rfl (show _=Value.slice (some ⟨b6,0,none⟩) (ag_ x).length 2 from by rw[e0];rfl)) g_ (fun v _ h=>⟨(show (al_ (some ⟨b6,0,none⟩) ((ag_ x).flatMap Thg.cells)).p v from by rw[e0];exact h.1),trivial⟩)
   refine Zz 8 ?_
   refine d_ (w_ dh_ rfl rfl) rfl (E_ R_ aJ_ aP_ rfl rfl rfl rfl rfl rfl fun b7=>?_)
   refine ap_ (List.flatMap Thg.cells [(Thg.mk 1 x.a)]) e_ rfl ?_
   refine Zz 4 ?_
   have e0:ag_ x=[(Thg.mk 1 x.a)]:=by have p1:=eq_false hr1;have p2:=eq_false hr2;have p3:=eq_true hr3;simp only[ag_,p1,p2,p3,if_true,if_false,decide_true,decide_false,Bool.and_true,Bool.and_false,Bool.true_and,Bool.false_and,Bool.or_true,Bool.or_false,Bool.true_or,Bool.false_or,Bool.not_true,Bool.not_false,ne_eq,not_true_eq_false,not_false_eq_true,true_and,and_true,false_and,and_false,true_or,or_true,false_or,or_false,ite_true,ite_false,Bool.false_eq_true]
   exact N_ fd_ ⟨((some ⟨b7,0,none⟩),1),by rw[e0];simp[maxLen]⟩ (cb_ rfl (show _=Value.slice (some ⟨b7,0,none⟩) (ag_ x).length 1 from by rw[e0];rfl)) g_ (fun v _ h=>⟨(show (al_ (some ⟨b7,0,none⟩) ((ag_ x).flatMap Thg.cells)).p v from by rw[e0];exact h.1),trivial⟩)
  refine Zz 11 ?_
  refine d_ (w_ dh_ rfl rfl) rfl (E_ R_ aJ_ aP_ rfl rfl rfl rfl rfl rfl fun b8=>?_)
  refine ap_ (List.flatMap Thg.cells [(Thg.mk 1 x.a)]) e_ rfl ?_
  refine Zz 4 ?_
  have e0:ag_ x=[(Thg.mk 1 x.a)]:=by have p1:=eq_false hr1;have p2:=eq_true hr2;simp only[ag_,p1,p2,if_true,if_false,decide_true,decide_false,Bool.and_true,Bool.and_false,Bool.true_and,Bool.false_and,Bool.or_true,Bool.or_false,Bool.true_or,Bool.false_or,Bool.not_true,Bool.not_false,ne_eq,not_true_eq_false,not_false_eq_true,true_and,and_true,false_and,and_false,true_or,or_true,false_or,or_false,ite_true,ite_false,Bool.false_eq_true]
  exact N_ fd_ ⟨((some ⟨b8,0,none⟩),1),by rw[e0];simp[maxLen]⟩ (cb_ rfl (show _=Value.slice (some ⟨b8,0,none⟩) (ag_ x).length 1 from by rw[e0];rfl)) g_ (fun v _ h=>⟨(show (al_ (some ⟨b8,0,none⟩) ((ag_ x).flatMap Thg.cells)).p v from by rw[e0];exact h.1),trivial⟩)
 refine Zz 11 ?_
 refine d_ (w_ dh_ rfl rfl) rfl (E_ R_ aJ_ aP_ rfl rfl rfl rfl rfl rfl fun b9=>?_)
 refine ap_ (List.flatMap Thg.cells [(Thg.mk 1 x.a)]) e_ rfl ?_
 refine Zz 4 ?_
 have e0:ag_ x=[(Thg.mk 1 x.a)]:=by have p1:=eq_true hr1;simp only[ag_,p1,if_true,if_false,decide_true,decide_false,Bool.and_true,Bool.and_false,Bool.true_and,Bool.false_and,Bool.or_true,Bool.or_false,Bool.true_or,Bool.false_or,Bool.not_true,Bool.not_false,ne_eq,not_true_eq_false,not_false_eq_true,true_and,and_true,false_and,and_false,true_or,or_true,false_or,or_false,ite_true,ite_false,Bool.false_eq_true]
 exact N_ fd_ ⟨((some ⟨b9,0,none⟩),1),by rw[e0];simp[maxLen]⟩ (cb_ rfl (show _=Value.slice (some ⟨b9,0,none⟩) (ag_ x).length 1 from by rw[e0];rfl)) g_ (fun v _ h=>⟨(show (al_ (some ⟨b9,0,none⟩) ((ag_ x).flatMap Thg.cells)).p v from by rw[e0];exact h.1),trivial⟩)
theorem vK_ (x:Pc):Tri Tryz.prog 87 #[Pc.val x] [] [] (fun y:{y:Option Addr×Nat // ((ae_ x)).length≤y.2∧y.2≤maxLen∧(y.1=none→y.2=0)}=>.slice y.1.1 ((ae_ x)).length y.1.2) (fun _=>[]) (fun y=>[al_ y.1.1 (((ae_ x)).flatMap Thg.cells)]):=by
 refine l_ Tryz.func87 rfl rfl Tryz.ntmps87 rfl fun v0=>?_
 refine Zz 2 ?_
 refine U_ rfl rfl fun b1=>Zi 14 (fun hr1=>?_) fun hr1=>?_
 ·refine Zi 6 (fun hr2=>?_) fun hr2=>?_
  ·refine Zi 6 (fun hr3=>?_) fun hr3=>?_
   ·refine Zi 5 (fun hr4=>?_) fun hr4=>?_
    ·refine Zi 6 (fun hr5=>?_) fun hr5=>?_
     ·refine Zi 7 (fun hr6=>?_) fun hr6=>?_
      ·refine Zi 5 (fun hr7=>?_) fun hr7=>?_
       ·refine Zi 6 (fun hr8=>?_) fun hr8=>?_
        ·refine Zi 6 (fun hr9=>?_) fun hr9=>?_
         ·refine Zz 12 ?_
          have e0:ae_ x=([]:List Thg):=by have p1:=eq_false hr1;have p2:=eq_false hr2;have p3:=eq_false hr3;have p4:=eq_false hr4;have p5:=eq_false hr5;have p6:=eq_false hr6;have p7:=eq_false hr7;have p8:=eq_false hr8;have p9:=eq_false hr9;simp only[ae_,p1,p2,p3,p4,p5,p6,p7,p8,p9,if_true,if_false,decide_true,decide_false,Bool.and_true,Bool.and_false,Bool.true_and,Bool.false_and,Bool.or_true,Bool.or_false,Bool.true_or,Bool.false_or,Bool.not_true,Bool.not_false,ne_eq,not_true_eq_false,not_false_eq_true,true_and,and_true,false_and,and_false,true_or,or_true,false_or,or_false,ite_true,ite_false,Bool.false_eq_true]
          exact N_ es_ ⟨(none,0),by rw[e0];simp[maxLen]⟩ (cb_ rfl (show _=Value.slice none (ae_ x).length 0 from by rw[e0];rfl)) g_ (fun v _ h=>⟨(show (al_ none ((ae_ x).flatMap Thg.cells)).p v from by rw[e0];exact .inl rfl),trivial⟩)
         refine Zz 8 ?_
         refine d_ (w_ dh_ rfl rfl) rfl (E_ R_ aJ_ aP_ rfl rfl rfl rfl rfl rfl fun b2=>?_)
         refine ap_ (List.flatMap Thg.cells [(Thg.mk 3 x.r)]) e_ rfl ?_
         refine Zz 4 ?_
         have e0:ae_ x=[(Thg.mk 3 x.r)]:=by have p1:=eq_false hr1;have p2:=eq_false hr2;have p3:=eq_false hr3;have p4:=eq_false hr4;have p5:=eq_false hr5;have p6:=eq_false hr6;have p7:=eq_false hr7;have p8:=eq_false hr8;have p9:=eq_true hr9;simp only[ae_,p1,p2,p3,p4,p5,p6,p7,p8,p9,if_true,if_false,decide_true,decide_false,Bool.and_true,Bool.and_false,Bool.true_and,Bool.false_and,Bool.or_true,Bool.or_false,Bool.true_or,Bool.false_or,Bool.not_true,Bool.not_false,ne_eq,not_true_eq_false,not_false_eq_true,true_and,and_true,false_and,and_false,true_or,or_true,false_or,or_false,ite_true,ite_false,Bool.false_eq_true]
         exact N_ es_ ⟨((some ⟨b2,0,none⟩),1),by rw[e0];simp[maxLen]⟩ (cb_ rfl (show _=Value.slice (some ⟨b2,0,none⟩) (ae_ x).length 1 from by rw[e0];rfl)) g_ (fun v _ h=>⟨(show (al_ (some ⟨b2,0,none⟩) ((ae_ x).flatMap Thg.cells)).p v from by rw[e0];exact h.1),trivial⟩)
        refine Zz 8 ?_
        refine d_ (w_ dh_ rfl rfl) rfl (E_ R_ aJ_ aP_ rfl rfl rfl rfl rfl rfl fun b3=>?_)
        refine ap_ (List.flatMap Thg.cells [(Thg.mk 2 x.r)]) e_ rfl ?_
        refine Zz 4 ?_
        have e0:ae_ x=[(Thg.mk 2 x.r)]:=by have p1:=eq_false hr1;have p2:=eq_false hr2;have p3:=eq_false hr3;have p4:=eq_false hr4;have p5:=eq_false hr5;have p6:=eq_false hr6;have p7:=eq_false hr7;have p8:=eq_true hr8;simp only[ae_,p1,p2,p3,p4,p5,p6,p7,p8,if_true,if_false,decide_true,decide_false,Bool.and_true,Bool.and_false,Bool.true_and,Bool.false_and,Bool.or_true,Bool.or_false,Bool.true_or,Bool.false_or,Bool.not_true,Bool.not_false,ne_eq,not_true_eq_false,not_false_eq_true,true_and,and_true,false_and,and_false,true_or,or_true,false_or,or_false,ite_true,ite_false,Bool.false_eq_true]
        exact N_ es_ ⟨((some ⟨b3,0,none⟩),1),by rw[e0];simp[maxLen]⟩ (cb_ rfl (show _=Value.slice (some ⟨b3,0,none⟩) (ae_ x).length 1 from by rw[e0];rfl)) g_ (fun v _ h=>⟨(show (al_ (some ⟨b3,0,none⟩) ((ae_ x).flatMap Thg.cells)).p v from by rw[e0];exact h.1),trivial⟩)
       refine Zz 8 ?_
       refine d_ (w_ dh_ rfl rfl) rfl (E_ R_ aJ_ aP_ rfl rfl rfl rfl rfl rfl fun b4=>?_)
       refine ap_ (List.flatMap Thg.cells [(Thg.mk 2 x.t)]) e_ rfl ?_
       refine Zz 4 ?_
       have e0:ae_ x=[(Thg.mk 2 x.t)]:=by have p1:=eq_false hr1;have p2:=eq_false hr2;have p3:=eq_false hr3;have p4:=eq_false hr4;have p5:=eq_false hr5;have p6:=eq_false hr6;have p7:=eq_true hr7;simp only[ae_,p1,p2,p3,p4,p5,p6,p7,if_true,if_false,decide_true,decide_false,Bool.and_true,Bool.and_false,Bool.true_and,Bool.false_and,Bool.or_true,Bool.or_false,Bool.true_or,Bool.false_or,Bool.not_true,Bool.not_false,ne_eq,not_true_eq_false,not_false_eq_true,true_and,and_true,false_and,and_false,true_or,or_true,false_or,or_false,ite_true,ite_false,Bool.false_eq_true]
       exact N_ es_ ⟨((some ⟨b4,0,none⟩),1),by rw[e0];simp[maxLen]⟩ (cb_ rfl (show _=Value.slice (some ⟨b4,0,none⟩) (ae_ x).length 1 from by rw[e0];rfl)) g_ (fun v _ h=>⟨(show (al_ (some ⟨b4,0,none⟩) ((ae_ x).flatMap Thg.cells)).p v from by rw[e0];exact h.1),trivial⟩)
      refine Zz 11 ?_
      refine d_ (w_ dh_ rfl rfl) rfl (E_ R_ aJ_ aP_ rfl rfl rfl rfl rfl rfl fun b5=>?_)
      refine ap_ (List.flatMap Thg.cells [(Thg.mk 2 x.t)]) e_ rfl ?_
      refine Zz 4 ?_
      have e0:ae_ x=[(Thg.mk 2 x.t)]:=by have p1:=eq_false hr1;have p2:=eq_false hr2;have p3:=eq_false hr3;have p4:=eq_false hr4;have p5:=eq_false hr5;have p6:=eq_true hr6;simp only[ae_,p1,p2,p3,p4,p5,p6,if_true,if_false,decide_true,decide_false,Bool.and_true,Bool.and_false,Bool.true_and,Bool.false_and,Bool.or_true,Bool.or_false,Bool.true_or,Bool.false_or,Bool.not_true,Bool.not_false,ne_eq,not_true_eq_false,not_false_eq_true,true_and,and_true,false_and,and_false,true_or,or_true,false_or,or_false,ite_true,ite_false,Bool.false_eq_true]
      exact N_ es_ ⟨((some ⟨b5,0,none⟩),1),by rw[e0];simp[maxLen]⟩ (cb_ rfl (show _=Value.slice (some ⟨b5,0,none⟩) (ae_ x).length 1 from by rw[e0];rfl)) g_ (fun v _ h=>⟨(show (al_ (some ⟨b5,0,none⟩) ((ae_ x).flatMap Thg.cells)).p v from by rw[e0];exact h.1),trivial⟩)
     refine Zz 8 ?_
     refine d_ (w_ dh_ rfl rfl) rfl (Zz 2 ?_)
     refine d_ (w_ dh_ rfl rfl) rfl (E_ R_ aJ_ aP_ rfl rfl rfl rfl rfl rfl fun b6=>?_)
     refine ap_ (List.flatMap Thg.cells [(Thg.mk 2 x.r),(Thg.mk 1 x.c)]) e_ rfl ?_
     refine Zz 4 ?_
     have e0:ae_ x=[(Thg.mk 2 x.r),(Thg.mk 1 x.c)]:=by have p1:=eq_false hr1;have p2:=eq_false hr2;have p3:=eq_false hr3;have p4:=eq_false hr4;have p5:=eq_true hr5;simp only[ae_,p1,p2,p3,p4,p5,if_true,if_false,decide_true,decide_false,Bool.and_true,Bool.and_false,Bool.true_and,Bool.false_and,Bool.or_true,Bool.or_false,Bool.true_or,Bool.false_or,Bool.not_true,Bool.not_false,ne_eq,not_true_eq_false,not_false_eq_true,true_and,and_true,false_and,and_false,true_or,or_true,false_or,or_false,ite_true,ite_false,Bool.false_eq_true]
     exact N_ es_ ⟨((some ⟨b6,0,none⟩),2),by rw[e0];simp[maxLen]⟩ (cb_ rfl (show _=Value.slice (some ⟨b6,0,none⟩) (ae_ x).length 2 from by rw[e0];rfl)) g_ (fun v _ h=>⟨(show (al_ (some ⟨b6,0,none⟩) ((ae_ x).flatMap Thg.cells)).p v from by rw[e0];exact h.1),trivial⟩)
    refine Zz 8 ?_
    refine d_ (w_ dh_ rfl rfl) rfl (E_ R_ aJ_ aP_ rfl rfl rfl rfl rfl rfl fun b7=>?_)
    refine ap_ (List.flatMap Thg.cells [(Thg.mk 1 x.c)]) e_ rfl ?_
    refine Zz 4 ?_
    have e0:ae_ x=[(Thg.mk 1 x.c)]:=by have p1:=eq_false hr1;have p2:=eq_false hr2;have p3:=eq_false hr3;have p4:=eq_true hr4;simp only[ae_,p1,p2,p3,p4,if_true,if_false,decide_true,decide_false,Bool.and_true,Bool.and_false,Bool.true_and,Bool.false_and,Bool.or_true,Bool.or_false,Bool.true_or,Bool.false_or,Bool.not_true,Bool.not_false,ne_eq,not_true_eq_false,not_false_eq_true,true_and,and_true,false_and,and_false,true_or,or_true,false_or,or_false,ite_true,ite_false,Bool.false_eq_true]
    exact N_ es_ ⟨((some ⟨b7,0,none⟩),1),by rw[e0];simp[maxLen]⟩ (cb_ rfl (show _=Value.slice (some ⟨b7,0,none⟩) (ae_ x).length 1 from by rw[e0];rfl)) g_ (fun v _ h=>⟨(show (al_ (some ⟨b7,0,none⟩) ((ae_ x).flatMap Thg.cells)).p v from by rw[e0];exact h.1),trivial⟩)
   refine Zz 11 ?_
   refine d_ (w_ dh_ rfl rfl) rfl (E_ R_ aJ_ aP_ rfl rfl rfl rfl rfl rfl fun b8=>?_)
   refine ap_ (List.flatMap Thg.cells [(Thg.mk 1 x.c)]) e_ rfl ?_
   refine Zz 4 ?_
   have e0:ae_ x=[(Thg.mk 1 x.c)]:=by have p1:=eq_false hr1;have p2:=eq_false hr2;have p3:=eq_true hr3;simp only[ae_,p1,p2,p3,if_true,if_false,decide_true,decide_false,Bool.and_true,Bool.and_false,Bool.true_and,Bool.false_and,Bool.or_true,Bool.or_false,Bool.true_or,Bool.false_or,Bool.not_true,Bool.not_false,ne_eq,not_true_eq_false,not_false_eq_true,true_and,and_true,false_and,and_false,true_or,or_true,false_or,or_false,ite_true,ite_false,Bool.false_eq_true]
   exact N_ es_ ⟨((some ⟨b8,0,none⟩),1),by rw[e0];simp[maxLen]⟩ (cb_ rfl (show _=Value.slice (some ⟨b8,0,none⟩) (ae_ x).length 1 from by rw[e0];rfl)) g_ (fun v _ h=>⟨(show (al_ (some ⟨b8,0,none⟩) ((ae_ x).flatMap Thg.cells)).p v from by rw[e0];exact h.1),trivial⟩)
  refine Zz 11 ?_
  refine d_ (w_ dh_ rfl rfl) rfl (E_ R_ aJ_ aP_ rfl rfl rfl rfl rfl rfl fun b9=>?_)
  refine ap_ (List.flatMap Thg.cells [(Thg.mk 1 x.c)]) e_ rfl ?_
  refine Zz 4 ?_
  have e0:ae_ x=[(Thg.mk 1 x.c)]:=by have p1:=eq_false hr1;have p2:=eq_true hr2;simp only[ae_,p1,p2,if_true,if_false,decide_true,decide_false,Bool.and_true,Bool.and_false,Bool.true_and,Bool.false_and,Bool.or_true,Bool.or_false,Bool.true_or,Bool.false_or,Bool.not_true,Bool.not_false,ne_eq,not_true_eq_false,not_false_eq_true,true_and,and_true,false_and,and_false,true_or,or_true,false_or,or_false,ite_true,ite_false,Bool.false_eq_true]
  exact N_ es_ ⟨((some ⟨b9,0,none⟩),1),by rw[e0];simp[maxLen]⟩ (cb_ rfl (show _=Value.slice (some ⟨b9,0,none⟩) (ae_ x).length 1 from by rw[e0];rfl)) g_ (fun v _ h=>⟨(show (al_ (some ⟨b9,0,none⟩) ((ae_ x).flatMap Thg.cells)).p v from by rw[e0];exact h.1),trivial⟩)
 refine Zz 11 ?_
 refine d_ (w_ dh_ rfl rfl) rfl (E_ R_ aJ_ aP_ rfl rfl rfl rfl rfl rfl fun b10=>?_)
 refine ap_ (List.flatMap Thg.cells [(Thg.mk 1 x.c)]) e_ rfl ?_
 refine Zz 4 ?_
 have e0:ae_ x=[(Thg.mk 1 x.c)]:=by have p1:=eq_true hr1;simp only[ae_,p1,if_true,if_false,decide_true,decide_false,Bool.and_true,Bool.and_false,Bool.true_and,Bool.false_and,Bool.or_true,Bool.or_false,Bool.true_or,Bool.false_or,Bool.not_true,Bool.not_false,ne_eq,not_true_eq_false,not_false_eq_true,true_and,and_true,false_and,and_false,true_or,or_true,false_or,or_false,ite_true,ite_false,Bool.false_eq_true]
 exact N_ es_ ⟨((some ⟨b10,0,none⟩),1),by rw[e0];simp[maxLen]⟩ (cb_ rfl (show _=Value.slice (some ⟨b10,0,none⟩) (ae_ x).length 1 from by rw[e0];rfl)) g_ (fun v _ h=>⟨(show (al_ (some ⟨b10,0,none⟩) ((ae_ x).flatMap Thg.cells)).p v from by rw[e0];exact h.1),trivial⟩)
theorem eqTh (p q:Thg) (w:World):(Op.equalIn 10000 83 (Thg.val p) (Thg.val q)).run Tryz.prog w=.ok (decide (p=q)) w:=by
  have h:=run_equalIn_struct (P:=Tryz.prog) w 9999 83 (Thg.cells p).toArray (Thg.cells q).toArray (by simp only[Program.fieldsOf,Tryz.underlying83]) Tryz.stoodInHeld83
  refine h.trans ?_
  rw[← Thg.eqb_eq]
  simp only[Program.fieldsOf,Tryz.underlying83]
  exact bT_ rfl aS_ rfl rfl (eqI B_ w) (bT_ rfl av_ rfl rfl (eqS aV_ w) (jz_ w))
theorem okTh (p:Thg):if_ Tryz.prog 83 (Thg.val p):=fun e w=>by
 have hi:∀ (n:Int) (w:World),(Instr.checkKey e (9998+1) 3 (.int .i64 n)).run Tryz.prog w=.ok () w:=fun n w=>MapKept.run_checkKey (d:=.int .i64) B_ (by simp[MapKept.IsKey]) e 9998
 have hs:∀ (n:Str) (w:World),(Instr.checkKey e (9998+1) 9 (str n)).run Tryz.prog w=.ok () w:=fun n w=>MapKept.run_checkKey (d:=.string) aV_ (by simp[MapKept.IsKey,str]) e 9998
 refine ckF (n:=9999) Tryz.underlying83 fun f hf=>?_
 simp only[List.mem_cons,List.not_mem_nil,or_false]at hf
 rcases hf with rfl|rfl
 ·exact⟨rfl,aS_,_,rfl,hi _⟩
 exact⟨rfl,av_,_,rfl,hs _⟩
theorem px_:KeyT Tryz.prog 83 Thg.val:=fG_ (K:=Thg) Tryz.underlying83 okTh (fun p q w=>eqTh p q w) fun k=>hN_ (l:=Thg.cells k) fun v hv=>by
 simp only[Thg.cells,List.mem_cons,List.not_mem_nil,or_false]at hv
 rcases hv with rfl|rfl
 ·exact eF_ _ _
 exact dF_ _ _
theorem vQ_:Elt Tryz.prog 139 83 2 24:=hZ_ Tryz.underlying139 (z:=.agg #[.int .i64 0,str []]) (by kernel_rfl) rfl (by decide)
theorem Thg.cells_one (x:Thg):x.cells.all Value.oneCell'=true:=rfl
theorem rF_:Elt Tryz.prog 27 3 1 8:=hZ_ Tryz.underlying27 (z:=.int .i64 0) (by kernel_rfl) rfl (by decide)
theorem qI_:KeyT Tryz.prog 3 (fun n:Int=>.int .i64 n):=ue_ B_
theorem add_c (t:Thg) (K W:List Thg) (b4 b8 kb:Nat) (es:Array MapEntry) (c:Nat) (sv:Value) (Hw:Hp) (hE:SetE Thg.val es K) (hB:Born es c) (hr:aL_ 83 2 sv W.length (W.flatMap Thg.cells) Hw) (hl:W.length≤1000000000):Tri Tryz.prog 85 #[Thg.val t,zp_ b4 0,zp_ b8 0] ((b4,.cells #[.map (some kb)] 78 (0,0))::(b8,.cells #[sv] 139 (0,0))::(kb,.map es c)::Hw) [] (fun _:{H:Hp // StK 78 139 83 b4 b8 kb (K++by_ K [t]) (W++by_ K [t]) H}=>.tuple #[]) (fun y=>y.1) (fun _=>[]):=by
 refine l_ Tryz.func85 rfl rfl Tryz.ntmps85 rfl fun v0=>?_
 refine Zz 2 ?_
 refine U_ rfl rfl fun b1=>Zz 6 ?_
 refine D_ (en_ (k:=t) px_ Tryz.runUnderlying78 cR_ rfl rfl hE (fun v h _=>(h.own _ (List.mem_of_getElem? (i:=3) rfl)).1)) rfl fun r1 hr1=>d_ (bb_ rfl) rfl (Zz 2 ?_)
 cases r1
 ·replace hr1:=zdf hr1
  refine Zz 5 ?_
  refine sw_ (k:=t) 3 px_ (.inr rfl) Tryz.runUnderlying78 rfl rfl rfl rfl hE fun ej1 cj1 hj1 hbj1=>Zz 5 ?_
  refine E_ R_ aJ_ aP_ rfl rfl rfl rfl rfl rfl fun b2=>?_
  refine aG_ (news:=List.flatMap Thg.cells [t]) vQ_ hr rfl rfl (c_ (c_ (c_ (c_ M_)))) rfl (bM_ 0 rfl) (fun u hu=>bd_ Thg.cells_one hu) (by simp only[maxLen];omega) (by omega) rfl fun sv1 Hr1 hr1=>?_
  refine C_ List.perm_append_comm ?_
  have hq1:=zsa hr1
  refine cI_ 3 hq1 Tryz.sizeOf139 rfl rfl rfl rfl (Zz 2 ?_)
  have q0:¬ t∈K:=by assumption
  have e0:by_ K [t]=[t]:=by simp[by_,q0]
  exact bX_ Tryz.results85 ⟨_,ej1,cj1,sv1,Hr1,rfl,by rw[e0];rw[if_neg (by assumption)]at hj1;exact hj1,(hbj1 hB),by rw[e0];exact hq1⟩ rfl (p_ (c_ (c_ e_)) (p_ (c_ (c_ e_)) (p_ (c_ (c_ e_)) (c_ M_)))) zt
 replace hr1:=zdt hr1
 refine Zz 3 ?_
 have q0:t∈K:=by assumption
 have e0:by_ K [t]=[]:=by simp[by_,q0]
 exact bX_ Tryz.results85 ⟨_,es,c,sv,Hw,rfl,by rw[e0,List.append_nil];exact hE,hB,by rw[e0,List.append_nil];exact hr⟩ rfl zp zt
theorem om_ (t:Thg) (K W:List Thg) (b4 b8 kb:Nat) (Hs:Hp) (hS:StK 78 139 83 b4 b8 kb K W Hs) (hl:W.length≤1000000000):Tri Tryz.prog 85 #[t.val,zp_ b4 0,zp_ b8 0] Hs [] (fun _:{H:Hp // StK 78 139 83 b4 b8 kb (K++by_ K [t]) (W++by_ K [t]) H}=>.tuple #[]) (fun y=>y.1) (fun _=>[]):=by
  obtain⟨es,c,sv,Hw,rfl,hE,hB,hr⟩:=hS
  exact add_c t K W b4 b8 kb es c sv Hw hE hB hr hl
theorem wd_ (i:Nat) (x:Pc) (p:List Pc) (ad:Option Addr) (cap:Nat) (K W:List Thg) (U:List Bool) (b2 b4 b5 b8 b9 kb:Nat) (sv:Value) (Hu Hs:Hp) (hx:p[i]? = some x) (hp:p.length≤100000000) (hU:zR 4 1 ic_ sv U Hu) (hUl:U.length=p.length) (hS:StK 78 139 83 b4 b8 kb K W Hs) (hl:W.length≤900000000):Tri Tryz.prog 86 #[.int .i64 (i:Int),zp_ b5 0,zp_ b2 0,zp_ b9 0] ((b5,.cells #[sv] 79 (0,0))::(Hu++Hs)) [bi_ b2 (.cells #[.slice ad (List.length p) cap] 54 (0,0)),bi_ b9 (.cells #[.func (.func 85) #[] #[zp_ b4 0,zp_ b8 0]] 140 (0,0)),al_ ad (List.flatMap Pc.cells p)] (fun _:{y:Hp×Hp // zR 4 1 ic_ sv (List.set U i true) y.1∧StK 78 139 83 b4 b8 kb (K++by_ K (ae_ x)) (W++by_ K (ae_ x)) y.2}=>.tuple #[]) (fun y=>(b5,.cells #[sv] 79 (0,0))::(y.1.1++y.1.2)) (fun _=>[]):=by
 refine l_ Tryz.func86 rfl rfl Tryz.ntmps86 rfl fun v0=>?_
 have hil:=(List.getElem?_eq_some_iff.1 hx).1
 obtain⟨u0,hu0⟩:∃ u0,U[i]? = some u0:=⟨_,List.getElem?_eq_getElem (by omega)⟩
 refine Zz 4 ?_
 refine d_ (ii_ hU Tryz.runUnderlying79 Tryz.sizeOf4 rfl rfl (by omega) (by omega)) rfl (st_ (k:=(i:Int).toNat*1+0) hU zp Tryz.sizeOf4 rfl rfl (by omega) rfl rfl fun Hr1 hr1=>?_)
 have hs1:=(uq_ ic_ 1 nl_ U i 0 u0 true (.bool true) hu0 (by decide) rfl).trans (congrArg _ (rfl))
 have hq1:aL_ 4 1 sv (List.length (List.set U i true)) (List.flatMap ic_ (List.set U i true)) Hr1:=by rw[← hs1,show List.length (List.set U i true)=List.length U from (List.length_set ..)];exact hr1
 refine Zz 2 ?_
 refine C_ (bD_ (i_ e_)) (Zz 6 ?_)
 refine f_ (vK_ x) rfl g_ zt rfl fun⟨⟨gad,gcap⟩,gcl,gcm,gcz⟩=>?_
 dsimp only
 refine Zz 5 ?_
 refine ai_ (ι:={y:Nat×Hp // y.1≤List.length (ae_ x)∧StK 78 139 83 b4 b8 kb (K++by_ K (List.take y.1 (ae_ x))) (W++by_ K (List.take y.1 (ae_ x))) y.2}) (fun y=>[(3,zp_ b9 0),(14,.slice gad (List.length (ae_ x)) gcap),(15,.int .i64 (List.length (ae_ x):Int)),(16,.int .i64 (y.1.1:Int))]) (fun y=>((b5,.cells #[sv] 79 (0,0))::(Hr1++y.1.2))) (fun y=>[al_ gad (List.flatMap Thg.cells (ae_ x)),bi_ b2 (.cells #[.slice ad (List.length p) cap] 54 (0,0)),bi_ b9 (.cells #[.func (.func 85) #[] #[zp_ b4 0,zp_ b8 0]] 140 (0,0)),al_ ad (List.flatMap Pc.cells p)]) (fun y=>List.length (ae_ x) - y.1.1) ⟨((0:Nat),Hs),by simp,(by rw[List.take_zero];simpa [by_] using hS)⟩ zl zp zh ?_
 rintro ⟨⟨j,Hs1⟩,hi_j,hS1⟩
 dsimp only at hi_j hS1 ⊢
 have hwl:=hb_ (List.take j (ae_ x)) K
 have htl:=List.length_take_le j (ae_ x)
 have hgl:=lO_ x
 refine Zi 2 (fun hr1=>?_) fun hr1=>?_
 ·refine Zz 6 ?_
  rw[List.take_of_length_le (by omega)]at hS1
  exact bX_ Tryz.results86 ⟨(Hr1,Hs1),hq1,hS1⟩ rfl zp zt
 have hly1:j<List.length (ae_ x):=by omega
 obtain⟨y1,hy1⟩:∃ e0,(ae_ x)[j]? = some e0:=⟨_,List.getElem?_eq_getElem hly1⟩
 have hmy1:y1∈(ae_ x):=List.mem_of_getElem? hy1
 refine Zz 10 ?_
 refine d_ (L_ R_ aJ_ rfl rfl (fun v _ h=>y_ (n:=2) Thg.cells_len (by decide) (by exact h.1) hy1) (by omega) (by first|omega|(simp;done))) rfl ?_
 refine d_ (af_ (ad:=gad) (us:=Thg.cells y1) Tryz.isAgg83 aJ_ rfl zf (Thg.cells_len _) (u_ Thg.cells_len hy1)) rfl (K_ aP_ rfl fun b1=>x_ 0 aJ_ rfl rfl rfl rfl rfl rfl (Zz 5 ?_))
 refine Y_ (om_ y1 (K++by_ K (List.take j (ae_ x))) (W++by_ K (List.take j (ae_ x))) b4 b8 kb Hs1 hS1 (by simp only[List.length_append];omega)) rfl rfl (c_ (c_ ca_)) zt rfl fun⟨HA1,hA1⟩=>?_
 dsimp only
 refine Zz 2 ?_
 refine C_ (aB_ (i_ e_) (bD_ (i_ e_))) (Zz 5 ?_)
 exact J_ ⟨(j+1,HA1),hly1,(by rw[pK_ hy1,pK_ hy1];exact hA1)⟩ (by dsimp only;omega) zl zp zh
end Go.Proofs.YtamklbgaipakfaaGreatDoor
namespace Go.Proofs.YtamklbgaipakfaaGreatDoor
open Go Go.Sx Go.Proofs
attribute [local irreducible] Code.wp wpList wpAnyH
open Go.Vs
theorem vo_ {P:Program} {e:TypeId} {sz n:Nat} {sv:Value} {xs:List Value} {Hr:Hp} (hr:aL_ e sz sv (n+1) xs Hr):∃ sv',aL_ e sz sv' n (xs.take (n*sz)) Hr ∧
    ∀ {N:Nf} {fr:Fr} {H:Hp} {Γ:List Fct} {ty t:TypeId} {x y:Operand},(∀ w,(underlying t).run P w=.ok (.slice e) w)→(∀ w,(sizeOf e).run P w=.ok sz w)→Fr.ev fr x=some sv→Fr.ev fr y=some (.int .i64 (n:Int))→Yld P N fr H Γ (.slice t x none (some y) none) ty sv':=by
  obtain⟨hl,⟨_,h0,_⟩|⟨g,cap,cur,rfl,rfl,hn,hm,hc,hx⟩⟩:=hr
  · omega
  · refine⟨.slice (some ⟨g,0,none⟩) n cap,⟨?_,.inr ⟨g,cap,cur,rfl,rfl,by omega,hm,hc,?_⟩⟩,fun hu hs hx hy=>?_⟩
    · rw[List.length_take,hl,Nat.add_mul];omega
    · rw[← hx,List.take_take,Nat.min_eq_left (by rw[Nat.add_mul];omega)]
    · refine aY_ (eM_ (i:=0) (j:=n) (kl:=.i64) (kh:=.i64) hu hs hx rfl hy (Nat.zero_le _) (by omega)) ?_
      unfold sad
      rw[if_neg (by omega)]
      simp[dN_]
section
variable {P:Program} {N:Nf} {v0:Vw} {H0:Hp} {fr:Fr}
theorem ky_:∀ (B:Hp) {v:Vw},au_ (B.map fun p=>bi_ p.1 p.2) v→∀ p∈B,v.im p.1∧v.w.heap[p.1]? = some p.2
 | [],_,_,_,h=>by simp at h
 | q::B,v,h,p,hp=>by
   rcases List.mem_cons.1 hp with rfl|hp
   · exact h.1
   · exact ky_ B h.2 p hp
theorem sz_ {F H:Hp} {Γ:List Fct} {K D:Type} [DecidableEq K] {k:Act→World→Prop} {kv:K→Value} {cells:D→List Value} {kt e:TypeId} {sz mb:Nat} {l:List (K×D)} {Hm:Hp} (hK:KeyT P kt kv) (hm:dZ_ kv cells e sz l mb Hm) (hH:H.Perm (Hm++F))
    (h:∀ adr,Ok N v0 H0 k fr F (mlF P kt kv cells mb l adr::Γ)):Ok N v0 H0 k fr H Γ:=by
  obtain⟨adr,ha⟩:=hm.lent hK
  refine lC_ Hm hH (jk_ (fun v _ hv=>?_) (h adr))
  rw[fl_]at hv
  refine⟨ha v fun p hp=>?_,hv.2⟩
  have:=hv.1
  exact ky_ Hm.reverse (by rw[List.map_reverse]at *;exact this) p (List.mem_reverse.2 hp)
end
theorem vj_ {P:Program} {N:Nf} {fr:Fr} {H:Hp} {fn:Func} {t s b c:Nat} {ty ty2 T T2:TypeId} {u u2:Value} (i j:Nat) (hr:fn.results=#[.cell t ty,.cell s ty2]) (ha:∀ w,(isAgg ty).run P w=.ok false w) (ha2:∀ w,(isAgg ty2).run P w=.ok false w)
    (hx:Fr.get fr t=some (zp_ b 0)) (hx2:Fr.get fr s=some (zp_ c 0)) (hi:H[i]? = some (b,.cells #[u] T (0,0))) (hj:H[j]? = some (c,.cells #[u2] T2 (0,0))) (a:Act) (v:Vw) (h1:Fr.sat N fr a) (h2:v.sat H) :
    (results fn a.tmps).run P v.w=.ok (.tuple #[u,u2]) v.w:=by
  have e:=h1.val t _ hx
  have e2:=h1.val s _ hx2
  have hc:v.w.cell? ⟨b,0,none⟩=some u:=by rw[fi_ h2 hi];rfl
  have hc2:v.w.cell? ⟨c,0,none⟩=some u2:=by rw[fi_ h2 hj];rfl
  have hl:=cg_ (t:=ty) (w:=v.w) ha hc
  have hl2:=cg_ (t:=ty2) (w:=v.w) ha2 hc2
  simp[results,hr,e,e2,asAddr,hl,hl2]
theorem vk_ (p:List Pc) (ad:Option Addr) (cap:Nat) (S:List Str) (sad:Option Addr) (scap:Nat) (hp:p.length≤100000000) (hS:S.length≤100000000):Tri Tryz.prog 42 #[.slice ad (List.length p) cap,.slice sad (List.length S) scap] [] [al_ ad (List.flatMap Pc.cells p),al_ sad (List.flatMap aE_ S)] (fun y:{y:Nat×Array MapEntry×Nat×List Thg×Value×List Bool×Hp // SetE Thg.val y.2.1 y.2.2.2.1∧Born y.2.1 y.2.2.1∧zR 4 1 ic_ y.2.2.2.2.1 y.2.2.2.2.2.1 y.2.2.2.2.2.2∧ReachR p S y.2.2.2.1 y.2.2.2.2.2.1}=>.tuple #[.map (some y.1.1),y.1.2.2.2.2.1]) (fun y=>(y.1.1,.map y.1.2.1 y.1.2.2.1)::y.1.2.2.2.2.2.2) (fun _=>[]):=by
 refine l_ Tryz.func42 rfl rfl Tryz.ntmps42 rfl fun v0=>?_
 refine Zz 2 ?_
 refine U_ rfl rfl fun b1=>K_ Tryz.zeroValue78 rfl fun b2=>K_ Tryz.zeroValue79 rfl fun b3=>Zz 4 ?_
 refine cd_ rfl fun b4=>x_ 2 Tryz.sizeOf78 rfl rfl rfl rfl rfl rfl (Zz 6 ?_)
 refine pm_ (n:=List.length p) (by':=1) Tryz.underlying79 (z:=(.bool false)) zk rfl (by decide) rfl rfl (by omega) (by simp only[maxLen];omega) rfl fun svU HrU hrU=>?_
 have hqU:aL_ 4 1 svU (List.length (List.replicate (List.length p) false)) (List.flatMap ic_ (List.replicate (List.length p) false)) HrU:=by rw[List.length_replicate,← op_ ic_];exact hrU
 refine C_ (aB_ (i_ e_) (aB_ (i_ e_) (aB_ (i_ e_) (bD_ ca_)))) (cI_ 1 hqU Tryz.sizeOf79 rfl rfl rfl rfl (Zz 4 ?_))
 refine cd_ rfl fun b5=>Zz 5 ?_
 refine cd_ rfl fun b6=>Zz 5 ?_
 refine K_ Tryz.zeroValue139 rfl fun b7=>Zz 4 ?_
 refine d_ (bV_ rfl rfl) rfl (K_ Tryz.zeroValue140 rfl fun b8=>x_ 0 Tryz.sizeOf140 rfl rfl rfl rfl rfl rfl (Zz 4 ?_))
 refine d_ (bV_ rfl rfl) rfl (Zz 4 ?_)
 refine ez_ (bi_ b1 (.cells #[.slice ad (List.length p) cap] 54 (0,0))) (bD_ (c_ (c_ (c_ (c_ (c_ (c_ (c_ e_)))))))) (fun _ h1 h2 _=>⟨h1,h2⟩) ?_
 refine ez_ (bi_ b8 (.cells #[.func (.func 85) #[] #[zp_ b2 0,zp_ b7 0]] 140 (0,0))) (bD_ e_) (fun _ h1 h2 _=>⟨h1,h2⟩) ?_
 refine Zz 2 ?_
 refine d_ (w_ dh_ rfl rfl) rfl (Y_ (om_ (Thg.mk 1 [42]) ([]:List Thg) ([]:List Thg) b2 b7 b4 [(b2,.cells #[.map (some b4)] 78 (0,0)),(b7,.cells #[.slice none 0 0] 139 (0,0)),(b4,.map #[] 0)] ⟨#[],0,.slice none 0 0,[],rfl,SetE.nil,Born.nil 0,aL_.nil _ _⟩ (by first|(simp only[List.length_nil];omega)|(simp only[List.length_append,List.length_nil];have q:=hb_ [(Thg.mk 1 [42])] [];simp only[List.length_cons,List.length_nil]at q;omega))) rfl rfl (p_ (c_ (c_ (c_ (c_ (c_ e_))))) (p_ e_ (c_ (c_ e_)))) zt rfl fun⟨HA1,hA1⟩=>?_)
 dsimp only
 refine Zz 2 ?_
 refine C_ (aB_ (i_ e_) (aB_ (i_ e_) (bD_ (i_ e_)))) (Zz 3 ?_)
 refine d_ (w_ dh_ rfl rfl) rfl (Y_ (om_ (Thg.mk 1 [33]) (([]:List Thg)++by_ ([]:List Thg) [(Thg.mk 1 [42])]) (([]:List Thg)++by_ ([]:List Thg) [(Thg.mk 1 [42])]) b2 b7 b4 HA1 hA1 (by first|(simp only[List.length_nil];omega)|(simp only[List.length_append,List.length_nil];have q:=hb_ [(Thg.mk 1 [42])] [];simp only[List.length_cons,List.length_nil]at q;omega))) rfl rfl (c_ (c_ (c_ o_))) zt rfl fun⟨HA2,hA2⟩=>?_)
 dsimp only
 refine Zz 3 ?_
 refine C_ (aB_ (i_ e_) (aB_ (i_ e_) (bD_ (i_ e_)))) (Zz 8 ?_)
 refine ai_ (ι:={y:Nat×List Thg×Hp // y.1≤List.length S∧y.2.1=by_ [] (dv_ (List.take y.1 S))∧StK 78 139 83 b2 b7 b4 y.2.1 y.2.1 y.2.2}) (fun y=>[(2,zp_ b1 0),(4,zp_ b2 0),(5,zp_ b3 0),(6,.map (some b5)),(7,.map (some b6)),(8,zp_ b7 0),(9,zp_ b8 0),(10,.func (.func 86) #[] #[zp_ b3 0,zp_ b1 0,zp_ b8 0]),(35,.slice sad (List.length S) scap),(36,.int .i64 (List.length S:Int)),(37,.int .i64 (y.1.1:Int))]) (fun y=>((b3,.cells #[svU] 79 (0,0))::(HrU++((b5,.map #[] 0)::((b6,.map #[] 0)::y.1.2.2))))) (fun y=>[bi_ b8 (.cells #[.func (.func 85) #[] #[zp_ b2 0,zp_ b7 0]] 140 (0,0)),bi_ b1 (.cells #[.slice ad (List.length p) cap] 54 (0,0)),al_ ad (List.flatMap Pc.cells p),al_ sad (List.flatMap aE_ S)]) (fun y=>List.length S - y.1.1) ⟨((0:Nat),((([]:List Thg)++by_ ([]:List Thg) [(Thg.mk 1 [42])])++by_ (([]:List Thg)++by_ ([]:List Thg) [(Thg.mk 1 [42])]) [(Thg.mk 1 [33])]),HA2),by simp,(by rw[List.take_zero];exact sW_.symm),hA2⟩ zl zp zh ?_
 rintro ⟨⟨k,K,Hs0⟩,hi_k,hK,hS0⟩
 dsimp only at hi_k hK hS0 ⊢
 refine C_ (aB_ e_ (aB_ (i_ e_) (bD_ (i_ e_)))) (Zi 2 (fun hr1=>?_) fun hr1=>?_)
 ·refine Zz 15 ?_
  have hKS:K=by_ [] (dv_ S):=by rw[hK,List.take_of_length_le (by omega)]
  refine ai_ (ι:={y:Nat×List Thg×List Bool×Hp×Array MapEntry×Nat×Hp×Hp // y.1≤List.length p∧RK p S y.1 y.2.1 y.2.2.1∧zR 4 1 ic_ svU y.2.2.1 y.2.2.2.1∧StK 78 139 83 b2 b7 b4 y.2.1 y.2.1 y.2.2.2.2.2.2.2∧IntE (fun n:Int=>.int .i64 n) y.2.2.2.2.1 (iot y.1) (tZ_ (List.take y.1 p))∧dZ_ Thg.val ew_ 3 1 (eE_ 0 (List.take y.1 p)) b6 y.2.2.2.2.2.2.1}) (fun y=>[(2,zp_ b1 0),(4,zp_ b2 0),(5,zp_ b3 0),(6,.map (some b5)),(7,.map (some b6)),(8,zp_ b7 0),(9,zp_ b8 0),(10,.func (.func 86) #[] #[zp_ b3 0,zp_ b1 0,zp_ b8 0]),(35,.slice sad (List.length S) scap),(36,.int .i64 (List.length S:Int)),(37,.int .i64 (k:Int)),(46,.slice ad (List.length p) cap),(47,.int .i64 (List.length p:Int)),(48,.int .i64 (y.1.1:Int))]) (fun y=>((b3,.cells #[svU] 79 (0,0))::(y.1.2.2.2.1++((b5,.map y.1.2.2.2.2.1 y.1.2.2.2.2.2.1)::(y.1.2.2.2.2.2.2.1++y.1.2.2.2.2.2.2.2))))) (fun y=>[bi_ b8 (.cells #[.func (.func 85) #[] #[zp_ b2 0,zp_ b7 0]] 140 (0,0)),bi_ b1 (.cells #[.slice ad (List.length p) cap] 54 (0,0)),al_ ad (List.flatMap Pc.cells p),al_ sad (List.flatMap aE_ S)]) (fun y=>List.length p - y.1.1) ⟨((0:Nat),K,(List.replicate (List.length p) false),HrU,#[],0,[(b6,.map #[] 0)],Hs0),by simp,(by rw[hKS];exact RK.init (oj_ p S) (pU_ S)),hqU,hS0,IntE.nil,dZ_.nil _ _⟩ zl zp zh ?_
  rintro ⟨⟨i,K1,U1,HU1,es1,cw1,HM1,Hs1⟩,hi_i,hR,hU1,hS1,hW1,hM1⟩
  dsimp only at hi_i hR hU1 hS1 hW1 hM1 ⊢
  refine C_ (aB_ e_ (bD_ (i_ e_))) (Zi 2 (fun hr2=>?_) fun hr2=>?_)
  ·refine Zz 8 ?_
   obtain rfl:i=List.length p:=by omega
   rw[List.take_of_length_le (Nat.le_refl _)]at hM1 hW1
   refine sz_ px_ hM1 (c_ (c_ (i_ o_))) fun adr=>?_
   refine ai_ (ι:={y:List Thg×List Thg×List Bool×List Int×Hp×Array MapEntry×Hp // RI p S y.1 y.2.1 y.2.2.1 y.2.2.2.1∧StK 78 139 83 b2 b7 b4 y.1 y.2.1 y.2.2.2.2.2.2∧zR 4 1 ic_ svU y.2.2.1 y.2.2.2.2.1∧IntE (fun n:Int=>.int .i64 n) y.2.2.2.2.2.1 (iot (List.length p)) y.2.2.2.1}) (fun y=>[(4,zp_ b2 0),(5,zp_ b3 0),(6,.map (some b5)),(7,.map (some b6)),(8,zp_ b7 0),(10,.func (.func 86) #[] #[zp_ b3 0,zp_ b1 0,zp_ b8 0])]) (fun y=>((b3,.cells #[svU] 79 (0,0))::(y.1.2.2.2.2.1++((b5,.map y.1.2.2.2.2.2.1 cw1)::y.1.2.2.2.2.2.2)))) (fun y=>[mlF Tryz.prog 83 Thg.val ew_ b6 (eE_ 0 p) adr,bi_ b8 (.cells #[.func (.func 85) #[] #[zp_ b2 0,zp_ b7 0]] 140 (0,0)),bi_ b1 (.cells #[.slice ad (List.length p) cap] 54 (0,0)),al_ ad (List.flatMap Pc.cells p),al_ sad (List.flatMap aE_ S)]) (fun y=>(iY_ p S).length - List.length y.1.1+List.length y.1.2.1) ⟨(K1,K1,U1,(tZ_ p),HU1,es1,Hs1),hR.done,hS1,hU1,hW1⟩ zl zp zh ?_
   rintro ⟨⟨K,W,Uw,wl,HUw,esw,Hsw⟩,hI,hSw,hUw,hWw⟩
   dsimp only at hI hSw hUw hWw ⊢
   obtain⟨esK,cK,svW,HwK,rfl,hEK,hBK,hrW⟩:=hSw
   have hwl:=hI.kw.wlen
   have hkl:=hI.kw.len
   have hul:=fU_ p S
   refine X_ (C_ (aB_ e_ (aB_ (i_ e_) (aB_ (i_ e_) (aB_ (i_ e_) (bD_ (i_ e_)))))) (Zz 3 ?_))
   refine d_ (ga_ hrW R_ rfl) rfl ?_
   refine Zi 0 (fun hr3=>?_) fun hr3=>?_
   ·refine Zz 7 ?_
    refine z_ 2 [0,1] zk zs (Zz 3 ?_)
    refine j_ 2 rfl zk (x_ 2 Tryz.sizeOf78 rfl rfl rfl rfl rfl rfl (Zz 3 ?_))
    refine j_ 3 rfl zk (cI_ 0 hUw Tryz.sizeOf79 rfl rfl rfl rfl (Zz 6 ?_))
    obtain rfl:W=[]:=List.eq_nil_of_length_eq_zero (by omega)
    exact fE_ ⟨⟨b4,esK,cK,K,svU,Uw,HUw⟩,hEK,hBK,hUw,hI.end⟩ (fun aa v h1 h2=>vj_ 2 0 Tryz.results42 Tryz.isAgg78 Tryz.isAgg79 rfl rfl rfl rfl aa v h1 h2) (p_ (c_ (c_ (c_ (c_ e_)))) (c_ (c_ (c_ (c_ o_))))) zt
   obtain⟨Wp,t0,rfl⟩:∃ Wp t0,W=Wp++[t0]:=by rcases List.eq_nil_or_concat W with h|⟨a,b,h⟩;subst h;simp at *;exact⟨a,b,by simpa using h⟩
   have hxl:List.length (Wp++[t0])=List.length Wp+1:=by simp
   have hx0:(Wp++[t0])[List.length Wp]? = some t0:=by simp
   refine Zz 10 ?_
   refine d_ (ga_ hrW R_ rfl) rfl (d_ (aY_ (aT_ rfl rfl rfl (bK_ (by simp only[List.length_append,List.length_cons,List.length_nil];omega) (by simp only[List.length_append,List.length_cons,List.length_nil];omega))) (show _=Value.int .i64 (List.length Wp:Int) from congrArg _ (by simp only[List.length_append,List.length_cons,List.length_nil];omega))) rfl ?_)
   refine d_ (ii_ hrW R_ aJ_ rfl rfl (by omega) (by omega)) rfl (d_ (ms_ hrW zp Tryz.isAgg83 aJ_ rfl (Thg.cells_len _) (by decide) (u_ Thg.cells_len hx0)) rfl (K_ aP_ rfl fun b9=>x_ 0 aJ_ rfl rfl rfl rfl rfl rfl (Zz 6 ?_)))
   refine d_ (ga_ hrW R_ rfl) rfl (d_ (aY_ (aT_ rfl rfl rfl (bK_ (by simp only[List.length_append,List.length_cons,List.length_nil];omega) (by simp only[List.length_append,List.length_cons,List.length_nil];omega))) (show _=Value.int .i64 (List.length Wp:Int) from congrArg _ (by simp only[List.length_append,List.length_cons,List.length_nil];omega))) rfl ?_)
   obtain⟨sv9,hr9,hy9⟩:=vo_ (P:=Tryz.prog) (n:=List.length Wp) (by have q:=hrW;rw[List.length_append]at q;exact q)
   have hr8:aL_ 83 2 sv9 (List.length Wp) (List.flatMap Thg.cells Wp) HwK:=by have q:=hr9;rw[nT_ Thg.cells 2 Thg.cells_len,List.take_left]at q;exact q
   refine d_ (hy9 R_ aJ_ rfl rfl) rfl (cI_ 4 hr8 Tryz.sizeOf139 rfl rfl rfl rfl (Zz 6 ?_))
   refine d_ (cc_ (k:=t0) (adr:=adr) px_ Tryz.runUnderlying138 Tryz.zeroValue27 rfl rfl zf) rfl (Zz 5 ?_)
   have hus:=qd_ p t0
   have hSp:StK 78 139 83 b2 b7 b4 K Wp ((b2,.cells #[.map (some b4)] 78 (0,0))::(b7,.cells #[sv9] 139 (0,0))::(b4,.map esK cK)::HwK):=⟨esK,cK,sv9,HwK,rfl,hEK,hBK,hr8⟩
   have hul2:List.length (lat (eE_ 0 p) t0)≤1000000000:=by have q:=fx_ (eE_ 0 p) t0;have q2:=le_ p 0;omega
   refine ey_ (H':=((b9,.cells #[.int .i64 (Thg.kind t0),str (Thg.name t0)] 83 (0,0))::((b3,.cells #[svU] 79 (0,0))::((b5,.map esw cw1)::(HUw++((b2,.cells #[.map (some b4)] 78 (0,0))::(b7,.cells #[sv9] 139 (0,0))::(b4,.map esK cK)::HwK)))))) (p_ e_ (p_ e_ (p_ e_ (s_ (c_ (c_ (c_ o_))) (p_ e_ (p_ e_ (p_ e_ aZ_))))))) (fun v _ h=>h) ?_
   refine ai_ (ι:={y:Nat×List Thg×List Thg×List Bool×List Int×Hp×Array MapEntry×Hp // y.1≤List.length (lat (eE_ 0 p) t0)∧RJ p S t0 (lat (eE_ 0 p) t0) y.1 y.2.1 y.2.2.1 y.2.2.2.1 y.2.2.2.2.1∧StK 78 139 83 b2 b7 b4 y.2.1 y.2.2.1 y.2.2.2.2.2.2.2∧zR 4 1 ic_ svU y.2.2.2.1 y.2.2.2.2.2.1∧IntE (fun n:Int=>.int .i64 n) y.2.2.2.2.2.2.1 (iot (List.length p)) y.2.2.2.2.1∧List.length y.2.1+List.length Wp=List.length K+List.length y.2.2.1}) (fun y=>[(4,zp_ b2 0),(5,zp_ b3 0),(6,.map (some b5)),(7,.map (some b6)),(8,zp_ b7 0),(10,.func (.func 86) #[] #[zp_ b3 0,zp_ b1 0,zp_ b8 0]),(97,.slice (Prod.fst (adr t0)) (List.length (lat (eE_ 0 p) t0)) (Prod.snd (adr t0))),(98,.int .i64 (List.length (lat (eE_ 0 p) t0):Int)),(99,.int .i64 (y.1.1:Int))]) (fun y=>((b3,.cells #[svU] 79 (0,0))::(y.1.2.2.2.2.2.1++((b5,.map y.1.2.2.2.2.2.2.1 cw1)::y.1.2.2.2.2.2.2.2)))) (fun y=>[mlF Tryz.prog 83 Thg.val ew_ b6 (eE_ 0 p) adr,bi_ b8 (.cells #[.func (.func 85) #[] #[zp_ b2 0,zp_ b7 0]] 140 (0,0)),bi_ b1 (.cells #[.slice ad (List.length p) cap] 54 (0,0)),al_ ad (List.flatMap Pc.cells p),al_ sad (List.flatMap aE_ S)]) (fun y=>List.length (lat (eE_ 0 p) t0) - y.1.1) ⟨((0:Nat),K,Wp,Uw,wl,HUw,esw,((b2,.cells #[.map (some b4)] 78 (0,0))::(b7,.cells #[sv9] 139 (0,0))::(b4,.map esK cK)::HwK)),by simp,(hI.pop _),hSp,hUw,hWw,rfl⟩ zl zp zh ?_
   rintro ⟨⟨j,K2,W2,U2,wl2,HU2,es2,Hs2⟩,hi_j,hJ,hS2,hU2,hW2,hKW⟩
   dsimp only at hi_j hJ hS2 hU2 hW2 hKW ⊢
   refine C_ (aB_ e_ (bD_ (i_ e_))) (Zi 2 (fun hr4=>?_) fun hr4=>?_)
   ·have ej:j=List.length (lat (eE_ 0 p) t0):=by omega
    refine Zz 6 ?_
    exact J_ ⟨(K2,W2,U2,wl2,HU2,es2,Hs2),(by rw[ej]at hJ;exact hJ.done hus),hS2,hU2,hW2⟩ (by dsimp only;have q:=hJ.kw.len;rw[List.length_append,List.length_singleton]at *;omega) zl (p_ e_ (s_ (c_ o_) (p_ e_ aZ_))) zh
   obtain⟨hlx2,x2,hx2,hmx2⟩:=zge (show j<List.length (lat (eE_ 0 p) t0) by omega)
   obtain⟨hx20,hx2l⟩:=hus.1 x2 hmx2
   obtain⟨m,rfl⟩:∃ m:Nat,x2=(m:Int):=⟨x2.toNat,by omega⟩
   have hml:m<List.length p:=by omega
   obtain⟨x3,hx3⟩:∃ x3,p[m]? = some x3:=⟨_,List.getElem?_eq_getElem hml⟩
   obtain⟨n3,hn3,hn31,hn32,hn33⟩:=hJ.pos hus hx2 hx3
   have hnl3:=hp_ x3
   have hgl3:=hb_ (ae_ x3) K2
   refine Zz 10 ?_
   refine d_ (L_ ac_ ao_ rfl rfl (fun v _ h=>y_ (n:=1) be_ (by decide) (by exact (bo_ h.1 t0)) hx2) (by omega) (by first|omega|(simp;done))) rfl ?_
   refine d_ (ba_ (ad:=(Prod.fst (adr t0))) aS_ rfl (fun v _ h=>by exact (bo_ h.1 t0)) (u_ be_ hx2 0 _ rfl)) rfl (Zz 7 ?_)
   refine d_ (mq_ (k:=(m:Int)) (i:=m) (n:=n3) qI_ sa_ rfl rfl hW2 (qO_ hml) hn3 (fun v h _=>(h.own _ (List.mem_of_getElem? (i:=1) rfl)).1)) rfl (Zz 1 ?_)
   refine qv_ (k:=(m:Int)) (i:=m) 1 qI_ (.inr rfl) sa_ rfl rfl rfl rfl hW2 (qO_ hml) hn3 fun en1 hE1=>Zz 6 ?_
   refine d_ (mq_ (k:=(m:Int)) (i:=m) (n:=(n3 - 1)) qI_ sa_ rfl rfl hE1 (qO_ hml) (by rw[List.getElem?_set_self (by rw[hJ.wll];exact hml)]) (fun v h _=>(h.own _ (List.mem_of_getElem? (i:=1) rfl)).1)) rfl ?_
   refine Zi 0 (fun hr5=>?_) fun hr5=>?_
   ·refine Zz 10 ?_
    exact J_ ⟨(j+1,K2,W2,U2,(List.set wl2 m (n3 - 1)),HU2,en1,Hs2),hlx2,(hJ.skip hus hx2 hx3 hn3 hr5),hS2,hU2,hE1,hKW⟩ (by dsimp only;omega) zl (p_ e_ (s_ (c_ o_) (p_ e_ aZ_))) zh
   refine Zz 6 ?_
   refine Y_ (wd_ m x3 p ad cap K2 W2 U2 b1 b2 b3 b7 b8 b4 svU HU2 Hs2 hx3 hp hU2 hJ.ul hS2 (by have q:=hJ.kw.wlen;omega)) rfl rfl (p_ e_ (s_ (c_ o_) M_)) zf rfl fun⟨⟨HB3,HC3⟩,hB3,hC3⟩=>?_
   dsimp only
   dsimp only at hB3 hC3
   simp only[List.cons_append,List.append_assoc]
   refine Zz 2 ?_
   refine C_ (aB_ e_ (bD_ (i_ ca_))) (Zz 5 ?_)
   exact J_ ⟨(j+1,(K2++by_ K2 (ae_ x3)),(W2++by_ K2 (ae_ x3)),(List.set U2 m true),(List.set wl2 m (n3 - 1)),HB3,en1,HC3),hlx2,(hJ.take hus hx2 hx3 hn3 hr5),hC3,hB3,hE1,(by simp only[List.length_append];omega)⟩ (by dsimp only;omega) zl zp zh
  obtain⟨hlx1,x1,hx1,hmx1⟩:=zge (show i<List.length p by omega)
  refine Zz 13 ?_
  refine K_ Z_ rfl fun b10=>Zz 1 ?_
  refine x_ 0 F_ rfl rfl rfl rfl rfl rfl (Zz 5 ?_)
  refine f_ (vv_ x1) rfl g_ zt rfl fun⟨⟨nad,ncap⟩,ncl,ncm,ncz⟩=>?_
  dsimp only
  refine Zz 9 ?_
  refine qw_ (k:=(i:Int)) 2 qI_ (.inr rfl) sa_ rfl rfl rfl rfl hW1 (vG_ i) fun en2 cn2 hE2=>Zz 11 ?_
  refine ai_ (ι:={y:Nat×Hp // y.1≤List.length (ag_ x1)∧dZ_ Thg.val ew_ 3 1 ((eE_ 0 (List.take i p))++List.map (fun t=>(t,(i:Int))) (List.take y.1 (ag_ x1))) b6 y.2}) (fun y=>[(2,zp_ b1 0),(4,zp_ b2 0),(5,zp_ b3 0),(6,.map (some b5)),(7,.map (some b6)),(8,zp_ b7 0),(9,zp_ b8 0),(10,.func (.func 86) #[] #[zp_ b3 0,zp_ b1 0,zp_ b8 0]),(35,.slice sad (List.length S) scap),(36,.int .i64 (List.length S:Int)),(37,.int .i64 (k:Int)),(46,.slice ad (List.length p) cap),(47,.int .i64 (List.length p:Int)),(48,.int .i64 (i:Int)),(13,.int .i64 (i:Int)),(15,.slice nad (List.length (ag_ x1)) ncap),(59,.slice nad (List.length (ag_ x1)) ncap),(60,.int .i64 (List.length (ag_ x1):Int)),(61,.int .i64 (y.1.1:Int))]) (fun y=>((b3,.cells #[svU] 79 (0,0))::(HU1++((b5,.map en2 cn2)::(y.1.2++Hs1))))) (fun y=>[al_ nad (List.flatMap Thg.cells (ag_ x1)),bi_ b8 (.cells #[.func (.func 85) #[] #[zp_ b2 0,zp_ b7 0]] 140 (0,0)),bi_ b1 (.cells #[.slice ad (List.length p) cap] 54 (0,0)),al_ ad (List.flatMap Pc.cells p),al_ sad (List.flatMap aE_ S)]) (fun y=>List.length (ag_ x1) - y.1.1) ⟨((0:Nat),HM1),by simp,(by rw[List.take_zero,List.map_nil,List.append_nil];exact hM1)⟩ zl (p_ (c_ e_) (s_ (c_ (c_ o_)) (p_ (c_ e_) (s_ (c_ o_) M_)))) zh ?_
  rintro ⟨⟨j,HM2⟩,hi_j,hM2⟩
  dsimp only at hi_j hM2 ⊢
  have hnl1:=hp_ x1
  have hub:List.length ((eE_ 0 (List.take i p))++List.map (fun t=>(t,(i:Int))) (List.take j (ag_ x1)))≤400000000:=by have q:=le_ (List.take i p) 0;have q2:=List.length_take_le i p;have q3:=List.length_take_le j (ag_ x1);have q4:=hp_ x1;rw[List.length_append,List.length_map];omega
  refine C_ (aB_ e_ (bD_ (i_ e_))) (Zi 2 (fun hr6=>?_) fun hr6=>?_)
  ·refine Zi 10 (fun hr7=>?_) fun hr7=>?_
   ·refine Zz 10 ?_
    exact J_ ⟨(i+1,K1,U1,HU1,en2,cn2,HM2,Hs1),hlx1,hR.skip hx1 (fun q=>by rw[q]at hr7;exact hr7 rfl),hU1,hS1,(by rw[ju_,mS_ hx1];exact hE2),(by rw[my_ hx1];rw[show List.take j (ag_ x1)=ag_ x1 from List.take_of_length_le (by omega)]at hM2;exact hM2)⟩ (by dsimp only;omega) zl zp (fun _ _ h=>h.2)
   refine Zz 6 ?_
   refine Y_ (wd_ i x1 p ad cap K1 K1 U1 b1 b2 b3 b7 b8 b4 svU HU1 Hs1 hx1 hp hU1 hR.ul hS1 (by have q:=hR.kw.wlen;have q2:=fU_ p S;omega)) rfl rfl (p_ e_ (s_ (c_ o_) (c_ ca_))) zf rfl fun⟨⟨HB4,HC4⟩,hB4,hC4⟩=>?_
   dsimp only
   dsimp only at hB4 hC4
   simp only[List.cons_append,List.append_assoc]
   refine Zz 2 ?_
   refine C_ (aB_ e_ (bD_ (i_ (i_ e_)))) (Zz 5 ?_)
   exact J_ ⟨(i+1,(K1++by_ K1 (ae_ x1)),(List.set U1 i true),HB4,en2,cn2,HM2,HC4),hlx1,hR.take hx1 (List.eq_nil_of_length_eq_zero (by omega)),hB4,hC4,(by rw[ju_,mS_ hx1];exact hE2),(by rw[my_ hx1];rw[show List.take j (ag_ x1)=ag_ x1 from List.take_of_length_le (by omega)]at hM2;exact hM2)⟩ (by dsimp only;omega) zl zp (fun _ _ h=>h.2)
  have hlt1:j<List.length (ag_ x1):=by omega
  obtain⟨t1,ht1⟩:∃ e0,(ag_ x1)[j]? = some e0:=⟨_,List.getElem?_eq_getElem hlt1⟩
  have hmt1:t1∈(ag_ x1):=List.mem_of_getElem? ht1
  refine Zz 10 ?_
  refine d_ (L_ R_ aJ_ rfl rfl (fun v _ h=>y_ (n:=2) Thg.cells_len (by decide) (by exact h.1) ht1) (by omega) (by first|omega|(simp;done))) rfl ?_
  refine d_ (af_ (ad:=nad) (us:=Thg.cells t1) Tryz.isAgg83 aJ_ rfl zf (Thg.cells_len _) (u_ Thg.cells_len ht1)) rfl (K_ aP_ rfl fun b11=>x_ 0 aJ_ rfl rfl rfl rfl rfl rfl (Zz 6 ?_))
  refine E_ ac_ ao_ bq_ rfl rfl rfl rfl rfl rfl fun b12=>?_
  have hbb1:=(show (lat ((eE_ 0 (List.take i p))++List.map (fun t=>(t,(i:Int))) (List.take j (ag_ x1))) t1).length≤400000000 from Nat.le_trans (fx_ _ _) hub)
  refine dD_ (k:=t1) px_ hM2 Tryz.runUnderlying138 Tryz.zeroValue27 rfl rfl (c_ (c_ (c_ (c_ (i_ o_))))) rfl fun es1 ce1 ie1 se1 ve1 Hk1 Hx1 ho1 hw1=>Zz 1 ?_
  refine aG_ (news:=List.flatMap ew_ [(i:Int)]) rF_ hw1 rfl rfl zp rfl (dC_ zp) (fun u hu=>bd_ pB_ hu) (by simp only[maxLen];omega) (by omega) rfl fun sv1 Hr1 hr1=>?_
  have hq1:=zsa hr1
  refine Zz 1 ?_
  refine bG_ (k:=t1) (dd:=(i:Int)) ho1 (by rw[dc_];exact hq1) rfl rfl rfl (db_ (p_ (i_ e_) (s_ o_ o_))) fun H2 hM2=>?_
  refine Zz 2 ?_
  refine C_ (aB_ (i_ e_) (aB_ (i_ e_) (aB_ (i_ e_) (bD_ (i_ e_))))) (Zz 5 ?_)
  exact J_ ⟨(j+1,H2),hlt1,(by rw[take_snoc ht1,List.map_append,← List.append_assoc];exact hM2)⟩ (by dsimp only;omega) zl zp zh
 have hls1:k<List.length S:=by omega
 obtain⟨s1,hs1⟩:∃ e0,S[k]? = some e0:=⟨_,List.getElem?_eq_getElem hls1⟩
 have hms1:s1∈S:=List.mem_of_getElem? hs1
 refine Zz 18 ?_
 refine d_ (w_ dh_ rfl rfl) rfl (Y_ (om_ (Thg.mk 1 s1) K K b2 b7 b4 Hs0 hS0 (by have q:=(oj_ ([]:List Pc) (List.take k S)).wlen;have q2:=fU_ ([]:List Pc) (List.take k S);have q3:=List.length_take_le k S;simp only[List.length_nil]at q2;rw[hK];omega)) rfl rfl (c_ (c_ (c_ ca_))) zt rfl fun⟨HA5,hA5⟩=>?_)
 dsimp only
 refine Zz 2 ?_
 refine C_ (aB_ (i_ e_) (aB_ (i_ e_) (bD_ (i_ e_)))) (Zz 5 ?_)
 exact J_ ⟨(k+1,(K++by_ K [(Thg.mk 1 s1)]),HA5),hls1,(by rw[sX_ hs1,← hK]),hA5⟩ (by dsimp only;omega) zl zp zh
end Go.Proofs.YtamklbgaipakfaaGreatDoor
namespace Go.Vs
open Go Go.Sx
abbrev SrS (l:List Str):Prop:=l.Pairwise fun x y=>x<y
theorem gM_ (a:Str):¬ a<a:=List.lt_irrefl a
theorem kS_hit {l:List Str} {s:Str} (h:SrS l) (hs:s∈l):l[kS l s]? = some s:=by
 obtain⟨j,hj⟩:=List.getElem?_of_mem hs
 have hl:=(List.getElem?_eq_some_iff.1 hj).1
 rcases Nat.lt_trichotomy (kS l s) j with q|q|q
 ·have hk:kS l s<l.length:=by omega
  have e:=List.getElem?_eq_getElem hk
  have h1:=nr_ l _ e
  have h2:=List.pairwise_iff_getElem.1 h (kS l s) j hk hl q
  rw[(List.getElem?_eq_some_iff.1 hj).2]at h2
  exact absurd h2 h1
 ·rw[q];exact hj
 have:s∈l.take (kS l s):=by
   refine List.mem_of_getElem? (i:=j) ?_
   rw[List.getElem?_take_of_lt q];exact hj
 exact absurd (qe_ l s this) (gM_ s)
theorem la_ {l:List Str} {s:Str} (h:SrS l) (hs:s∈l):cf_ l s=l:=by
  unfold cf_;rw[if_pos (.inr (kS_hit h hs))]
theorem rL_ {l:List Str} {s:Str} (hn:s≠[]) (hs:s ∉ l):cf_ l s=l.take (kS l s)++[s]++l.drop (kS l s):=by
  unfold cf_;rw[if_neg (by rintro (q|q);exact hn q;exact hs (List.mem_of_getElem? q))]
theorem iF_ {l:List Str} {s:Str} (hn:s≠[]) (hs:s ∉ l):(cf_ l s).length=l.length+1:=by
  have:=wg_ l s
  rw[rL_ hn hs]
  simp only[List.length_append,List.length_take,List.length_cons,List.length_nil,List.length_drop]
  omega
structure Rcd where
  a:List Str
  aad:Option Addr
  acap:Nat
  r:List Str
  rad:Option Addr
  rcap:Nat
  f:List Str
  fad:Option Addr
  fcap:Nat
def Rcd.cells (x:Rcd):List Value:=[.slice x.aad x.a.length x.acap,.slice x.rad x.r.length x.rcap,.slice x.fad x.f.length x.fcap]
theorem Rcd.cells_len (x:Rcd):x.cells.length=3:=rfl
def Rcd.val (x:Rcd):Value:=.agg x.cells.toArray
def ke_ (a r f:List Str) (t:Thg):Prop:=(t.kind=1∧t.name∈a)∨(t.kind=2∧t.name∈r)∨(t.kind=3∧t.name∈f)
instance (a r f:List Str) (t:Thg):Decidable (ke_ a r f t):=by unfold ke_;infer_instance
def nq_ (a r f:List Str) (x:Pc):Bool:=decide (∀ u∈ag_ x,ke_ a r f u)
def np_ (a:List Str) (x:Pc):List Str:=if x.kind=1∨x.kind=2∨x.kind=4∨x.kind=9∨x.kind=3 then cf_ a x.c else a
def kD_ (r:List Str) (x:Pc):List Str:=if x.kind=3∨x.kind=7 then cf_ r x.r else if x.kind=5∨x.kind=6 then cf_ r x.t else r
def no_ (f:List Str) (x:Pc):List Str:=if x.kind=8 then cf_ f x.r else f
def PcN (x:Pc):Prop:=(1≤x.kind∧x.kind≤9)∧∀ t∈ae_ x,t.name≠[]
theorem gd_ {l:List Str} {s:Str} (h:SrS l) (hn:s≠[]):SrS (cf_ l s)∧l.length≤(cf_ l s).length∧((cf_ l s).length=l.length→cf_ l s=l)∧∀ n,n∈cf_ l s↔n∈l∨n=s:=by
 refine⟨iX_ h,?_,?_,fun n=>by rw[ij_];constructor;(rintro (q|q);exact .inl q;exact .inr q.1);(rintro (q|q);exact .inl q;exact .inr ⟨q,q▸hn⟩)⟩
 ·by_cases hs:s∈l
  ·rw[la_ h hs];exact Nat.le_refl _
  rw[iF_ hn hs];omega
 intro e
 by_cases hs:s∈l
 ·exact la_ h hs
 rw[iF_ hn hs]at e;omega
theorem qH_ {x:Pc} (h:1≤x.kind∧x.kind≤9):x.kind=1∨x.kind=2∨x.kind=3∨x.kind=4∨x.kind=5∨x.kind=6∨x.kind=7∨x.kind=8∨x.kind=9:=by omega
theorem mw_ {a:List Str} {x:Pc} (ha:SrS a) (hx:PcN x):SrS (np_ a x)∧a.length≤(np_ a x).length∧((np_ a x).length=a.length→np_ a x=a)∧∀ n,n∈np_ a x↔n∈a∨(⟨1,n⟩:Thg)∈ae_ x:=by
 obtain⟨hk,hn⟩:=hx
 by_cases c:x.kind=1∨x.kind=2∨x.kind=4∨x.kind=9∨x.kind=3
 ·have e:np_ a x=cf_ a x.c:=if_pos c
  have hc:(⟨1,x.c⟩:Thg)∈ae_ x:=by rcases c with k|k|k|k|k<;>simp[ae_,k]
  have g:∀ n,(⟨1,n⟩:Thg)∈ae_ x↔n=x.c:=fun n=>by rcases c with k|k|k|k|k<;>simp[ae_,k]
  obtain⟨h1,h2,h3,h4⟩:=gd_ ha (hn _ hc)
  rw[e]
  exact⟨h1,h2,h3,fun n=>by rw[h4,g]⟩
 have e:np_ a x=a:=if_neg c
 rw[e]
 refine⟨ha,Nat.le_refl _,fun _=>rfl,fun n=>⟨.inl,?_⟩⟩
 rintro (q|q)
 ·exact q
 rcases qH_ hk with k|k|k|k|k|k|k|k|k<;>simp[ae_,k]at q c
theorem mu_ {r:List Str} {x:Pc} (ha:SrS r) (hx:PcN x):SrS (kD_ r x)∧r.length≤(kD_ r x).length∧((kD_ r x).length=r.length→kD_ r x=r)∧∀ n,n∈kD_ r x↔n∈r∨(⟨2,n⟩:Thg)∈ae_ x:=by
 obtain⟨hk,hn⟩:=hx
 by_cases c:x.kind=3∨x.kind=7
 ·have e:kD_ r x=cf_ r x.r:=if_pos c
  have hc:(⟨2,x.r⟩:Thg)∈ae_ x:=by rcases c with k|k<;>simp[ae_,k]
  have g:∀ n,(⟨2,n⟩:Thg)∈ae_ x↔n=x.r:=fun n=>by rcases c with k|k<;>simp[ae_,k]
  obtain⟨h1,h2,h3,h4⟩:=gd_ ha (hn _ hc)
  rw[e]
  exact⟨h1,h2,h3,fun n=>by rw[h4,g]⟩
 by_cases d:x.kind=5∨x.kind=6
 ·have e:kD_ r x=cf_ r x.t:=by unfold kD_;rw[if_neg c,if_pos d]
  have hc:(⟨2,x.t⟩:Thg)∈ae_ x:=by rcases d with k|k<;>simp[ae_,k]
  have g:∀ n,(⟨2,n⟩:Thg)∈ae_ x↔n=x.t:=fun n=>by rcases d with k|k<;>simp[ae_,k]
  obtain⟨h1,h2,h3,h4⟩:=gd_ ha (hn _ hc)
  rw[e]
  exact⟨h1,h2,h3,fun n=>by rw[h4,g]⟩
 have e:kD_ r x=r:=by unfold kD_;rw[if_neg c,if_neg d]
 rw[e]
 refine⟨ha,Nat.le_refl _,fun _=>rfl,fun n=>⟨.inl,?_⟩⟩
 rintro (q|q)
 ·exact q
 rcases qH_ hk with k|k|k|k|k|k|k|k|k<;>simp[ae_,k]at q c d
theorem mv_ {f:List Str} {x:Pc} (ha:SrS f) (hx:PcN x):SrS (no_ f x)∧f.length≤(no_ f x).length∧((no_ f x).length=f.length→no_ f x=f)∧∀ n,n∈no_ f x↔n∈f∨(⟨3,n⟩:Thg)∈ae_ x:=by
 obtain⟨hk,hn⟩:=hx
 by_cases c:x.kind=8
 ·have e:no_ f x=cf_ f x.r:=if_pos c
  have hc:(⟨3,x.r⟩:Thg)∈ae_ x:=by simp[ae_,c]
  have g:∀ n,(⟨3,n⟩:Thg)∈ae_ x↔n=x.r:=fun n=>by simp[ae_,c]
  obtain⟨h1,h2,h3,h4⟩:=gd_ ha (hn _ hc)
  rw[e]
  exact⟨h1,h2,h3,fun n=>by rw[h4,g]⟩
 have e:no_ f x=f:=if_neg c
 rw[e]
 refine⟨ha,Nat.le_refl _,fun _=>rfl,fun n=>⟨.inl,?_⟩⟩
 rintro (q|q)
 ·exact q
 rcases qH_ hk with k|k|k|k|k|k|k|k|k<;>simp[ae_,k]at q c
theorem pF_ {x:Pc} {t:Thg} (h:t∈ae_ x):t.kind=1∨t.kind=2∨t.kind=3:=by
  unfold ae_ at h
  repeat' split at h
  all_goals simp at h
  all_goals first|(rcases h with rfl|rfl<;>simp)|(subst h;simp)
theorem uo_ {a r f:List Str} {x:Pc} (ha:SrS a) (hr:SrS r) (hf:SrS f) (hx:PcN x) (t:Thg):ke_ (np_ a x) (kD_ r x) (no_ f x) t↔ke_ a r f t∨t∈ae_ x:=by
 obtain⟨k,n⟩:=t
 unfold ke_
 rw[(mw_ ha hx).2.2.2,(mu_ hr hx).2.2.2,(mv_ hf hx).2.2.2]
 dsimp only
 constructor
 ·rintro (⟨rfl,q|q⟩|⟨rfl,q|q⟩|⟨rfl,q|q⟩)
  ·exact .inl (.inl ⟨rfl,q⟩)
  ·exact .inr q
  ·exact .inl (.inr (.inl ⟨rfl,q⟩))
  ·exact .inr q
  ·exact .inl (.inr (.inr ⟨rfl,q⟩))
  exact .inr q
 rintro ((⟨rfl,q⟩|⟨rfl,q⟩|⟨rfl,q⟩)|q)
 ·exact .inl ⟨rfl,.inl q⟩
 ·exact .inr (.inl ⟨rfl,.inl q⟩)
 ·exact .inr (.inr ⟨rfl,.inl q⟩)
 rcases pF_ q with e|e|e
 ·dsimp only at e;subst e;exact .inl ⟨rfl,.inr q⟩
 ·dsimp only at e;subst e;exact .inr (.inl ⟨rfl,.inr q⟩)
 dsimp only at e;subst e;exact .inr (.inr ⟨rfl,.inr q⟩)
structure RdI (p:List Pc) (S:List Str) (a r f:List Str):Prop where
  sa:SrS a
  sr:SrS r
  sf:SrS f
  snd:∀ t,ke_ a r f t→Rch p S t
  bas:∀ t∈dv_ S,ke_ a r f t
structure RdR (p:List Pc) (S:List Str) (n:Int) (i:Nat) (a r f:List Str):Prop where
  inv:RdI p S a r f
  le:n≤((a.length+r.length+f.length:Nat):Int)
  cl:n=((a.length+r.length+f.length:Nat):Int)→∀ (j:Nat) x,p[j]? = some x→j<i→nq_ a r f x=true→∀ t∈ae_ x,ke_ a r f t
theorem RdR.skip {p:List Pc} {S a r f:List Str} {n:Int} {i:Nat} {x:Pc} (h:RdR p S n i a r f) (hx:p[i]? = some x) (hu:nq_ a r f x=false):RdR p S n (i+1) a r f:=⟨h.inv,h.le,fun hn j y hj hlt hy=>by
 by_cases e:j=i
 ·subst e
  rw[hx,Option.some.injEq]at hj
  subst hj
  rw[hu]at hy
  cases hy
 exact h.cl hn j y hj (by omega) hy⟩
theorem RdR.take {p:List Pc} {S a r f:List Str} {n:Int} {i:Nat} {x:Pc} (h:RdR p S n i a r f) (hx:p[i]? = some x) (hN:PcN x) (hu:nq_ a r f x=true):RdR p S n (i+1) (np_ a x) (kD_ r x) (no_ f x):=by
 obtain⟨a1,a2,a3,_⟩:=mw_ h.inv.sa hN
 obtain⟨r1,r2,r3,_⟩:=mu_ h.inv.sr hN
 obtain⟨f1,f2,f3,_⟩:=mv_ h.inv.sf hN
 have hT:=uo_ h.inv.sa h.inv.sr h.inv.sf hN
 have hus:∀ u∈ag_ x,Rch p S u:=fun u q=>h.inv.snd u (of_decide_eq_true hu u q)
 refine⟨⟨a1,r1,f1,fun t ht=>?_,fun t ht=>(hT t).2 (.inl (h.inv.bas t ht))⟩,by have:=h.le;omega,fun hn=>?_⟩
 ·rcases (hT t).1 ht with q|q
  ·exact h.inv.snd t q
  exact .give (List.mem_of_getElem? hx) hus q
 have hle:=h.le
 have ea:=a3 (by omega)
 have er:=r3 (by omega)
 have ef:=f3 (by omega)
 have hn2:n=((a.length+r.length+f.length:Nat):Int):=by rw[ea,er,ef]at hn;exact hn
 intro j y hj hlt hy t ht
 by_cases e:j=i
 ·subst e
  rw[hx,Option.some.injEq]at hj
  subst hj
  exact (hT t).2 (.inr ht)
 rw[ea,er,ef]at hy ⊢
 exact h.cl hn2 j y hj (by omega) hy t ht
theorem RdR.done {p:List Pc} {S a r f:List Str} (h:RdR p S ((a.length+r.length+f.length:Nat):Int) p.length a r f):∀ t,ke_ a r f t↔Rch p S t:=fun t=>by
  refine⟨h.inv.snd t,fun ht=>?_⟩
  induction ht with
  | base hb=>exact h.inv.bas _ hb
  | give hx hn hg ih =>
    obtain⟨j,hj⟩:=List.getElem?_of_mem hx
    exact h.cl rfl j _ hj (List.getElem?_eq_some_iff.1 hj).1 (decide_eq_true ih) _ hg
theorem RdI.len {p:List Pc} {S a r f:List Str} (h:RdI p S a r f):a.length+r.length+f.length≤(iY_ p S).length:=by
 have nd:∀ {l:List Str},SrS l→l.Nodup:=fun hl=>List.Pairwise.imp (fun {x y} hxy=>fun e:x=y=>by subst e;exact gM_ _ hxy) hl
 have mk:∀ (k:Int) {l:List Str},SrS l→(l.map fun n=>(⟨k,n⟩:Thg)).Nodup:=fun k l hl=>by
   unfold List.Nodup
   rw[List.pairwise_map]
   exact List.Pairwise.imp (fun {x y} hxy=>fun e=>hxy (Thg.mk.inj e).2) (nd hl)
 have e:((a.map fun n=>(⟨1,n⟩:Thg))++((r.map fun n=>(⟨2,n⟩:Thg))++f.map fun n=>(⟨3,n⟩:Thg))).length=a.length+r.length+f.length:=by simp;omega
 rw[← e]
 refine eG_ _ _ ?_ fun t ht=>(h.snd t ?_).univ
 ·rw[List.nodup_append,List.nodup_append]
  refine⟨mk 1 h.sa,⟨mk 2 h.sr,mk 3 h.sf,fun x hx y hy e=>?_⟩,fun x hx y hy e=>?_⟩
  ·obtain⟨u,_,rfl⟩:=List.mem_map.1 hx
   obtain⟨v,_,rfl⟩:=List.mem_map.1 hy
   have:=(Thg.mk.inj e).1
   omega
  obtain⟨u,_,rfl⟩:=List.mem_map.1 hx
  rcases List.mem_append.1 hy with hy|hy<;>obtain⟨v,_,rfl⟩:=List.mem_map.1 hy<;>(have:=(Thg.mk.inj e).1;omega)
 simp only[List.mem_append,List.mem_map]at ht
 unfold ke_
 rcases ht with⟨u,hu,rfl⟩|⟨u,hu,rfl⟩|⟨u,hu,rfl⟩
 ·exact .inl ⟨rfl,hu⟩
 ·exact .inr (.inl ⟨rfl,hu⟩)
 exact .inr (.inr ⟨rfl,hu⟩)
end Go.Vs
namespace Go.Proofs.YtamklbgaipakfaaGreatDoor
open Go Go.Sx Go.Proofs
attribute [local irreducible] Code.wp wpList wpAnyH
open Go.Vs
theorem uD_ {p:List Pc} {x:Pc} (hx:x∈p) {s:Str} (hs:s=x.a∨s=x.b∨s=x.c) (hn:s≠[]):s∈atS p:=by
  refine (jF_ p s).2 (.inl ((go_ p s).2 ?_))
  refine List.mem_flatMap.2 ⟨x,hx,List.mem_filter.2 ⟨?_,by simpa using hn⟩⟩
  rcases hs with rfl|rfl|rfl<;>simp
theorem atS_ne {p:List Pc} {s:Str} (h:s∈atS p):s≠[]:=by
 rcases (jF_ p s).1 h with h|rfl|rfl
 ·obtain⟨x,_,h2⟩:=List.mem_flatMap.1 ((go_ p s).1 h)
  simpa using (List.mem_filter.1 h2).2
 ·decide
 decide
def cD_ (S:List Str):List Pc:=S.map fun s=>⟨1,s,[],[42],[],[],[],0,0,-1⟩
theorem pG_ {x:Pc} {s:Str} (h:(⟨1,s⟩:Thg)∈ae_ x):s=x.c:=by
  unfold ae_ at h
  repeat' split at h
  all_goals simp at h
  all_goals exact h
theorem sL_ {p q:List Pc} {S:List Str} (hq:∀ x∈p,Usb p S x→∃ y∈q,∃ n,{ y with frm:=n }=x) {y:Fc} (h:Der (p++cD_ S) (atS (p++cD_ S)) y):Rch p S ⟨1,y.a⟩→Der (q++cD_ S) (atS (q++cD_ S)) y∧(y.kind=1→Rch p S ⟨1,y.b⟩)∧(y.kind=2→Rch p S ⟨1,y.b⟩∧Rch p S ⟨2,y.r⟩)∧(y.kind=3→Rch p S ⟨3,y.r⟩):=by
 have top:Rch p S ⟨1,[42]⟩:=.base (by simp[dv_])
 have bot:Rch p S ⟨1,[33]⟩:=.base (by simp[dv_])
 have g:∀ {x:Pc} {t:Thg},x∈p++cD_ S→(∀ u∈ag_ x,Rch p S u)→t∈ae_ x→Rch p S t:=fun {x t} hx hn ht=>by
   rcases List.mem_append.1 hx with hx|hx
   · exact .give hx hn ht
   · obtain⟨s,_,rfl⟩:=List.mem_map.1 hx
     have e:t=⟨1,[42]⟩:=by simpa [ae_] using ht
     rw[e]
     exact top
 have k:∀ {x:Pc},x∈p++cD_ S→(∀ u∈ag_ x,Rch p S u)→∃ y∈q++cD_ S,∃ n,{ y with frm:=n }=x:=fun {x} hx hn=>by
   rcases List.mem_append.1 hx with hx|hx
   · obtain⟨y,hy,n,e⟩:=hq x hx hn
     exact⟨y,List.mem_append_left _ hy,n,e⟩
   · exact⟨x,List.mem_append_right _ hx,x.frm,rfl⟩
 have at1:∀ {a:Str},a∈atS (p++cD_ S)→Rch p S ⟨1,a⟩→a∈atS (q++cD_ S):=fun {a} ha hr=>by
   have hne:=atS_ne ha
   cases hr with
   | base hb =>
     simp only[dv_,List.mem_append,List.mem_cons,List.not_mem_nil,or_false,Thg.mk.injEq,true_and,List.mem_map]at hb
     rcases hb with (rfl|rfl)|⟨s,hs,rfl⟩
     · exact (jF_ _ _).2 (.inr (.inl rfl))
     · exact (jF_ _ _).2 (.inr (.inr rfl))
     · exact uD_ (x:=⟨1,s,[],[42],[],[],[],0,0,-1⟩) (List.mem_append_right _ (List.mem_map.2 ⟨s,hs,rfl⟩)) (.inl rfl) hne
   | give hx hn ht =>
     obtain⟨y,hy,n,e⟩:=hq _ hx hn
     subst e
     exact uD_ (List.mem_append_left _ hy) (.inr (.inr (pG_ ht))) hne
 have s1:∀ {a b:Str},(ar_ a b).kind=1:=rfl
 have n2:∀ {a b:Str},(ar_ a b).kind≠2:=by intro a b;simp[ar_]
 have n3:∀ {a b:Str},(ar_ a b).kind≠3:=by intro a b;simp[ar_]
 have l1:∀ {a b r:Str},(ax_ a r b).kind≠1:=by intro a b r;simp[ax_]
 have l3:∀ {a b r:Str},(ax_ a r b).kind≠3:=by intro a b r;simp[ax_]
 have p1:∀ {a r:Str} {lo hi:Int},(ak_ a r lo hi).kind≠1:=by intro a r lo hi;simp[ak_]
 have p2:∀ {a r:Str} {lo hi:Int},(ak_ a r lo hi).kind≠2:=by intro a r lo hi;simp[ak_]
 have SB:∀ {a b:Str},Der (q++cD_ S) (atS (q++cD_ S)) (ar_ a b)→Rch p S ⟨1,b⟩→Der (q++cD_ S) (atS (q++cD_ S)) (ar_ a b)∧((ar_ a b).kind=1→Rch p S ⟨1,(ar_ a b).b⟩)∧((ar_ a b).kind=2→Rch p S ⟨1,(ar_ a b).b⟩∧Rch p S ⟨2,(ar_ a b).r⟩)∧((ar_ a b).kind=3→Rch p S ⟨3,(ar_ a b).r⟩):=fun d h=>⟨d,fun _=>h,fun q=>absurd q n2,fun q=>absurd q n3⟩
 have LK:∀ {a r b:Str},Der (q++cD_ S) (atS (q++cD_ S)) (ax_ a r b)→Rch p S ⟨1,b⟩→Rch p S ⟨2,r⟩→Der (q++cD_ S) (atS (q++cD_ S)) (ax_ a r b)∧((ax_ a r b).kind=1→Rch p S ⟨1,(ax_ a r b).b⟩)∧((ax_ a r b).kind=2→Rch p S ⟨1,(ax_ a r b).b⟩∧Rch p S ⟨2,(ax_ a r b).r⟩)∧((ax_ a r b).kind=3→Rch p S ⟨3,(ax_ a r b).r⟩):=fun d h h'=>⟨d,fun q=>absurd q l1,fun _=>⟨h,h'⟩,fun q=>absurd q l3⟩
 have SP:∀ {a r:Str} {lo hi:Int},Der (q++cD_ S) (atS (q++cD_ S)) (ak_ a r lo hi)→Rch p S ⟨3,r⟩→Der (q++cD_ S) (atS (q++cD_ S)) (ak_ a r lo hi)∧((ak_ a r lo hi).kind=1→Rch p S ⟨1,(ak_ a r lo hi).b⟩)∧((ak_ a r lo hi).kind=2→Rch p S ⟨1,(ak_ a r lo hi).b⟩∧Rch p S ⟨2,(ak_ a r lo hi).r⟩)∧((ak_ a r lo hi).kind=3→Rch p S ⟨3,(ak_ a r lo hi).r⟩):=fun d h=>⟨d,fun q=>absurd q p1,fun q=>absurd q p2,fun _=>h⟩
 refine h.least (T:=fun y=>Rch p S ⟨1,y.a⟩→Der (q++cD_ S) (atS (q++cD_ S)) y∧(y.kind=1→Rch p S ⟨1,y.b⟩)∧(y.kind=2→Rch p S ⟨1,y.b⟩∧Rch p S ⟨2,y.r⟩)∧(y.kind=3→Rch p S ⟨3,y.r⟩)) ?_
 intro y hy hr
 cases hy with
 | r1 h=>exact SB (Der.step (.r1 (at1 h hr))) hr
 | r2 h=>exact SB (Der.step (.r2 (at1 h hr))) top
 | r10 hx hk h =>
   obtain⟨y,hy,n,e⟩:=k hx (by simp[ag_,hk])
   refine LK ?_ hr (g hx (by simp[ag_,hk]) (by simp[ae_,hk]))
   subst e
   exact Der.step (One.r10 (x:=y) hy hk (at1 h hr))
 | r3 hx hk h =>
   obtain⟨y,hy,n,e⟩:=k hx (by simpa [ag_,hk,ar_,ax_,ak_] using (h hr).2.1 s1)
   refine SB ?_ (g hx (by simpa [ag_,hk,ar_,ax_,ak_] using (h hr).2.1 s1) (by simp[ae_,hk]))
   subst e
   exact Der.step (One.r3 (x:=y) hy hk (h hr).1)
 | r4 hx hk h h' =>
   obtain⟨y,hy,n,e⟩:=k hx (by simpa [ag_,hk,ar_,ax_,ak_] using ⟨(h hr).2.1 s1,(h' hr).2.1 s1⟩)
   refine SB ?_ (g hx (by simpa [ag_,hk,ar_,ax_,ak_] using ⟨(h hr).2.1 s1,(h' hr).2.1 s1⟩) (by simp[ae_,hk]))
   subst e
   exact Der.step (One.r4 (x:=y) hy hk (h hr).1 (h' hr).1)
 | r5 hx hk h =>
   obtain⟨y,hy,n,e⟩:=k hx (by simpa [ag_,hk,ar_,ax_,ak_] using (h hr).2.1 s1)
   refine LK ?_ (g hx (by simpa [ag_,hk,ar_,ax_,ak_] using (h hr).2.1 s1) (by simp[ae_,hk])) (g hx (by simpa [ag_,hk,ar_,ax_,ak_] using (h hr).2.1 s1) (by simp[ae_,hk]))
   subst e
   exact Der.step (One.r5 (x:=y) hy hk (h hr).1)
 | r6 hx hk h =>
   obtain⟨y,hy,n,e⟩:=k hx (by simpa [ag_,hk,ar_,ax_,ak_] using ((h hr).2.2.1 rfl).2)
   refine LK ?_ ((h hr).2.2.1 rfl).1 (g hx (by simpa [ag_,hk,ar_,ax_,ak_] using ((h hr).2.2.1 rfl).2) (by simp[ae_,hk]))
   subst e
   exact Der.step (One.r6 (x:=y) hy hk (h hr).1)
 | r7 hx hk h h' =>
   have hb:=((h hr).2.2.1 rfl).1
   obtain⟨y,hy,n,e⟩:=k hx (by simpa [ag_,hk,ar_,ax_,ak_] using ⟨((h hr).2.2.1 rfl).2,((h' hb).2.2.1 rfl).2⟩)
   refine LK ?_ ((h' hb).2.2.1 rfl).1 (g hx (by simpa [ag_,hk,ar_,ax_,ak_] using ⟨((h hr).2.2.1 rfl).2,((h' hb).2.2.1 rfl).2⟩) (by simp[ae_,hk]))
   subst e
   exact Der.step (One.r7 (x:=y) hy hk (h hr).1 (h' hb).1)
 | r8 hx hk h h' =>
   have hb:=((h hr).2.2.1 rfl).1
   obtain⟨y,hy,n,e⟩:=k hx (by simpa [ag_,hk,ar_,ax_,ak_] using ⟨((h hr).2.2.1 rfl).2,(h' hb).2.1 s1⟩)
   refine SB ?_ (g hx (by simpa [ag_,hk,ar_,ax_,ak_] using ⟨((h hr).2.2.1 rfl).2,(h' hb).2.1 s1⟩) (by simp[ae_,hk]))
   subst e
   exact Der.step (One.r8 (x:=y) hy hk (h hr).1 (h' hb).1)
 | r9 h h'=>exact SB (Der.step (.r9 (h hr).1 (h' ((h hr).2.2.1 rfl).1).1)) bot
 | r11 hx hk h =>
   obtain⟨y,hy,n,e⟩:=k hx (by simpa [ag_,hk,ar_,ax_,ak_] using (h hr).2.1 s1)
   refine SP ?_ (g hx (by simpa [ag_,hk,ar_,ax_,ak_] using (h hr).2.1 s1) (by simp[ae_,hk]))
   subst e
   exact Der.step (One.r11 (x:=y) hy hk (h hr).1)
 | r12 h h' hm hl=>exact SP (Der.step (.r12 (h hr).1 (h' hr).1 trivial hl)) ((h hr).2.2.2 rfl)
 | r13 h h' hm hl=>exact SB (Der.step (.r13 (h hr).1 (h' hr).1 trivial hl)) bot
 | r14 hx hk h h1 h2 =>
   obtain⟨y,hy,n,e⟩:=k hx (by simpa [ag_,hk,ar_,ax_,ak_] using (h hr).2.2.2 rfl)
   refine SB ?_ (g hx (by simpa [ag_,hk,ar_,ax_,ak_] using (h hr).2.2.2 rfl) (by simp[ae_,hk]))
   subst e
   exact Der.step (One.r14 (x:=y) hy hk (h hr).1 h1 h2)
def gv_ (a:Ax):Prop:=a.kind=5∨a.kind=6∨a.kind=7
instance (a:Ax):Decidable (gv_ a):=by unfold gv_;infer_instance
def Mat (l:List Ax) (p:List Pc) (S:List Str) (i:Int):Prop:=(∃ a,l[i.toNat]? = some a∧gv_ a)∨∃ x∈p,x.frm=i∧Usb p S x
def matB (l:List Ax) (p:List Pc) (S:List Str) (i:Int):Bool:=((l[i.toNat]?).any fun a=>decide (gv_ a))||p.any fun x=>decide (x.frm=i)&&usbB p S x
theorem lH_ {l:List Ax} {p:List Pc} {S:List Str} {i:Int}:matB l p S i=true↔Mat l p S i:=by
 unfold matB Mat
 rw[Bool.or_eq_true,List.any_eq_true]
 refine or_congr ?_ ?_
 ·cases l[i.toNat]? <;> simp
 constructor
 ·rintro ⟨x,hx,h⟩
  rw[Bool.and_eq_true,decide_eq_true_eq,oD_]at h
  exact⟨x,hx,h⟩
 rintro ⟨x,hx,h1,h2⟩
 exact⟨x,hx,by rw[Bool.and_eq_true,decide_eq_true_eq,oD_];exact⟨h1,h2⟩⟩
def eC_ (l:List Ax) (p:List Pc) (S:List Str) (n:Nat):List Int:=(iot n).filter fun i=>matB l p S i
theorem jo_ {l:List Ax} {p:List Pc} {S:List Str} {n:Nat} (h:Mat l p S n):eC_ l p S (n+1)=eC_ l p S n++[(n:Int)]:=by
  unfold eC_
  rw[ju_,List.filter_append,List.filter_cons,if_pos (lH_.2 h)]
  rfl
theorem vy_ {l:List Ax} {p:List Pc} {S:List Str} {n:Nat} (h:¬ Mat l p S n):eC_ l p S (n+1)=eC_ l p S n:=by
  unfold eC_
  rw[ju_,List.filter_append,List.filter_cons,if_neg (fun q=>h (lH_.1 q))]
  simp
theorem sB_ {l:List Ax} {p:List Pc} {S:List Str}:eC_ l p S 0=[]:=by simp[eC_,iot]
theorem pt_ {l:List Ax} {p:List Pc} {S:List Str} {n:Nat} {i:Int}:i∈eC_ l p S n↔(0≤i∧i<n)∧Mat l p S i:=by
 unfold eC_
 rw[List.mem_filter,lH_]
 constructor
 ·rintro ⟨h1,h2⟩
  obtain⟨k,hk⟩:=List.getElem?_of_mem h1
  have e:=rC_ hk
  have hl:=(List.getElem?_eq_some_iff.1 hk).1
  simp[iot]at hl
  exact⟨by omega,h2⟩
 rintro ⟨⟨h1,h2⟩,h3⟩
 refine⟨?_,h3⟩
 simp only[iot,List.mem_map,List.mem_range]
 exact⟨i.toNat,by omega,by simp;omega⟩
theorem hS_ {l:List Ax} {p:List Pc} {S:List Str} (n:Nat):(eC_ l p S n).length≤n:=by
  unfold eC_
  refine Nat.le_trans (List.length_filter_le _ _) ?_
  simp[iot]
theorem iot_lt (n:Nat):(iot n).Pairwise (·<·):=by
  unfold iot
  rw[List.pairwise_map]
  exact List.Pairwise.imp (fun h=>by simpa using h) List.pairwise_lt_range
theorem vz_ {l:List Ax} {p:List Pc} {S:List Str} (n:Nat):(eC_ l p S n).Pairwise (·<·):=List.Pairwise.filter _ (iot_lt n)
def bR_ (l:List Ax) (w:List Int):List Ax:=w.filterMap fun i=>l[i.toNat]?
theorem gj_ {l:List Ax} {w:List Int} {i:Int} {a:Ax} (h:l[i.toNat]? = some a):bR_ l (w++[i])=bR_ l w++[a]:=by simp[bR_,h]
theorem jT_ {l:List Ax} {w:List Int} {a:Ax}:a∈bR_ l w↔∃ i∈w,l[i.toNat]? = some a:=by simp[bR_]
theorem hU_:∀ {l:List Ax} {i:Nat} {q:Pc},q∈ex_ i l↔∃ (j:Nat) (a:Ax),l[j]? = some a∧q∈a.pieces ((i+j:Nat):Int)
 | [],i,q=>by simp[ex_]
 | x::l,i,q=>by
   rw[ex_,List.mem_append,hU_]
   constructor
   · rintro (h|⟨j,a,h1,h2⟩)
     · exact⟨0,x,rfl,h⟩
     · exact⟨j+1,a,by simpa using h1,by rwa [show i+(j+1)=i+1+j by omega]⟩
   · rintro ⟨j,a,h1,h2⟩
     match j with
     | 0 => obtain rfl : x = a := by simpa using h1
            exact .inl h2
     | j+1=>exact .inr ⟨j,a,by simpa using h1,by rwa [show i+1+j=i+(j+1) by omega]⟩
theorem kq_ {a:Ax} {q:Pc} {f:Int} (g:Int) (h:q∈a.pieces f):∃ y∈a.pieces g,∃ n,{ y with frm:=n }=q:=by
  have h0:a.pieces f=(a.pieces 0).map (ee_ f):=by have:=Ax.pieces_shift 0 f a;rwa [Int.zero_add]at this
  have h1:a.pieces g=(a.pieces 0).map (ee_ g):=by have:=Ax.pieces_shift 0 g a;rwa [Int.zero_add]at this
  rw[h0]at h
  obtain⟨z,hz,rfl⟩:=List.mem_map.1 h
  exact⟨ee_ g z,by rw[h1];exact List.mem_map.2 ⟨z,hz,rfl⟩,z.frm+f,rfl⟩
theorem qC_ {l:List Ax} {S:List Str} (hl:l.length≤12) (hok:∀ x∈l,x.ok) (hc:∀ x∈l,x.check=0):∀ x∈ex_ 0 l,Usb (ex_ 0 l) S x→∃ y∈ex_ 0 (bR_ l (eC_ l (ex_ 0 l) S l.length)),∃ n,{ y with frm:=n }=x:=fun x hx hu=>by
  obtain⟨j,a,h1,h2⟩:=hU_.1 hx
  rw[Nat.zero_add]at h2
  have ha:=List.mem_of_getElem? h1
  have hj:=(List.getElem?_eq_some_iff.1 h1).1
  have hf:x.frm=j:=(Ax.pieces_all (f:=(j:Int)) (by omega) (by omega) (hok a ha) (hc a ha) x h2).frm
  have hm:(j:Int)∈eC_ l (ex_ 0 l) S l.length:=pt_.2 ⟨by omega,.inr ⟨x,hx,hf,hu⟩⟩
  have hp:a∈bR_ l (eC_ l (ex_ 0 l) S l.length):=jT_.2 ⟨j,hm,by simpa using h1⟩
  obtain⟨k,hk⟩:=List.getElem?_of_mem hp
  obtain⟨y,hy,n,e⟩:=kq_ ((0+k:Nat):Int) h2
  exact⟨y,hU_.2 ⟨k,a,hk,hy⟩,n,e⟩
theorem pi_ {l:List Ax} {w:List Int}:∀ x∈ex_ 0 (bR_ l w),∃ y∈ex_ 0 l,∃ n,{ y with frm:=n }=x:=fun x hx=>by
  obtain⟨j,a,h1,h2⟩:=hU_.1 hx
  obtain⟨i,_,hi⟩:=jT_.1 (List.mem_of_getElem? h1)
  obtain⟨y,hy,n,e⟩:=kq_ ((0+i.toNat:Nat):Int) h2
  exact⟨y,hU_.2 ⟨i.toNat,a,hi,hy⟩,n,e⟩
end Go.Proofs.YtamklbgaipakfaaGreatDoor
namespace Go.Vs
open Go Go.Sx
def orF:List Int→Int
  | []=>0
  | x::l=>if x=0 then orF l else x
theorem tQ_:∀ {l:List Int} {i:Nat} {x:Int},(∀ y∈l.take i,y=0)→l[i]? = some x→x≠0→orF l=x
  | [],_,_,_,h,_=>by simp at h
  | y::l,0,x,_,h,hx=>by simp at h;subst h;simp[orF,hx]
  | y::l,i+1,x,h0,h,hx=>by
    have hy:y=0:=h0 y (by simp)
    rw[orF,if_pos hy]
    exact tQ_ (i:=i) (fun z hz=>h0 z (by rw[List.take_succ_cons];exact List.mem_cons_of_mem _ hz)) (by simpa using h) hx
theorem pl_:∀ {l:List Int},(∀ y∈l,y=0)→orF l=0
  | [],_=>rfl
  | y::l,h=>by rw[orF,if_pos (h y (by simp))];exact pl_ fun z hz=>h z (by simp[hz])
theorem cI_neg (x y:Int):Lib.compareInt x y<0↔x<y:=by unfold Lib.compareInt;(repeat' split)<;>omega
theorem oi_ (x y:Int):Lib.compareInt x y=0↔x=y:=by unfold Lib.compareInt;(repeat' split)<;>omega
theorem uA_:∀ (x y:Str),Lib.compareBytes x y<0↔x<y
 | [],[]=>by simp[Lib.compareBytes]
 | [],b::y=>by simp[Lib.compareBytes]
 | a::x,[]=>by simp[Lib.compareBytes]
 | a::x,b::y=>by
   rw[Lib.compareBytes,List.cons_lt_cons_iff]
   by_cases h1:a<b
   · rw[if_pos h1];simp[h1]
   · by_cases h2:b<a
     · rw[if_neg h1,if_pos h2]
       have:a≠b:=fun e=>by subst e;exact h1 h2
       simp[h1,this]
     · have e:a=b:=UInt8.le_antisymm (UInt8.not_lt.1 h2) (UInt8.not_lt.1 h1)
       rw[if_neg h1,if_neg h2,uA_ x y];simp[e]
theorem jD_:∀ (x y:Str),Lib.compareBytes x y=0↔x=y
 | [],[]=>by simp[Lib.compareBytes]
 | [],b::y=>by simp[Lib.compareBytes]
 | a::x,[]=>by simp[Lib.compareBytes]
 | a::x,b::y=>by
   rw[Lib.compareBytes]
   by_cases h1:a<b
   · rw[if_pos h1]
     have:a≠b:=fun e=>by subst e;exact absurd h1 (UInt8.lt_irrefl a)
     simp[this]
   · by_cases h2:b<a
     · rw[if_neg h1,if_pos h2]
       have:a≠b:=fun e=>by subst e;exact h1 h2
       simp[this]
     · have e:a=b:=UInt8.le_antisymm (UInt8.not_lt.1 h2) (UInt8.not_lt.1 h1)
       rw[if_neg h1,if_neg h2,jD_ x y];simp[e]
theorem in_ (x:Int) (l:List Int):orF (x::l)<0↔x<0∨x=0∧orF l<0:=by
  rw[orF];split<;>omega
theorem iy_ (x:Int) (l:List Int):orF (x::l)=0↔x=0∧orF l=0:=by
  rw[orF];split<;>omega
theorem ru_:orF []=0:=rfl
theorem iQ_:∀ (x y:Str),Lib.compareBytes x y=if x<y then -1 else if y<x then 1 else 0
 | [],[]=>by simp[Lib.compareBytes]
 | [],b::y=>by simp[Lib.compareBytes]
 | a::x,[]=>by simp[Lib.compareBytes]
 | a::x,b::y=>by
   rw[Lib.compareBytes]
   by_cases h1:a<b
   · have l:a::x<b::y:=by rw[List.cons_lt_cons_iff];exact .inl h1
     rw[if_pos h1,if_pos l]
   · by_cases h2:b<a
     · have l:b::y<a::x:=by rw[List.cons_lt_cons_iff];exact .inl h2
       have nl:¬ a::x<b::y:=fun q=>absurd (List.lt_trans q l) (List.lt_irrefl _)
       rw[if_neg h1,if_pos h2,if_neg nl,if_pos l]
     · have e:a=b:=UInt8.le_antisymm (UInt8.not_lt.1 h2) (UInt8.not_lt.1 h1)
       subst e
       rw[if_neg h1,if_neg h2,iQ_ x y]
       simp only[List.cons_lt_cons_iff,h1,false_or,true_and]
def Tr3 (x y z:Int):Prop:=(x≤0→y≤0→z≤0∧(z=0→x=0∧y=0))∧(x=0→y=0→z=0)
theorem Tr3.or {x y z x' y' z':Int} (h:Tr3 x y z) (h':Tr3 x' y' z'):Tr3 (if x=0 then x' else x) (if y=0 then y' else y) (if z=0 then z' else z):=by
  unfold Tr3 at h h' ⊢
  (repeat' split)<;>omega
theorem Tr3.nil:Tr3 0 0 0:=by unfold Tr3;omega
theorem Tr3.orF {x y z:Int} {l m n:List Int} (h:Tr3 x y z) (h':Tr3 (Go.Vs.orF l) (Go.Vs.orF m) (Go.Vs.orF n)):Tr3 (Go.Vs.orF (x::l)) (Go.Vs.orF (y::m)) (Go.Vs.orF (z::n)):=by
  rw[Go.Vs.orF,Go.Vs.orF,Go.Vs.orF];exact h.or h'
def ed_:List Str→List Str→Int
  | [],[]=>0
  | [],_::_=>-1
  | _::_,[]=>1
  | x::xs,y::ys=>if Lib.compareBytes x y=0 then ed_ xs ys else Lib.compareBytes x y
theorem ng_:∀ a b,ed_ a b=0↔a=b
  | [],[]=>by simp[ed_]
  | [],_::_=>by simp[ed_]
  | _::_,[]=>by simp[ed_]
  | x::xs,y::ys=>by
    rw[ed_,List.cons.injEq,← jD_,← ng_ xs ys]
    split<;>simp_all
namespace Con
def core:Con→Con
  | mk k n l h _ _ ps=>mk k n l h none 0 (cores ps)
where cores:List Con→List Con
  | []=>[]
  | p::ps=>core p::cores ps
theorem nb_:∀ ps:List Con,core.cores ps=ps.map core
  | []=>rfl
  | p::ps=>by rw[core.cores,nb_ ps];rfl
theorem core_eq (c:Con):c.core=mk c.kind c.name c.lo c.hi none 0 (c.parts.map core):=by cases c;simp only[core,nb_,kind,name,lo,hi,parts]
def cmp:Con→Con→Int
  | mk k n l h _ _ ps,d=>orF [Lib.compareInt ((1+sz.szs ps:Nat):Int) (d.sz:Int),Lib.compareInt k d.kind,Lib.compareBytes n d.name,Lib.compareInt l d.lo,Lib.compareInt h d.hi,cmps ps d.parts]
where cmps:List Con→List Con→Int
  | [],[]=>0
  | [],_::_=>-1
  | _::_,[]=>1
  | p::ps,q::qs=>if cmp p q=0 then cmps ps qs else cmp p q
theorem cmp_eq (c d:Con):cmp c d=orF [Lib.compareInt (c.sz:Int) (d.sz:Int),Lib.compareInt c.kind d.kind,Lib.compareBytes c.name d.name,Lib.compareInt c.lo d.lo,Lib.compareInt c.hi d.hi,cmp.cmps c.parts d.parts]:=by cases c;rfl
mutual
theorem cmp_zero:∀ a b:Con,cmp a b=0↔a.core=b.core
  | mk k n l h a cp ps,mk k' n' l' h' a' cp' ps'=>by
    rw[cmp,core,core]
    simp only[iy_,ru_]
    simp only[oi_,jD_,nd_ ps ps',and_true,mk.injEq,kind,name,lo,hi,parts,true_and]
    constructor
    · rintro ⟨_,h2,h3,h4,h5,h6⟩;exact⟨h2,h3,h4,h5,h6⟩
    · rintro ⟨h2,h3,h4,h5,h6⟩
      refine⟨?_,h2,h3,h4,h5,h6⟩
      have:=li_ ps ps' h6
      simp only[sz];omega
theorem nd_:∀ a b:List Con,cmp.cmps a b=0↔core.cores a=core.cores b
  | [],[]=>by simp[cmp.cmps]
  | [],_::_=>by simp[cmp.cmps,core.cores]
  | _::_,[]=>by simp[cmp.cmps,core.cores]
  | x::xs,y::ys=>by
    rw[cmp.cmps,core.cores,core.cores,List.cons.injEq,← cmp_zero x y,← nd_ xs ys]
    split<;>simp_all
theorem sz_core:∀ a b:Con,a.core=b.core→a.sz=b.sz
  | mk k n l h a cp ps,mk k' n' l' h' a' cp' ps'=>by
    rw[core,core,mk.injEq]
    rintro ⟨_,_,_,_,_,_,h6⟩
    have:=li_ ps ps' h6
    simp only[sz];omega
theorem li_:∀ a b:List Con,core.cores a=core.cores b→sz.szs a=sz.szs b
  | [],[]=>fun _=>rfl
  | [],_::_=>by simp[core.cores]
  | _::_,[]=>by simp[core.cores]
  | x::xs,y::ys=>by
    rw[core.cores,core.cores,List.cons.injEq]
    rintro ⟨h1,h2⟩
    have:=sz_core x y h1
    have:=li_ xs ys h2
    simp only[sz.szs];omega
end
theorem cmp_self (a:Con):cmp a a=0:=(cmp_zero a a).2 rfl
end Con
def Ax.wgt (x:Ax):Int:=(if x.left.kind=0 then 0 else (x.left.sz:Int))+(if x.right.kind=0 then 0 else (x.right.sz:Int))+(x.roles.length:Int)+(if x.role=[] then 0 else 1)+(if x.a=[] then 0 else 1)+(if x.b=[] then 0 else 1)
def Ax.cmp (x y:Ax):Int:=orF [Lib.compareInt x.wgt y.wgt,Lib.compareInt x.kind y.kind,Con.cmp x.left y.left,Con.cmp x.right y.right,ed_ x.roles y.roles,Lib.compareBytes x.role y.role,Lib.compareBytes x.a y.a,Lib.compareBytes x.b y.b]
def Ax.alk (x y:Ax):Prop:=x.kind=y.kind∧x.left.core=y.left.core∧x.right.core=y.right.core∧x.roles=y.roles∧x.role=y.role∧x.a=y.a∧x.b=y.b
theorem Con.core_kind {a b:Con} (h:a.core=b.core):a.kind=b.kind:=by
  rw[Con.core_eq,Con.core_eq,Con.mk.injEq]at h;exact h.1
theorem Ax.cmp_zero (x y:Ax):cmp x y=0↔x.alk y:=by
 unfold cmp alk
 simp only[iy_,ru_]
 simp only[oi_,jD_,Con.cmp_zero,ng_,and_true]
 constructor
 ·rintro ⟨_,h⟩;exact h
 rintro ⟨h1,h2,h3,h4,h5,h6,h7⟩
 refine⟨?_,h1,h2,h3,h4,h5,h6,h7⟩
 unfold wgt
 rw[Con.core_kind h2,Con.core_kind h3,Con.sz_core _ _ h2,Con.sz_core _ _ h3,h4,h5,h6,h7]
theorem Ax.cmp_self (x:Ax):cmp x x=0:=(cmp_zero x x).2 ⟨rfl,rfl,rfl,rfl,rfl,rfl,rfl⟩
end Go.Vs
namespace Go.Proofs.YtamklbgaipakfaaGreatDoor
open Go Go.Sx Go.Proofs
attribute [local irreducible] Code.wp wpList wpAnyH
open Go.Vs
instance:Inhabited Fc:=⟨⟨0,[],[],[],0,0⟩⟩
theorem fm_ (x y:Int):Fn0 Tryz.prog 97 #[.int .i64 x,.int .i64 y] (.int .i64 (Lib.compareInt x y)) :=
  eb_ (callable Tryz.func97 rfl rfl) fun v _ _=>(Tryz.cmp_Compare_int x y v.w).mono (by rintro e w' ⟨rfl,rfl⟩;exact⟨rfl,⟨rfl,rfl,rfl,Nat.le_refl _,fun _ _=>rfl⟩,.inr (Nat.le_refl _)⟩)
theorem df_ (x y:Str):Fn0 Tryz.prog 100 #[str x,str y] (.int .i64 (Lib.compareBytes x y)) :=
  eb_ (callable Tryz.func100 rfl rfl) fun v _ _=>(Tryz.strings_Compare ⟨x.toArray⟩ ⟨y.toArray⟩ v.w).mono (by rintro e w' ⟨rfl,rfl⟩;exact⟨rfl,⟨rfl,rfl,rfl,Nat.le_refl _,fun _ _=>rfl⟩,.inr (Nat.le_refl _)⟩)
def kM_ (x y:Fc):Int:=orF [Lib.compareInt x.kind y.kind,Lib.compareBytes x.a y.a,Lib.compareBytes x.b y.b,Lib.compareBytes x.r y.r,Lib.compareInt x.lo y.lo,Lib.compareInt x.hi y.hi]
theorem ux_ (x y:Fc):kM_ x y<0↔x.lt y:=by
  unfold kM_ Fc.lt
  rw[in_,in_,in_,in_,in_,in_]
  simp only[cI_neg,oi_,uA_,jD_,orF,Int.lt_irrefl,and_false,or_false]
theorem lx_ (l:List Int) (ad:Option Addr) (cap:Nat) (hl:l.length≤1000):Tri Tryz.prog 96 #[.slice ad (List.length l) cap] [] [al_ ad (List.flatMap ew_ l)] (fun _:Unit=>.int .i64 (orF l)) (fun _=>[]) (fun _=>[]):=by
 refine l_ Tryz.func96 rfl rfl Tryz.ntmps96 rfl fun v0=>?_
 refine Zz 19 ?_
 refine ai_ (ι:={y:Nat // y≤l.length∧∀ z∈l.take y,z=0}) (fun y=>[(3,.int .i64 0),(6,.slice ad (List.length l) cap),(7,.int .i64 (List.length l:Int)),(8,.int .i64 (y.1:Int))]) (fun y=>([])) (fun y=>[al_ ad (List.flatMap ew_ l)]) (fun y=>l.length - y.1) ⟨(0:Nat),by simp,by simp⟩ zl g_ zh ?_
 rintro ⟨i,hi,h0⟩
 dsimp only at hi h0 ⊢
 refine Zi 2 (fun hr1=>?_) fun hr1=>?_
 ·refine Zz 13 ?_
  exact N_ Tryz.results96 () (V_ rfl (pl_ fun y hy=>h0 y (by rw[List.take_of_length_le (by omega)];exact hy)).symm) g_ zt
 obtain⟨hlx1,x1,hx1,hmx1⟩:=zge (show i<List.length l by omega)
 refine Zi 19 (fun hr2=>?_) fun hr2=>?_
 ·refine Zz 10 ?_
  exact J_ ⟨i+1,hlx1,fun y hy=>by rw[List.take_add_one,hx1]at hy;simp only[Option.toList_some,List.mem_append,List.mem_singleton]at hy;rcases hy with hy|rfl;exact h0 y hy;omega⟩ (by dsimp only;omega) zl g_ zh
 refine Zz 10 ?_
 exact N_ Tryz.results96 () (V_ rfl (tQ_ h0 hx1 (by assumption)).symm) g_ zt
theorem cmpF_c (x y:Fc):Fn0 Tryz.prog 76 #[Fc.val x,Fc.val y] (.int .i64 (kM_ x y)):=by
  refine l_ Tryz.func76 rfl rfl Tryz.ntmps76 rfl fun v0=>?_
  refine Zz 2 ?_
  refine U_ rfl rfl fun b1=>U_ rfl rfl fun b2=>Zz 5 ?_
  refine z_ 9 [0,1,2,3,5,6,7,8,10,11,12,13,15,16,17,18,20,21,22,23,25,26,27,28] zk zs (Zz 25 ?_)
  refine j_ 4 rfl zk (f_ (fm_ x.kind y.kind) rfl g_ zt rfl fun _=>Zz 3 ?_)
  refine j_ 9 rfl zk (f_ (df_ x.a y.a) rfl g_ zt rfl fun _=>Zz 3 ?_)
  refine j_ 14 rfl zk (f_ (df_ x.b y.b) rfl g_ zt rfl fun _=>Zz 3 ?_)
  refine j_ 19 rfl zk (f_ (df_ x.r y.r) rfl g_ zt rfl fun _=>Zz 3 ?_)
  refine j_ 24 rfl zk (f_ (fm_ x.lo y.lo) rfl g_ zt rfl fun _=>Zz 3 ?_)
  refine j_ 29 rfl zk (f_ (fm_ x.hi y.hi) rfl g_ zt rfl fun _=>Zz 3 ?_)
  refine j_ 30 rfl zk (E_ ac_ ao_ bq_ rfl rfl rfl rfl rfl rfl fun b3=>?_)
  refine ap_ (List.flatMap ew_ [(Lib.compareInt x.kind y.kind),(Lib.compareBytes x.a y.a),(Lib.compareBytes x.b y.b),(Lib.compareBytes x.r y.r),(Lib.compareInt x.lo y.lo),(Lib.compareInt x.hi y.hi)]) e_ rfl ?_
  refine Zz 3 ?_
  refine j_ 31 rfl zk (f_ (lx_ [(Lib.compareInt x.kind y.kind),(Lib.compareBytes x.a y.a),(Lib.compareBytes x.b y.b),(Lib.compareBytes x.r y.r),(Lib.compareInt x.lo y.lo),(Lib.compareInt x.hi y.hi)] (some ⟨b3,0,none⟩) 6 (by simp)) rfl g_ zf rfl fun _=>Zz 3 ?_)
  refine z_ 0 [32] zk zs (Zz 5 ?_)
  exact N_ Tryz.results76 () (V_ rfl (by rfl)) g_ zt
end Go.Proofs.YtamklbgaipakfaaGreatDoor
namespace Go.Proofs.YtamklbgaipakfaaGreatDoor
open Go Go.Sx Go.Proofs
attribute [local irreducible] Code.wp wpList wpAnyH
open Go.Vs
structure Cl where
  atoms:List Str
  aad:Option Addr
  acap:Nat
  facts:List Fc
  fad:Option Addr
  fcap:Nat
def Cl.cells (c:Cl):List Value:=[.slice c.aad c.atoms.length c.acap,.slice c.fad c.facts.length c.fcap]
theorem Cl.cells_len (c:Cl):c.cells.length=2:=rfl
def Cl.val (c:Cl):Value:=.agg c.cells.toArray
def Cl.row (c:Cl):List Fct:=[al_ c.aad (List.flatMap aE_ c.atoms),al_ c.fad (List.flatMap Fc.cells c.facts)]
def Cl.no:Cl:=Cl.mk [] none 0 [] none 0
structure Cl.ok (c:Cl):Prop where
  al:c.atoms.length≤c.acap
  am:c.acap≤maxLen
  az:c.aad=none→c.acap=0
  fl:c.facts.length≤c.fcap
  fm:c.fcap≤maxLen
  fz:c.fad=none→c.fcap=0
theorem vh_ {s:Str} (h:cA_ s=true):s≠[]:=fun e=>by subst e;revert h;decide
theorem sp_ {s:Str} (h:aX_ s=true):s≠[]:=fun e=>by subst e;revert h;decide
theorem rN_ {p:Pc} (h:p.valid=true):p.vok:=by
 unfold Pc.valid at h
 split at h
 ·simp at h
 rename_i h1
 split at h
 ·simp at h
 rename_i h2
 split at h
 ·simp at h
 have hk:p.kind=1∨p.kind=2∨p.kind=3∨p.kind=4∨p.kind=5∨p.kind=6∨p.kind=7∨p.kind=8∨p.kind=9:=by omega
 have hn:∀ {b:Bool} {s:Str},ch_ b s cA_=true→b=true→s≠[]:=fun h1 h2=>by
   subst h2;simp[ch_]at h1;exact vh_ h1
 have hn':∀ {b:Bool} {s:Str},ch_ b s aX_=true→b=true→s≠[]:=fun h1 h2=>by
   subst h2;simp[ch_]at h1;exact sp_ h1
 simp only[Bool.and_eq_true]at h
 obtain⟨⟨⟨⟨⟨_,_⟩,_⟩,hr⟩,hs⟩,ht⟩:=h
 unfold Pc.rok at *
 refine⟨⟨fun q=>?_,fun q=>?_,fun q=>?_⟩,fun q=>?_⟩
 ·rcases q with q|q|q|q|q|q|q<;>rw[q]at hr
  ·exact hn hr (by decide)
  ·exact hn hr (by decide)
  ·exact hn hr (by decide)
  ·exact hn' hr (by decide)
  ·exact hn hr (by decide)
  ·exact hn hr (by decide)
  exact hn' hr (by decide)
 ·rw[q]at hs ht;exact⟨hn hs (by decide),hn ht (by decide)⟩
 ·rw[q]at ht;exact hn ht (by decide)
 rcases q with q|q<;>rw[q]at h2<;>have:(nus 8).numbers=true∧(nus 9).numbers=true:=by decide
 all_goals simp only[this.1,this.2,true_and]at h2;omega
theorem uz_ {p:List Pc} (h:dX_ p=0):p.length≤16384∧p.all Pc.valid=true:=by
 unfold dX_ at h
 split at h
 ·simp at h
 split at h
 ·exact⟨by omega,by assumption⟩
 simp at h
theorem sV_ {p:List Pc} (h:dX_ p=0):∀ x∈p,x.vok:=fun x hx=>rN_ (List.all_eq_true.1 (uz_ h).2 x hx)
section
variable {P:Program} {N:Nf} {v0:Vw} {H0:Hp} {fr:Fr} {H F Ha Hu Ho Hi Hr Hm Hs:Hp} {Γ:List Fct}
theorem eN_ {fn:Func} {t s b n:Nat} {ty T:TypeId} {us:List Value} {u:Value} (i:Nat) (hr:fn.results=#[.cell t ty,.tmp s]) (ha:∀ w,(isAgg ty).run P w=.ok true w) (hs:∀ w,(sizeOf ty).run P w=.ok n w) (hn:us.length=n) (hx:Fr.get fr t=some (zp_ b 0)) (hu:Fr.get fr s=some u)
    (hi:H[i]? = some (b,.cells us.toArray T (0,0))) (a:Act) (v:Vw) (h1:Fr.sat N fr a) (h2:v.sat H):(results fn a.tmps).run P v.w=.ok (.tuple #[.agg us.toArray,u]) v.w:=by
  have e:=h1.val t _ hx
  have e2:=h1.val s _ hu
  have hl:=ef_ (t:=ty) (w:=v.w) (b:=b) (off:=0) ha hs hn (fun j y hj=>by rw[Nat.zero_add,fi_ h2 hi];simpa using hj)
  simp[results,hr,e,e2,asAddr,hl]
theorem qu_ (h:H.Perm ((Ha++(Hu++(Ho++(Hi++(Hr++(Hm++Hs))))))++F)):H.Perm (((Ha++(Hu++(Ho++(Hi++(Hr++Hm)))))++Hs)++F):=by simpa [List.append_assoc] using h
theorem nC_:(((Ha++(Hu++(Ho++(Hi++(Hr++Hm)))))++Hs)++F).Perm (Ha++(Hu++(Ho++(Hi++(Hr++(Hm++(Hs++F))))))):=by simp[List.append_assoc]
theorem vq_ {a b c:Nat×Obj} {Hq:Hp}:((Ha++(Hu++(Ho++(Hi++(Hr++(Hm++(a::b::([c]++Hq))))))))++F).Perm (Ha++(Hu++(Ho++(Hi++(Hr++(Hm++(a::b::([c]++(Hq++F))))))))):=by simp[List.append_assoc]
end
theorem fK_:iv_ Tryz.prog 61 [(0,1),(1,1)] [.slice none 0 0,.slice none 0 0]:=⟨_,Tryz.zeroValue61,cZ_,fun w=>by simp[gR_,Tryz.sizeOf59]⟩
end Go.Proofs.YtamklbgaipakfaaGreatDoor
